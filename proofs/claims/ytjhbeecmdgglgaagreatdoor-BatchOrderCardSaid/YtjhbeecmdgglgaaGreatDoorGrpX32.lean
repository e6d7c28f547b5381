/-Batches: index (the numbers of a side's rows, by their keys). Batches: a copy of numbers; the stable sort of nothing; a sorted row, and the latest tha -/
import Derived.Test.YtjhbeecmdgglgaaGreatDoorGrpX31
import Derived.Test.YtjhbeecmdgglgaaGreatDoorGrpX28
import Derived.Test.YtjhbeecmdgglgaaGreatDoorGrpX9
import Derived.Test.YtjhbeecmdgglgaaGreatDoorGrpX12
set_option linter.unusedSimpArgs false
set_option linter.unusedVariables false
namespace Go.Proofs.YtjhbeecmdgglgaaGreatDoor
open Go.RowKit Go.Maps
def keyVs (p:Pl) (side:Int) (r:List Val):List Val:=(colsT p side).map (pickV r)
def hasK (p:Pl) (side:Int) (r:List Val):Bool:=allB (fun x:Val=>x.k != 0) (keyVs p side r)
theorem keyFor_eq (p:Pl)(side:Int)(r:List Val):keyFor p side r=if hasK p side r then(str (keyRow (keyVs p side r)),true)else(⟨#[]⟩,false):=rfl
theorem keyVs_good {p:Pl}{side:Int}{r:List Val}(hz:checkP p=0)(h:rowE p side r=0)(hf:Fine r):GoodR (keyVs p side r):=by
 have hq:rowR p side r=0:=by unfold rowR;rw[if_pos hz];exact h
 have h1:=picked_fine (rowR_fine hq) hf;exact goodR_of h1.1 h1.2
theorem str_row_inj {a b:List Val}(ha:GoodR a)(hb:GoodR b):str (keyRow a)=str (keyRow b)↔a=b:=by
 constructor
 ·intro h
  have h1:=str_same ha hb;rw[h]at h1;simp only[beq_self_eq_true]at h1;exact(rowsF_zero ha hb).1 (by simpa using h1.symm)
 ·rintro rfl;rfl
theorem keyed_iff {p:Pl}{side:Int}{r s:List Val}(hr:GoodR (keyVs p side r))(hs:GoodR s):keyed p side r (str (keyRow s))=(hasK p side r&&decide (keyVs p side r=s)):=by
 unfold keyed;rw[keyFor_eq];cases h:hasK p side r with
 |false=>rfl
 |true=>
  simp only[if_true,Bool.true_and];rw[decide_eq_decide];exact str_row_inj hr hs
theorem idxs_step {p:Pl}{R:List Cg}{n:Nat}{x:Cg}{k:ByteArray}(h:R[n]?=some x):idxs p (R.take (n+1)) k=idxs p (R.take n) k++(if keyed p 2 x.2 k then[(n:Int)]else[]):=by
 obtain⟨hn,e⟩:=List.getElem?_eq_some_iff.1 h
 have hr: ∀m i,i<m→m≤R.length→rowAt (R.take m) i=rowAt R i:=by
  intro m i hi hm;unfold rowAt;rw[List.getD_eq_getElem?_getD,List.getD_eq_getElem?_getD,List.getElem?_take_of_lt hi]
 have hx:rowAt R n=x.2:=by unfold rowAt;rw[List.getD_eq_getElem?_getD,h];rfl
 unfold idxs;rw[List.length_take,List.length_take,Nat.min_eq_left (by omega),Nat.min_eq_left (by omega),List.range_succ,List.filter_append,List.map_append]
 congr 1
 ·congr 1
  refine List.filter_congr fun i hi=> ?_;rw[List.mem_range]at hi;rw[hr (n+1) i (by omega) (by omega),hr n i hi (by omega)]
 ·rw[List.filter_cons,List.filter_nil,hr (n+1) n (by omega) (by omega),hx]
  cases keyed p 2 x.2 k<;>rfl
theorem lookI_put {X:List PrtI}{k s:List Val}{v:Value}{c:Int}(hs:Rises (axI X))(hk:GoodR k)(hg:GoodR s):(lookI (putXI X k v c) s).2=if k=s then(lookI X k).2++[c]else(lookI X s).2:=by
 induction X with
 |nil=>
  show(if rowsF k s=0 then(v,[c])else(Value.slice none 0 0,[])).2=if k=s then[]++[c]else[]
  by_cases h:k=s
  ·subst h;rw[if_pos (rowsF_self hk),if_pos rfl];rfl
  ·rw[if_neg (fun e=>h ((rowsF_zero hk hg).1 e)),if_neg h]
 |cons x t ih=>
  have hx:GoodR x.r:=hs.good (x.r,codeV x.v) (List.mem_cons_self ..);have ht:Rises (axI t):=⟨fun p hp=>hs.good p (List.mem_cons_of_mem _ hp),(List.pairwise_cons.1 hs.rise).2⟩;have hlt: ∀y∈t,rowsF x.r y.r<0:=fun y hy=>(List.pairwise_cons.1 hs.rise).1 (y.r,codeV y.v) (List.mem_map.2 ⟨y,hy,rfl⟩);have hgt: ∀y∈t,GoodR y.r:=fun y hy=>ht.good (y.r,codeV y.v) (List.mem_map.2 ⟨y,hy,rfl⟩);show(lookI (if rowsF x.r k=0 then⟨x.r,v,x.l++[c]⟩::t else if rowsF x.r k<0 then x::putXI t k v c else⟨k,v,[c]⟩::x::t) s).2=if k=s then(if rowsF x.r k=0 then(x.v,x.l)else lookI t k).2++[c]else(if rowsF x.r s=0 then(x.v,x.l)else lookI t s).2
  by_cases h1:rowsF x.r k=0
  ·have e:=(rowsF_zero hx hk).1 h1
   rw[if_pos h1,if_pos h1];show(if rowsF x.r s=0 then(v,x.l++[c])else lookI t s).2=_;by_cases h:k=s
   ·subst h;rw[if_pos h1,if_pos rfl]
   ·rw[if_neg h,e,if_neg (fun e2=>h ((rowsF_zero hk hg).1 e2)),if_neg (fun e2=>h ((rowsF_zero hk hg).1 e2))]
  ·rw[if_neg h1,if_neg h1]
   by_cases h2:rowsF x.r k<0
   ·rw[if_pos h2]
    show(if rowsF x.r s=0 then(x.v,x.l)else lookI (putXI t k v c) s).2=_;by_cases h3:rowsF x.r s=0
    ·have e:=(rowsF_zero hx hg).1 h3
     rw[if_pos h3,if_pos h3];by_cases h:k=s
     ·subst h;exact absurd h3 h1
     ·rw[if_neg h]
    ·rw[if_neg h3,if_neg h3];exact ih ht
   ·rw[if_neg h2]
    show(if rowsF k s=0 then(v,[c])else if rowsF x.r s=0 then(x.v,x.l)else lookI t s).2=_;by_cases h:k=s
    ·subst h
     rw[if_pos (rowsF_self hk),if_pos rfl]
     have hnone: ∀u:List PrtI,(∀y∈u,rowsF y.r k≠0)→lookI u k=(.slice none 0 0,[]):=by
      intro u
      induction u with
      |nil=>intro _;rfl
      |cons y u ih2=>
       intro hy;unfold lookI;rw[if_neg (hy y (by simp))];exact ih2 fun z hz=>hy z (by simp[hz])
     rw[hnone t fun y hy e=>by
      have e:=(rowsF_zero (hgt y hy) hk).1 e;have:=hlt y hy;rw[e]at this;omega]
     rfl
    ·rw[if_neg (fun e=>h ((rowsF_zero hk hg).1 e)),if_neg h]
def IxTo (p:Pl) (R:List Cg) (n:Nat) (X:List PrtI):Prop:= ∀s,GoodR s→(lookI X s).2=idxs p (R.take n) (str (keyRow s))
theorem IxTo.start {p:Pl}{R:List Cg}:IxTo p R 0 []:=fun _ _=>rfl
theorem IxTo.skip {p:Pl}{R:List Cg}{n:Nat}{X:List PrtI}{x:Cg}(h:IxTo p R n X)(hx:R[n]?=some x)(hk:hasK p 2 x.2=false):IxTo p R (n+1) X:=fun s hs=>by
 rw[h s hs,idxs_step hx];have:keyed p 2 x.2 (str (keyRow s))=false:=by unfold keyed;rw[keyFor_eq,hk];rfl
 rw[this];simp
theorem IxTo.put {p:Pl}{R:List Cg}{n:Nat}{X:List PrtI}{x:Cg}{v:Value}(h:IxTo p R n X)(hr:Rises (axI X))(hx:R[n]?=some x)(hk:hasK p 2 x.2=true)(hg:GoodR (keyVs p 2 x.2)):IxTo p R (n+1) (putXI X (keyVs p 2 x.2) v (n:Int)):=fun s hs=>by
 rw[lookI_put hr hg hs,idxs_step hx,keyed_iff hg hs,hk,Bool.true_and];by_cases e:keyVs p 2 x.2=s
 ·subst e;rw[if_pos rfl,h _ hg];simp
 ·rw[if_neg e,h s hs];simp[e]
theorem IMap.few_le {w:World}{base M N N':Nat}{X:List PrtI}(h:IMap w base M N X)(hn:N≤N'):IMap w base M N' X:=by
 obtain⟨n,h1,h2⟩:=h.map;exact⟨⟨n,Nat.le_trans h1 hn,h2⟩,h.mb,h.rises,h.each,fun q hq=>Nat.le_trans (h.few q hq) hn,h.far,h.apart⟩
set_option maxHeartbeats 4000000 in
set_option maxRecDepth 10000 in
theorem index_any (p:Pl)(vR:Value)(R:List Chn)(w:World)(h:p.ok w)(hfit:p.fit)(hz:checkP p=0)(hR:Chs w vR R)(hfr: ∀x∈R,Fine x.r)(hrow: ∀x∈R,rowE p 2 x.r=0)(hl:R.length≤4096)(hm:Mx w):
 Calls Tryz.prog 36 #[.agg #[.int .i64 p.kind,.int .i64 p.mode,.int .i64 p.low,.int .i64 p.high,.int .i64 p.size,.int .i64 p.limit,p.vl,p.vr,p.vk,p.vq,.bool p.grouped,p.vg,p.va],.int .i64 2,vR] w fun e w'=> ∃(M:Nat) (X:List PrtI),e= .returned (.map (some M))∧IMap w' (w.heap.size+1) M R.length X∧IxTo p (ac R) R.length X∧Below w.heap.size w w':=by
 have HV:=Lib.hid hR;have HM:=Lib.hid hm;have HKO:=Lib.hid (fun(W:World) (hb:Below w.heap.size w W) (x:Chn) (hx:x∈R)=>keyOf_any p 2 x.v x.r W (h.below hb) hfit ((hR.rows x hx).below hb) (hfr x hx) (hm.below hb))
 have HKE:=Lib.hid (fun(x:Chn) (hx:x∈R)=>show keyOfR p 2 x.r=(if hasK p 2 x.r then(str (keyRow (keyVs p 2 x.r)),true)else(⟨#[]⟩,false))∧GoodR (keyVs p 2 x.r)∧rowR p 2 x.r=0 from by
  have hq:rowR p 2 x.r=0:=by unfold rowR;rw[if_pos hz];exact hrow x hx
  exact⟨if_pos hq,keyVs_good hz (hrow x hx) (hfr x hx),hq⟩)
 obtain⟨A0,c0,h0,n0,m0,-⟩:=id h.l;obtain⟨A1,c1,h1,n1,m1,-⟩:=id h.r;obtain⟨A2,c2,h2,n2,m2,-⟩:=id h.k;obtain⟨A3,c3,h3,n3,m3,-⟩:=id h.q;obtain⟨A4,c4,h4,n4,m4,-⟩:=id h.g;obtain⟨A5,c5,h5,n5,m5,-⟩:=id h.a;obtain⟨Av,cv,rfl,nv,mv,-⟩:=id hR.sl;unfold maxLen at mv;rw[h0,h1,h2,h3,h4,h5]at HKO⊢;have HB:=Lib.hid (below_alloc w (.cells #[.int .i64 p.kind,.int .i64 p.mode,.int .i64 p.low,.int .i64 p.high,.int .i64 p.size,.int .i64 p.limit,.slice A0 p.left.length c0,.slice A1 p.right.length c1,.slice A2 p.lkeys.length c2,.slice A3 p.rkeys.length c3,.bool p.grouped,.slice A4 p.group.length c4,.slice A5 p.aggs.length c5] 25));have HK0:=Lib.hid (Blk.new w 25 #[.int .i64 p.kind,.int .i64 p.mode,.int .i64 p.low,.int .i64 p.high,.int .i64 p.size,.int .i64 p.limit,.slice A0 p.left.length c0,.slice A1 p.right.length c1,.slice A2 p.lkeys.length c2,.slice A3 p.rkeys.length c3,.bool p.grouped,.slice A4 p.group.length c4,.slice A5 p.aggs.length c5]);obtain⟨W1,hW1⟩: ∃V,w.alloc (.cells #[.int .i64 p.kind,.int .i64 p.mode,.int .i64 p.low,.int .i64 p.high,.int .i64 p.size,.int .i64 p.limit,.slice A0 p.left.length c0,.slice A1 p.right.length c1,.slice A2 p.lkeys.length c2,.slice A3 p.rkeys.length c3,.bool p.grouped,.slice A4 p.group.length c4,.slice A5 p.aggs.length c5] 25)=V:=⟨_,rfl⟩;have HW1:Hid (W1.heap.size=w.heap.size+1):=Lib.hid (by rw[←hW1];simp);rw[hW1]at HB HK0;have hyW:Below W1.heap.size W1 W1:=Below.refl _ _;have HPM:=Lib.hid (IMap.made W1 W1.heap.size (Nat.le_refl _));have hy5:=hyW.alloc hyW.size (.map #[] 0);obtain⟨M,hM⟩: ∃y,W1.heap.size=y:=⟨_,rfl⟩;rw[hM]at HPM;have HMW:=Lib.hid hM;obtain⟨w5,hw5⟩: ∃V,W1.alloc (.map #[] 0)=V:=⟨_,rfl⟩;rw[hw5]at HPM hy5;clear h h0 h1 h2 h3 h4 h5 n0 n1 n2 n3 n4 n5 m0 m1 m2 m3 m4 m5 hR hm hyW hfit hz hfr hrow;have hmm:= @run_makeMap Tryz.prog;go_enter Tryz.func36,Tryz.ntmps36
 go_upto_region 2 with fail
 clear hw5 hM hW1 hmm
 go_wp2_with fail
 go_loopw[8,9,10,11,12,16] (fun _ _ _ _ _ iv wr=> ∃(k:Nat) (X:List PrtI),k≤R.length∧iv= .int .i64 k∧Hid (IMap wr M M k X)∧Hid (IxTo p (ac R) k X)∧Below W1.heap.size W1 wr) (fun _ _ _ _ _ iv _=>R.length-(intOf iv).toNat)
 case atStart=>exact⟨0,[],by omega,rfl,HPM,Lib.hid IxTo.start,hy5⟩
 case round=>
  clear HPM hy5;rename World=>wr
  obtain⟨k,X,hk,rfl,HX,HIX,hyr⟩:=hrel;have hbr:=below_trans HB.out hyr;by_cases hlt:k<R.length
  ·have hx:=List.getElem?_eq_getElem (l:=R) hlt
   generalize R[k]=x at hx;have hxm:=List.mem_of_getElem? hx;obtain⟨Ax,cx,ex,nx,mx,-⟩:=id (HV.out.rows x hxm);obtain⟨xv,xr,xk⟩:=x;simp only at ex nx;subst ex;obtain⟨x,hxe⟩: ∃x,x=(⟨.slice Ax xr.length cx,xr,xk⟩:Chn):=⟨_,rfl⟩;have hxr:xr=x.r:=by rw[hxe]
   have hxk:xk=x.k:=by rw[hxe]
   have hxv:x.v= .slice Ax x.r.length cx:=by rw[hxe]
   rw[←hxe]at hx hxm;clear hxe;subst hxr hxk;obtain⟨bv,ov,hAv,-,hcb⟩:=chn_at HV.out.sl rfl hx;subst hAv;obtain⟨d0,d1⟩:=hcb _ hbr;rw[hxv]at d1;obtain⟨hke,hgk,hq⟩:=HKE.out x hxm;have HKX:=Lib.hid (fun(W:World) (hb:Below w.heap.size w W)=>HKO.out W hb x hxm);rw[hxv,hke,hq]at HKX;have HGK:=Lib.hid hgk;have hac:(ac R)[k]?=some (x.k,x.r):=by unfold ac;rw[List.getElem?_map,hx];rfl
   have HAC:=Lib.hid hac;have k0:(0:Int)≤(k:Int):=by omega
   have k1:(k:Int)<(R.length:Int):=by omega
   have hyc:=hyr.alloc hyr.size (.cells #[.int .i64 x.k,.slice Ax x.r.length cx] 53);have HKC:=Lib.hid (Blk.new wr 53 #[.int .i64 x.k,.slice Ax x.r.length cx]);have HBC:=Lib.hid (below_alloc wr (.cells #[.int .i64 x.k,.slice Ax x.r.length cx] 53));obtain⟨wc,hwc⟩: ∃V,wr.alloc (.cells #[.int .i64 x.k,.slice Ax x.r.length cx] 53)=V:=⟨_,rfl⟩;rw[hwc]at hyc HKC HBC;have HYC:=Lib.hid hyc;have hbc:=below_trans HB.out hyc;obtain⟨z0,z1,z2,z3,z4,z5,z6,z7,z8,z9,z10,z11,z12⟩:=pl_cells (HK0.out.below hyc);have hy1:=HKC.out.cell 1 _ rfl;clear hx hcb hxm hke hgk hq hac hxv hbr
   go_upto_region 5 with fail
   clear hwc;cases hz:hasK p 2 x.r with
   |false=>
    rw[hz]at HKX;have HZ:=Lib.hid hz;clear hz
    go_wp2_with fail
    refine Calls.mono (by with_reducible exact HKX.out _ hbc) ?_;rintro e w6 ⟨rfl,hb6⟩;have hb26:=hyc.trans (hb6.mono hyc.size);have HX6:=Lib.hid ((HX.out.below (below_trans HBC.out hb6)).few_le (Nat.le_succ k));have HI6:=Lib.hid (HIX.out.skip HAC.out HZ.out);clear hb6 z0 z1 z2 z3 z4 z5 z6 z7 z8 z9 z10 z11 z12
    go_wp2_with fail
    go_roundw
    case rel=>exact⟨k+1,X,by omega,by go_num,HX6,HI6,hb26⟩
    case measure=>simp[intOf];omega
   |true=>
    rw[hz]at HKX;have HZ:=Lib.hid hz;clear hz
    go_wp2_with fail
    refine Calls.mono (by with_reducible exact HKX.out _ hbc) ?_;rintro e w6 ⟨rfl,hb6⟩;have HY6:=Lib.hid (hyc.trans (hb6.mono hyc.size));have HX6:=Lib.hid (HX.out.below (below_trans HBC.out hb6));have hlook:=HX6.out.look HGK.out (by omega);have hfound:=HX6.out.found HGK.out;have HKS:=Lib.hid (keyS HGK.out);obtain⟨LP,hLP⟩: ∃y,lookI X (keyVs p 2 x.r)=y:=⟨_,rfl⟩;rw[hLP]at hlook hfound;have HLP:=Lib.hid hLP;obtain⟨LV,LL⟩:=LP;simp only at hlook hfound;obtain⟨fo,fl,fM⟩:=hfound;obtain⟨A9,n9,c9,rfl⟩:=own_slice fo;have HFO:=Lib.hid (fo.alloc (.cells #[.int .i64 k] 3));have HCN:=Lib.hid (Sl.block (Blk.new w6 3 #[.int .i64 k]) 1 1 (Nat.le_refl _) (by decide));have HBA:=Lib.hid (below_alloc w6 (.cells #[.int .i64 k] 3));have HFL:=Lib.hid fl;generalize hky:str (keyRow (keyVs p 2 x.r))=ky at hlook HKS;clear hLP fo hb6 hky z0 z1 z2 z3 z4 z5 z6 z7 z8 z9 z10 z11 z12
    go_wp2_with (first
     |(at_builtin;refine wpList_app rfl (.tmp 35) (.tmp 37) 22 rfl M 3 1 8 Tryz.underlying22 intI _ LL.length _ rfl HFO.out _ 1 [.int .i64 k] rfl HCN.out rfl (by simp[Value.oneCell']) ?_ ?_ ?_ ?_)
     |go_in)
    ·unfold maxLen;have:=HFL.out;omega
    ·have:=HFL.out;omega
    ·have:=HY6.out.size;have:=HMW.out;simp;omega
    ·intro v7 w7 hown7 hg7 hat7
     obtain⟨nm,hnm,hm6⟩:=(HX6.out.below HBA.out).map;have hm7:=map_turned hm6 (turned_grown hg7) (fun e=>fM e);have HN:Hid (nm<maxLen):=Lib.hid (by unfold maxLen;omega);have HO7:=Lib.hid hown7;have HG7:=Lib.hid hg7;have HT7:=Lib.hid hat7;have HSE:=Lib.hid (slcE_own hown7 (by unfold maxLen;have:=HFL.out;omega));clear hm6 hown7 hg7 hat7
     go_wp2_with (at_mapUpdate;refine wpList_mapUpdate_own _ rfl _ _ _ 70 rfl 9 22 lawS Tryz.underlying70 slcE M nm _ rfl hm7 HN.out _ _ _ rfl rfl HKS.out _ [] HSE.out ?_;intro w8 hown8 hg8)
     have HPUT:=Lib.hid (HX6.out.put (c:=(k:Int)) (v':=v7) (w1:=w6.alloc (.cells #[.int .i64 k] 3)) (w2:=w7) (w3:=w8) HGK.out HBA.out
      (by rw[HLP.out,intCells_app];exact HO7.out)
      (by rw[HLP.out];exact HG7.out) (by rw[HLP.out];rcases HT7.out with e|e;exact .inl e;exact .inr (fun j hj=>by rw[e]at hj;injection hj with hj;rw[World.size_alloc];omega))
      (fun _ _ _=>⟨nm+1,by omega,by have:=hown8;rw[mkD_put HX6.out.rises HGK.out]at this;exact this⟩) hg8)
     have hy8:=below_turned (HY6.out) HPUT.out.2.1 (fun j hj=>by rw[HMW.out];exact(HX6.out.range hj).1);have HXN:=Lib.hid HPUT.out.1;have HIN:=Lib.hid (HIX.out.put (v:=v7) HX6.out.rises HAC.out HZ.out HGK.out);clear hown8 hg8 hm7 hlook
     go_wp2_with fail
     go_roundw
     case rel=>exact⟨k+1,_,by omega,by go_num,HXN,HIN,hy8⟩
     case measure=>simp[intOf];omega
  ·obtain rfl:k=R.length:=by omega
   go_wp2;go_ret;exact⟨M,X,rfl,by rw[←HW1.out,HMW.out];exact HX.out,HIX.out,hbr⟩
end Go.Proofs.YtjhbeecmdgglgaaGreatDoor
namespace Go.Proofs.YtjhbeecmdgglgaaGreatDoor
open Go.RowKit Go.Maps
open tm (fitsB)
theorem nil_yesI (W:World)(n c:Nat):(binOp .eql 22 (.slice none n c) (.slice none 0 0)).run Tryz.prog W= .ok (.bool true) W:=by kernel_rfl
theorem nil_noI (W:World)(p:Addr)(n c:Nat):(binOp .eql 22 (.slice (some p) n c) (.slice none 0 0)).run Tryz.prog W= .ok (.bool false) W:=by kernel_rfl
set_option maxHeartbeats 1000000 in
set_option maxRecDepth 10000 in
theorem cloneI_any (v:Value)(l:List Int)(w:World)(h:Sl w v l.length (intCells l))(h8:l.length≤4096):
 Calls Tryz.prog 87 #[v] w fun e w'=> ∃v',e= .returned v'∧w'.ownsRow w.heap.size 3 1 v' l.length (intCells l)∧Below w.heap.size w w':=by
 have HH:=Lib.hid h;obtain⟨A,c,rfl,h1,h2,-,h3⟩:=h;clear h2;have HO:=Lib.hid (own_emptyT w w.heap.size 3 1 (Nat.le_refl _));have hB:=below_alloc w (.cells #[] 3);have HS:=Lib.hid (HH.out.below hB);have HL:=Lib.hid (show(intCells l).length=l.length*1 by rw[intCells_len,Nat.mul_one]);cases A with
 |none=>
  have hl:l=[]:=by
   cases l with
   |nil=>rfl
   |cons x t=>obtain⟨b,off,hA,-⟩:=h3 (by simp[intCells]);cases hA
  subst hl;clear h3;have hnil:=fun W=>nil_yesI W 0 c;go_enter Tryz.func87,Tryz.ntmps87
  go_wp2;go_ret;exact⟨_,rfl,⟨rfl,.inl ⟨rfl,rfl⟩⟩,Below.refl _ _⟩
 |some p=>
  clear h3;have hnil:=fun W=>nil_noI W p l.length c;go_enter Tryz.func87,Tryz.ntmps87
  go_wp2_with (at_builtin;refine wpList_app rfl (.tmp 5) (.tmp 6) 22 rfl w.heap.size 3 1 8 Tryz.underlying22 intI _ 0 _ rfl HO.out _ l.length (intCells l) rfl HS.out HL.out (intCells_one l) ?_ ?_ ?_ ?_)
  ·unfold maxLen;omega
  ·omega
  ·exact hB.size
  ·intro v2 w3 hown3 hg3 hat3
   have hb3:=below_grown hB hg3 (own_ge HO.out);have S3:Hid (w3.ownsRow w.heap.size 3 1 v2 l.length (intCells l)):=Lib.hid (by simpa using hown3);clear hown3 hg3 hat3;go_wp2;go_ret;exact⟨_,rfl,S3.out,hb3⟩
set_option maxHeartbeats 1000000 in
set_option maxRecDepth 10000 in
theorem sortStable_nil (f:Value)(w:World):Calls Tryz.prog 88 #[.slice none 0 0,f] w fun e w'=>e= .returned (.tuple #[])∧w=w':=by
 have HI:Hid (∀W,Calls Tryz.prog 157 #[.slice none 0 0,.int .i64 0,.int .i64 0,f] W fun e w'=>e= .returned (.tuple #[])∧W=w'):=Lib.hid (fun W=>by
  go_enter Tryz.func157,Tryz.ntmps157
  go_wp2_with fail
  go_loopw[8,9] (fun iv _ wr=>iv= .int .i64 1∧wr=W) (fun _ _ _=>0)
  case atStart=>exact⟨rfl,rfl⟩
  case round=>
   rename World=>wr
   obtain⟨rfl,rfl⟩:=hrel;go_wp2
   go_end0
   exact⟨rfl,rfl⟩)
 have HS:Hid (∀W,Calls Tryz.prog 121 #[.slice none 0 0,.int .i64 0,f] W fun e w'=>e= .returned (.tuple #[])∧W=w'):=Lib.hid (fun W=>by
  go_enter Tryz.func121,Tryz.ntmps121
  go_wp2_with fail
  go_loopw[7,8] (fun av bv wr=>av= .int .i64 0∧bv= .int .i64 20∧wr=W) (fun _ _ _=>0)
  case atStart=>exact⟨rfl,rfl,rfl⟩
  case round=>
   rename World=>wr
   obtain⟨rfl,rfl,rfl⟩:=hrel
   go_wp2_with fail
   refine Calls.mono (by with_reducible exact HI.out _) ?_;rintro e w2 ⟨rfl,rfl⟩
   go_wp2_with fail
   go_loopw[6,7,8,9] (fun sv _ _ _ wr2=>sv= .int .i64 20∧wr2=wr) (fun _ _ _ _ _=>0)
   case atStart=>exact⟨rfl,rfl⟩
   case round=>
    rename World=>wr2
    obtain⟨rfl,rfl⟩:=hrel;go_wp2
    go_end0
    exact⟨rfl,rfl⟩)
 go_enter Tryz.func88,Tryz.ntmps88
 go_wp2_with fail
 refine Calls.mono (by with_reducible exact HS.out _) ?_;rintro e w2 ⟨rfl,rfl⟩;go_wp2
 go_end0
 exact⟨rfl,rfl⟩
theorem own_irow {w:World}{base:Nat}{v:Value}{l:List Int}(h:w.ownsRow base 3 1 v l.length (intCells l)):(v= .slice none 0 0∧l=[])∨ ∃g cap sp,v= .slice (some ⟨g,0,none⟩) l.length cap∧base≤g∧IRow w g l sp∧l.length≤cap∧cap≤maxLen:=by
 obtain⟨-,⟨rfl,h0⟩|⟨g,cap,cur,rfl,hb,hg,hn,hc,hsz,ht⟩⟩:=h
 ·exact .inl ⟨rfl,List.eq_nil_of_length_eq_zero h0⟩
 ·refine .inr ⟨g,cap,cur.toList.drop l.length,rfl,hb,⟨3,?_⟩,hn,hc⟩
  rw[Nat.mul_one]at ht
  have e:(intCells l++cur.toList.drop l.length).toArray=cur:=by
   rw[←ht,List.take_append_drop,Array.toArray_toList]
  rw[e];exact hg
theorem irow_one {w:World}{g cap k:Nat}{M:List Int}{sp:List Value}{z:Int}(h:IRow w g M sp)(hz:M[k]?=some z)(hc:k+1≤cap)(hm:cap≤maxLen):Sl w (.slice (some ⟨g,k,none⟩) 1 (cap-k)) 1 (intCells [z]):=
 ⟨_,_,rfl,by omega,by omega,nofun,fun _=>⟨g,k,rfl,fun j u hj=>by
   cases j with
   |zero=>
    have:u= .int .i64 z:=by simpa[intCells]using hj.symm
    rw[this];exact h.cell hz
   |succ j=>simp[intCells]at hj⟩⟩
def withD (p:Pl) (R:List Cg) (t:Int) (D:List Int):List Int:=
 if p.kind=3 then(bestI R t D).toList else D.filter fun i=>meetT p.kind p.low p.high p.size t (timeAt R i)
theorem best_fst {T:Int→Int}{t:Int}{l:List Int}: ∀ {a b:Option Int},BestOf T t l a→BestOf T t l b→a=b
 |none,none,_,_=>rfl
 |none,some b,h,k=>by have:=h b k.1;have:=k.2.1;omega
 |some a,none,h,k=>by have:=k a h.1;have:=h.2.1;omega
 |some a,some b,h,k=>by
  rcases h.2.2 b k.1 k.2.1 with e|e
  ·rw[e]
  ·rcases k.2.2 a h.1 h.2.1 with e2|e2
   ·rw[e2]
   ·unfold ltT at e e2;omega
theorem best_search {R:List Cg}{t:Int}{D M:List Int}(hu:D.Pairwise (· < ·))(hp:M.Perm D)(hs:Srt (timeAt R) M){n:Nat}(hn:n≤M.length)(F:Nat→Bool)(hF: ∀k z,M[k]?=some z→F k=decide (t<timeAt R z))
 (h1:n=0∨F (n-1)=false) (h2:n=M.length∨F n=true):bestI R t D=if n=0 then none else M[n-1]?:=by
 have hb:BestOf (timeAt R) t D (bestI R t D):=by
  have h:=best_fold (R:=R) (t:=t) (l:=D) (m:=[]) (b:=none) (fun _ hc=>by cases hc) (by simpa using hu);simpa[bestI]using h
 have le_of: ∀(i j:Nat) (x y:Int),i≤j→M[i]?=some x→M[j]?=some y→timeAt R x≤timeAt R y:=by
  intro i j x y hij hx hy;rcases Nat.lt_or_ge i j with h|h
  ·obtain⟨a1,e1⟩:=List.getElem?_eq_some_iff.1 hx
   obtain⟨a2,e2⟩:=List.getElem?_eq_some_iff.1 hy;have:=List.pairwise_iff_getElem.1 hs i j a1 a2 h;rw[e1,e2]at this;exact ltT_le this
  ·obtain rfl:i=j:=by omega
   rw[hx]at hy;injection hy with hy;rw[hy];exact Int.le_refl _
 refine best_fst hb (best_sorted hp hs hn (fun i x hi hx=> ?_) (fun i x hi hx=> ?_))
 ·rcases h1 with h1|h1
  ·omega
  ·obtain⟨z,hz⟩: ∃z,M[n-1]?=some z:=⟨_,List.getElem?_eq_getElem (by omega)⟩
   have h3:=hF _ _ hz;rw[h1]at h3;have h4:=le_of i (n-1) x z (by omega) hx hz;have: ¬t<timeAt R z:=of_decide_eq_false h3.symm;omega
 ·have hil:=(List.getElem?_eq_some_iff.1 hx).1
  rcases h2 with h2|h2
  ·omega
  ·obtain⟨z,hz⟩: ∃z,M[n]?=some z:=⟨_,List.getElem?_eq_getElem (by omega)⟩
   have h3:=hF _ _ hz;rw[h2]at h3;have h4:=le_of n i z x hi hz hx;have:t<timeAt R z:=of_decide_eq_true h3.symm;omega
end Go.Proofs.YtjhbeecmdgglgaaGreatDoor
namespace Go.Proofs.YtjhbeecmdgglgaaGreatDoor
open Go.RowKit Go.Maps
open tm (fitsB)
set_option maxHeartbeats 8000000 in
set_option maxRecDepth 10000 in
theorem partners_any (p:Pl)(t:Int)(vX vR vD:Value)(nX:Nat)(csX:List Value)(R:List Chn)(D:List Int)(w:World)(h:p.ok w)(hp:MeetP p)(hX:Sl w vX nX csX)(hR:Chs w vR R)(hD:Sl w vD D.length (intCells D))(ht:fitsB t=true)(hft: ∀x∈R,fitsB x.k=true)
 (hu:D.Pairwise (· < ·)) (hi: ∀i∈D,0≤i∧i<R.length) (hl:R.length≤4096) (hDl:D.length≤4096):
 Calls Tryz.prog 38 #[.agg #[.int .i64 p.kind,.int .i64 p.mode,.int .i64 p.low,.int .i64 p.high,.int .i64 p.size,.int .i64 p.limit,p.vl,p.vr,p.vk,p.vq,.bool p.grouped,p.vg,p.va],.agg #[.int .i64 t,vX],vR,vD] w fun e w'=> ∃v',e= .returned v'∧Sl w' v' (withD p (ac R) t D).length (intCells (withD p (ac R) t D))∧(∀k,v'.ownBlock=some k→w.heap.size≤k∧k<w'.heap.size)∧Below w.heap.size w w':=by
 have HR:=Lib.hid hR;have HD:=Lib.hid hD;have HU:=Lib.hid hu;have HIN:=Lib.hid hi;have HFT:=Lib.hid hft;have HMT:=Lib.hid (fun(W:World) (hb:Below w.heap.size w W) (hk:p.kind≠3) (r:Int) (hr:fitsB r=true)=>bmeets_any p t r W (h.below hb) hp hk ht hr);obtain⟨Wd,hWd⟩: ∃y,withD p (ac R) t D=y:=⟨_,rfl⟩;rw[hWd];have HWD:=Lib.hid hWd;obtain⟨A0,c0,h0,n0,m0,-⟩:=id h.l;obtain⟨A1,c1,h1,n1,m1,-⟩:=id h.r;obtain⟨A2,c2,h2,n2,m2,-⟩:=id h.k;obtain⟨A3,c3,h3,n3,m3,-⟩:=id h.q;obtain⟨A4,c4,h4,n4,m4,-⟩:=id h.g;obtain⟨A5,c5,h5,n5,m5,-⟩:=id h.a;obtain⟨AR,cR,rfl,nR,mR,-⟩:=id hR.sl;obtain⟨AX,cX,rfl,-⟩:=id hX;obtain⟨AD,cD,rfl,nD,mD,-⟩:=id hD;unfold maxLen at mR mD;rw[h0,h1,h2,h3,h4,h5]at HMT⊢;have hb1:=below_alloc w (.cells #[.int .i64 p.kind,.int .i64 p.mode,.int .i64 p.low,.int .i64 p.high,.int .i64 p.size,.int .i64 p.limit,.slice A0 p.left.length c0,.slice A1 p.right.length c1,.slice A2 p.lkeys.length c2,.slice A3 p.rkeys.length c3,.bool p.grouped,.slice A4 p.group.length c4,.slice A5 p.aggs.length c5] 25);have hb2:=hb1.alloc hb1.size (.cells #[.int .i64 t,.slice AX nX cX] 53);have hb3:=hb2.alloc hb2.size (.cells #[.slice AR R.length cR] 26);have hb4:=hb3.alloc hb3.size (.cells #[.slice AD D.length cD] 22);have hk1:=(((Blk.new w 25 #[.int .i64 p.kind,.int .i64 p.mode,.int .i64 p.low,.int .i64 p.high,.int .i64 p.size,.int .i64 p.limit,.slice A0 p.left.length c0,.slice A1 p.right.length c1,.slice A2 p.lkeys.length c2,.slice A3 p.rkeys.length c3,.bool p.grouped,.slice A4 p.group.length c4,.slice A5 p.aggs.length c5]).alloc (.cells #[.int .i64 t,.slice AX nX cX] 53)).alloc (.cells #[.slice AR R.length cR] 26)).alloc (.cells #[.slice AD D.length cD] 22);have hk2:=((new_second w 53 #[.int .i64 t,.slice AX nX cX] (.cells #[.int .i64 p.kind,.int .i64 p.mode,.int .i64 p.low,.int .i64 p.high,.int .i64 p.size,.int .i64 p.limit,.slice A0 p.left.length c0,.slice A1 p.right.length c1,.slice A2 p.lkeys.length c2,.slice A3 p.rkeys.length c3,.bool p.grouped,.slice A4 p.group.length c4,.slice A5 p.aggs.length c5] 25)).alloc (.cells #[.slice AR R.length cR] 26)).alloc (.cells #[.slice AD D.length cD] 22);have hk3:=(Blk.new ((w.alloc (.cells #[.int .i64 p.kind,.int .i64 p.mode,.int .i64 p.low,.int .i64 p.high,.int .i64 p.size,.int .i64 p.limit,.slice A0 p.left.length c0,.slice A1 p.right.length c1,.slice A2 p.lkeys.length c2,.slice A3 p.rkeys.length c3,.bool p.grouped,.slice A4 p.group.length c4,.slice A5 p.aggs.length c5] 25)).alloc (.cells #[.int .i64 t,.slice AX nX cX] 53)) 26 #[.slice AR R.length cR]).alloc (.cells #[.slice AD D.length cD] 22);have hk4:=Blk.new (((w.alloc (.cells #[.int .i64 p.kind,.int .i64 p.mode,.int .i64 p.low,.int .i64 p.high,.int .i64 p.size,.int .i64 p.limit,.slice A0 p.left.length c0,.slice A1 p.right.length c1,.slice A2 p.lkeys.length c2,.slice A3 p.rkeys.length c3,.bool p.grouped,.slice A4 p.group.length c4,.slice A5 p.aggs.length c5] 25)).alloc (.cells #[.int .i64 t,.slice AX nX cX] 53)).alloc (.cells #[.slice AR R.length cR] 26)) 22 #[.slice AD D.length cD];obtain⟨W4,hW4⟩: ∃V,(((w.alloc (.cells #[.int .i64 p.kind,.int .i64 p.mode,.int .i64 p.low,.int .i64 p.high,.int .i64 p.size,.int .i64 p.limit,.slice A0 p.left.length c0,.slice A1 p.right.length c1,.slice A2 p.lkeys.length c2,.slice A3 p.rkeys.length c3,.bool p.grouped,.slice A4 p.group.length c4,.slice A5 p.aggs.length c5] 25)).alloc (.cells #[.int .i64 t,.slice AX nX cX] 53)).alloc (.cells #[.slice AR R.length cR] 26)).alloc (.cells #[.slice AD D.length cD] 22)=V:=⟨_,rfl⟩;have hsz:W4.heap.size=w.heap.size+4:=by rw[←hW4];simp
 rw[hW4]at hb4 hk1 hk2 hk3 hk4;simp only[World.size_alloc]at hk2 hk3 hk4;have HB:=Lib.hid hb4;have HK1:=Lib.hid hk1;have HK2:=Lib.hid hk2;have HK3:=Lib.hid hk3;have HK4:=Lib.hid hk4;have HSZ:=Lib.hid hsz;have z0:=HK1.out.cell 0 _ rfl;clear h h0 h1 h2 h3 h4 h5 n0 n1 n2 n3 n4 n5 m0 m1 m2 m3 m4 m5 hR hX hD hp hft hu hi hWd hb1 hb2 hb3 hb4 hk1 hk2 hk3 hk4 hsz;by_cases hk:p.kind=3
 ·have hkb:=beqT hk
  have HWE:Hid ((bestI (ac R) t D).toList=Wd):=Lib.hid (by rw[←HWD.out];exact(if_pos hk).symm);have HCL:=Lib.hid (fun(W:World) (hb:Below w.heap.size w W)=>cloneI_any (.slice AD D.length cD) D W (HD.out.below hb) hDl);have y4:=HK4.out.cell 0 _ rfl;clear hk HMT;go_enter Tryz.func38,Tryz.ntmps38
  go_upto_region 1 with fail
  clear hW4
  go_wp2_with fail
  refine Calls.mono (by with_reducible exact HCL.out _ HB.out) ?_;rintro e w5 ⟨v5,rfl,ho5,hb5⟩;obtain⟨A5',n5',c5',e5⟩: ∃A n c,v5= .slice A n c:=by obtain⟨A,c,e,-⟩:=Sl.of_own ho5;exact⟨A,_,c,e⟩
  have hbw5:=below_trans HB.out hb5;have K4:=HK4.out.below hb5;have y4':=K4.cell 0 _ rfl;have f4:=K4.free 0;have HT5:=Lib.hid (turned_set w5 ⟨w.heap.size+1+1+1,0,none⟩ v5);have HB6:=Lib.hid (below_turned hbw5 HT5.out (fun k hk=>by rw[hk];show w.heap.size≤w.heap.size+1+1+1;omega));have HK46:=Lib.hid (K4.set_ 0 v5);have HK36:=Lib.hid (blk_turned (HK3.out.below hb5) HT5.out (fun e=>by have e:w.heap.size+1+1=w.heap.size+1+1+1:=e;omega));have HK26:=Lib.hid (blk_turned (HK2.out.below hb5) HT5.out (fun e=>by have e:w.heap.size+1=w.heap.size+1+1+1:=e;omega));have HS5:Hid (W4.heap.size≤w5.heap.size):=Lib.hid hb5.size;rcases own_irow ho5 with⟨hv,hd0⟩|⟨g,cap,sp,hv,hg,hI,hc1,hc2⟩
  ·rw[hv]at HK46 HB6 HT5
   subst hd0;have HWN:Hid (Wd=[]):=Lib.hid (by rw[←HWE.out];rfl);have HSR:=Lib.hid (sortStable_nil (.func (.func 89) #[] #[.pointer (some ⟨w.heap.size+1+1,0,none⟩)]) (w5.setCell ⟨w.heap.size+1+1+1,0,none⟩ (.slice none 0 0)));have HSE:=Lib.hid (search_any 0 #[.pointer (some ⟨w.heap.size+1+1,0,none⟩),.pointer (some ⟨w.heap.size+1+1+1,0,none⟩),.pointer (some ⟨w.heap.size+1,0,none⟩)] (fun _=>false) (w5.setCell ⟨w.heap.size+1+1+1,0,none⟩ (.slice none 0 0)) (by omega) (fun _ _ _ h=>absurd h (Nat.not_lt_zero _)));have y6:=HK46.out.cell 0 _ rfl;subst hv;clear e5 ho5 hb5 K4 hbw5
   go_wp2_with fail
   refine Calls.mono (by with_reducible exact HSR.out) ?_;rintro e w6 ⟨rfl,rfl⟩
   go_wp2_with fail
   refine Calls.mono (by exact HSE.out) ?_;rintro e w7 ⟨i,rfl,hi0,-,-,hb7⟩;obtain rfl:i=0:=by omega
   have HB7:=Lib.hid (below_trans HB6.out hb7);have y7:=(HK46.out.below hb7).cell 0 _ rfl;clear hb7 y6;go_wp2;go_ret;exact⟨_,rfl,by rw[HWN.out];exact Sl.nil_ _,nofun,HB7.out⟩
  ·rw[hv]at HK46 HB6 HT5
   unfold maxLen at hc2
   have HIW:=Lib.hid (show IRow (w5.setCell ⟨w.heap.size+1+1+1,0,none⟩ (.slice (some ⟨g,0,none⟩) D.length cap)) g D sp from by
    obtain⟨ty,hI⟩:=hI;exact⟨ty,blk_turned hI HT5.out (fun e=>by have e:g=w.heap.size+1+1+1:=e;have:=HSZ.out;omega)⟩)
   have HG:=Lib.hid hg;obtain⟨w6,hw6⟩: ∃V,w5.setCell ⟨w.heap.size+1+1+1,0,none⟩ (.slice (some ⟨g,0,none⟩) D.length cap)=V:=⟨_,rfl⟩;subst hv;rw[hw6]at HK46 HB6 HIW HK36 HK26;have HGN:Hid (w.heap.size+1+1+1<g):=Lib.hid (by have:=HSZ.out;have:=HG.out;omega)
   have hcmp:CmpI (timeAt (ac R)) (fun i=>0≤i∧i<R.length) g (w.heap.size+1+1) w6:=by
    intro W x y hT hx hy;obtain⟨i,rfl⟩: ∃i:Nat,(i:Int)=x:=⟨x.toNat,by omega⟩;obtain⟨j,rfl⟩: ∃j:Nat,(j:Int)=y:=⟨y.toNat,by omega⟩;exact part1_any _ _ R i j w W HR.out (below_turned HB6.out hT (fun k hk=>by rw[hk];have:=HGN.out;omega)) (blk_turned HK36.out hT (fun e=>by have e:w.heap.size+1+1=g:=e;have:=HGN.out;omega)) HFT.out (by omega) (by omega)
   have HSR:=Lib.hid (sortStable_any (timeAt (ac R)) (fun i=>0≤i∧i<R.length) g cap (w.heap.size+1+1) D.length D sp w6 HIW.out rfl (by omega) ⟨hc1,by unfold maxLen;exact hc2⟩ HU.out HIN.out hcmp);have y6:=HK46.out.cell 0 _ rfl;clear e5 ho5 hb5 K4 hbw5 hcmp hI
   go_wp2_with (rw[hw6];clear hw6;skip)
   refine Calls.mono (by with_reducible exact HSR.out) ?_;rintro e w7 ⟨rfl,⟨M,hM,hS,hI7⟩,hT7⟩;have HT7:=Lib.hid hT7;have HI7:=Lib.hid hI7;have HM:=Lib.hid hM;have HS7:=Lib.hid hS;have HB7:=Lib.hid (below_turned HB6.out hT7 (fun k hk=>by rw[hk];have:=HGN.out;omega));have HK47:=Lib.hid (blk_turned HK46.out hT7 (fun e=>by have e:w.heap.size+1+1+1=g:=e;have:=HGN.out;omega));have HK37:=Lib.hid (blk_turned HK36.out hT7 (fun e=>by have e:w.heap.size+1+1=g:=e;have:=HGN.out;omega));have HK27:=Lib.hid (blk_turned HK26.out hT7 (fun e=>by have e:w.heap.size+1=g:=e;have:=HGN.out;omega));have hml:M.length=D.length:=hM.length_eq;have HML:=Lib.hid hml
   have HSE:=Lib.hid (search_any D.length #[.pointer (some ⟨w.heap.size+1+1,0,none⟩),.pointer (some ⟨w.heap.size+1+1+1,0,none⟩),.pointer (some ⟨w.heap.size+1,0,none⟩)] (fun k=>decide (t<timeAt (ac R) (M.getD k 0))) w7 (by omega) (fun W k hbW hk=>by
    obtain⟨z,hz⟩: ∃z,M[k]?=some z:=⟨_,List.getElem?_eq_getElem (by omega)⟩;have hzr:=HIN.out z (HM.out.mem_iff.1 (List.mem_of_getElem? hz));have e:M.getD k 0=z:=by rw[List.getD_eq_getElem?_getD,hz];rfl
    rw[e];exact part2_any _ _ _ g cap k z _ R M sp t _ w W HR.out (below_trans HB7.out hbW) (HK37.out.below hbW) (by rw[HML.out];exact HK47.out.below hbW) (HK27.out.below hbW) (HI7.out.below hbW) hz hzr (by omega)))
   have y7:=HK47.out.cell 0 _ rfl;clear hT7 hI7 hM hS hml y6
   go_wp2_with fail
   refine Calls.mono (by with_reducible exact HSE.out) ?_;rintro e w8 ⟨i,rfl,hi0,hi1,hi2,hb8⟩;have HB8:=Lib.hid (below_trans HB7.out hb8);have y8:=(HK47.out.below hb8).cell 0 _ rfl;have HI8:=Lib.hid (HI7.out.below hb8);have HBS:=Lib.hid (best_search (R:=ac R) (t:=t) HU.out HM.out HS7.out (n:=i) (by rw[HML.out];exact hi0) (fun k=>decide (t<timeAt (ac R) (M.getD k 0))) (fun k z hz=>by rw[List.getD_eq_getElem?_getD,hz];rfl) hi1 (by rw[HML.out];exact hi2));have HGL:Hid (g<w8.heap.size):=Lib.hid (by have h:=HI8.out.lt;exact h);clear hb8 hi1 hi2 y7;by_cases hz:i=0
   ·subst hz
    have HWN:Hid (Wd=[]):=Lib.hid (by rw[←HWE.out,HBS.out];rfl);have i1:IntKind.i64.wrap (((0:Nat):Int)-1)= -1:=by decide
    have i2:max (0:Int) (-1)=0:=by decide
    have HOWN:Hid (∀k,(Value.slice (some ⟨g,0,none⟩) 0 cap).ownBlock=some k→w.heap.size≤k∧k<w8.heap.size):=Lib.hid (fun k hk=>by
     injection hk with hk;have hk:g=k:=hk;have h1:=HGN.out;have h2:=HGL.out;omega)
    go_wp2;go_ret;exact⟨_,rfl,by rw[HWN.out];exact⟨_,_,rfl,Nat.zero_le _,by unfold maxLen;omega,nofun,fun h=>absurd rfl h⟩,HOWN.out,HB8.out⟩
   ·obtain⟨j,rfl⟩: ∃j,i=j+1:=⟨i-1,by omega⟩
    obtain⟨z,hzz⟩: ∃z,M[j]?=some z:=⟨_,List.getElem?_eq_getElem (by have:=HML.out;omega)⟩;have HWN:Hid (Wd=[z]):=Lib.hid (by rw[←HWE.out,HBS.out,if_neg hz,Nat.add_sub_cancel,hzz];rfl);have HSL:=Lib.hid (irow_one (cap:=cap) HI8.out hzz (by omega) (by unfold maxLen;exact hc2));obtain⟨i,hij⟩: ∃i,j+1=i:=⟨_,rfl⟩;rw[hij]at hi0;have i1:IntKind.i64.wrap ((i:Int)-1)=(j:Int):=by rw[IntKind.wrap_i64];omega
    have j0:(0:Int)≤(j:Int):=by omega
    have j1:(j:Int)≤(i:Int):=by omega
    have j2:(i:Int)≤(cap:Int):=by omega
    have j3:((i:Int)-(j:Int)).toNat=1:=by omega
    have j4:max (0:Int) (j:Int)=(j:Int):=by omega
    have j5:i-j=1:=by omega
    have HOWN:Hid (∀n c k,(Value.slice (some ⟨g,j,none⟩) n c).ownBlock=some k→w.heap.size≤k∧k<w8.heap.size):=Lib.hid (fun n c k hk=>by
     injection hk with hk;have hk:g=k:=hk;have h1:=HGN.out;have h2:=HGL.out;omega)
    have HIJ:=Lib.hid hij;clear hz hzz;rw[hij];clear hij;go_wp2;go_ret;exact⟨_,rfl,by rw[HWN.out];exact HSL.out,HOWN.out _ _,HB8.out⟩
 ·have hkb:=beqF hk
  have HWE:Hid ((D.filter fun i=>meetT p.kind p.low p.high p.size t (timeAt (ac R) i))=Wd):=Lib.hid (by rw[←HWD.out];exact(if_neg hk).symm);have HMK:=Lib.hid (fun(W:World) (hb:Below w.heap.size w W) (r:Int) (hr:fitsB r=true)=>HMT.out W hb hk r hr);have y4:=HK4.out.cell 0 _ rfl;have hyW:Below W4.heap.size W4 W4:=Below.refl _ _;clear hk HMT;go_enter Tryz.func38,Tryz.ntmps38
  go_upto_region 1 with fail
  clear hW4
  go_wp2_with fail
  go_loopw[10,12,33] (fun ov _ iv wr=> ∃(k:Nat) (u:Value),u=ov∧k≤D.length∧iv= .int .i64 k∧Hid (wr.ownsRow W4.heap.size 3 1 u ((D.take k).filter fun i=>meetT p.kind p.low p.high p.size t (timeAt (ac R) i)).length (intCells ((D.take k).filter fun i=>meetT p.kind p.low p.high p.size t (timeAt (ac R) i))))∧Below W4.heap.size W4 wr) (fun _ _ iv _=>D.length-(intOf iv).toNat)
  case atStart=>exact⟨0,_,rfl,by omega,rfl,Lib.hid ⟨rfl,.inl ⟨rfl,rfl⟩⟩,hyW⟩
  case round=>
   clear hyW y4;rename World=>wr
   obtain⟨k,u,rfl,hk,rfl,HO,hyr⟩:=hrel;have hbr:=below_trans HB.out hyr;by_cases hlt:k<D.length
   ·obtain⟨bD,oD,hAD,-,hcD⟩:=int_at HD.out rfl hlt
    subst hAD;have gz:D[k]?=some (D.getD k 0):=by simp[hlt]
    have d0:=hcD _ hbr;generalize D.getD k 0=z at gz d0;have hzr:=HIN.out z (List.mem_of_getElem? gz);obtain⟨n,rfl⟩: ∃n:Nat,(n:Int)=z:=⟨z.toNat,by omega⟩;have hn:n<R.length:=by omega
    have hx:=List.getElem?_eq_getElem (l:=R) hn;generalize R[n]=x at hx;have hxf:=HFT.out x (List.mem_of_getElem? hx);obtain⟨bR,oR,hAR,-,hcR⟩:=chn_at HR.out.sl rfl hx;subst hAR;have htm:=timeAt_ac hx;have HMX:=Lib.hid (fun(W:World) (hb:Below w.heap.size w W)=>HMK.out W hb x.k hxf)
    have HSS:=Lib.hid (show ∀w',Below W4.heap.size W4 w'→w'.cell? ⟨w.heap.size,0,none⟩=some (.int .i64 p.kind)∧w'.cell? ⟨w.heap.size,1,none⟩=some (.int .i64 p.mode)∧w'.cell? ⟨w.heap.size,2,none⟩=some (.int .i64 p.low)∧w'.cell? ⟨w.heap.size,3,none⟩=some (.int .i64 p.high)∧w'.cell? ⟨w.heap.size,4,none⟩=some (.int .i64 p.size)∧w'.cell? ⟨w.heap.size,5,none⟩=some (.int .i64 p.limit)∧w'.cell? ⟨w.heap.size,6,none⟩=some (.slice A0 p.left.length c0)∧w'.cell? ⟨w.heap.size,7,none⟩=some (.slice A1 p.right.length c1)∧w'.cell? ⟨w.heap.size,8,none⟩=some (.slice A2 p.lkeys.length c2)∧w'.cell? ⟨w.heap.size,9,none⟩=some (.slice A3 p.rkeys.length c3)∧w'.cell? ⟨w.heap.size,10,none⟩=some (.bool p.grouped)∧w'.cell? ⟨w.heap.size,11,none⟩=some (.slice A4 p.group.length c4)∧w'.cell? ⟨w.heap.size,12,none⟩=some (.slice A5 p.aggs.length c5)∧w'.cell? ⟨w.heap.size+1,0,none⟩=some (.int .i64 t)∧w'.cell? ⟨w.heap.size+1+1,0,none⟩=some (.slice (some ⟨bR,oR,none⟩) R.length cR)∧w'.cell? ⟨bR,oR+n*2,none⟩=some (.int .i64 x.k)from fun w' hb=>by
     obtain⟨z0,z1,z2,z3,z4,z5,z6,z7,z8,z9,z10,z11,z12⟩:=pl_cells (HK1.out.below hb);exact⟨z0,z1,z2,z3,z4,z5,z6,z7,z8,z9,z10,z11,z12,(HK2.out.below hb).cell 0 _ rfl,(HK3.out.below hb).cell 0 _ rfl,(hcR _ (below_trans HB.out hb)).1⟩)
    have k0:(0:Int)≤(k:Int):=by omega
    have k1:(k:Int)<(D.length:Int):=by omega
    have n0:(0:Int)≤(n:Int):=by omega
    have n1:(n:Int)<(R.length:Int):=by omega
    have hyd:=hyr.drew
    have hst:(D.take (k+1)).filter (fun i=>meetT p.kind p.low p.high p.size t (timeAt (ac R) i))=(D.take k).filter (fun i=>meetT p.kind p.low p.high p.size t (timeAt (ac R) i))++(if meetT p.kind p.low p.high p.size t x.k then[(n:Int)]else[]):=by
     rw[List.take_add_one,gz,Option.toList_some,List.filter_append,List.filter_cons,List.filter_nil,htm]
    have HST:=Lib.hid hst;obtain⟨FK,hFK⟩: ∃y,(D.take k).filter (fun i=>meetT p.kind p.low p.high p.size t (timeAt (ac R) i))=y:=⟨_,rfl⟩;rw[hFK]at HO HST;have HFL:Hid (FK.length≤D.length):=Lib.hid (by rw[←hFK];exact Nat.le_trans (List.length_filter_le _ _) (by rw[List.length_take];omega));obtain⟨Ao,no,co,hov⟩: ∃A n c,u= .slice A n c:=by obtain⟨A,c,e,-⟩:=Sl.of_own HO.out;exact⟨A,_,c,e⟩
    subst hov;clear hcD gz hzr hn hx hxf hcR htm hst hFK
    go_wp2_with fail
    cases hq:meetT p.kind p.low p.high p.size t x.k with
    |true=>
     rw[hq]at HMX HST;clear hq
     go_region_held3 (fun w'=>w'.cell? ⟨w.heap.size,0,none⟩=some (.int .i64 p.kind)∧w'.cell? ⟨w.heap.size,1,none⟩=some (.int .i64 p.mode)∧w'.cell? ⟨w.heap.size,2,none⟩=some (.int .i64 p.low)∧w'.cell? ⟨w.heap.size,3,none⟩=some (.int .i64 p.high)∧w'.cell? ⟨w.heap.size,4,none⟩=some (.int .i64 p.size)∧w'.cell? ⟨w.heap.size,5,none⟩=some (.int .i64 p.limit)∧w'.cell? ⟨w.heap.size,6,none⟩=some (.slice A0 p.left.length c0)∧w'.cell? ⟨w.heap.size,7,none⟩=some (.slice A1 p.right.length c1)∧w'.cell? ⟨w.heap.size,8,none⟩=some (.slice A2 p.lkeys.length c2)∧w'.cell? ⟨w.heap.size,9,none⟩=some (.slice A3 p.rkeys.length c3)∧w'.cell? ⟨w.heap.size,10,none⟩=some (.bool p.grouped)∧w'.cell? ⟨w.heap.size,11,none⟩=some (.slice A4 p.group.length c4)∧w'.cell? ⟨w.heap.size,12,none⟩=some (.slice A5 p.aggs.length c5)∧w'.cell? ⟨w.heap.size+1,0,none⟩=some (.int .i64 t)∧w'.cell? ⟨w.heap.size+1+1,0,none⟩=some (.slice (some ⟨bR,oR,none⟩) R.length cR)∧w'.cell? ⟨bR,oR+n*2,none⟩=some (.int .i64 x.k))
      (first|exact HSS.out _ hyd|exact HSS.out _ hy6|go_keep)
      ((go_at_call 92;refine(HMX.out _ (below_trans HB.out hyd)).mono ?_;rintro e w6 ⟨rfl,hb6⟩;have hy6:=hyd.trans (hb6.mono hyd.size)))
     all_goals
      have HOA:=Lib.hid ((own_below (w:=wr.drew) HO.out hb6).alloc (.cells #[.int .i64 n] 3));have HCN:=Lib.hid (Sl.block (Blk.new w6 3 #[.int .i64 n]) 1 1 (Nat.le_refl _) (by decide));have HYA:=Lib.hid (hy6.alloc hy6.size (.cells #[.int .i64 n] 3));clear hy6 hyd hb6
      go_wp2_with (first
       |(at_builtin;refine wpList_app rfl (.tmp 46) (.tmp 48) 22 rfl W4.heap.size 3 1 8 Tryz.underlying22 intI _ FK.length _ rfl HOA.out _ 1 [.int .i64 n] rfl HCN.out rfl (by simp[Value.oneCell']) ?_ ?_ ?_ ?_)
       |go_in)
      ·unfold maxLen;have:=HFL.out;omega
      ·have:=HFL.out;omega
      ·have:=HYA.out.size;rw[World.size_alloc]at this;exact this
      ·intro v7 w7 hown7 hg7 hat7
       have hy7:=below_grown HYA.out hg7 (own_ge HOA.out)
       have H7:Hid (w7.ownsRow W4.heap.size 3 1 v7 ((D.take (k+1)).filter fun i=>meetT p.kind p.low p.high p.size t (timeAt (ac R) i)).length (intCells ((D.take (k+1)).filter fun i=>meetT p.kind p.low p.high p.size t (timeAt (ac R) i)))):=Lib.hid (by
        rw[HST.out,List.length_append,intCells_app];exact hown7)
       clear hown7 hg7 hat7;go_wp2;go_roundw
       case rel=>exact⟨k+1,_,rfl,by omega,by go_num,H7,hy7⟩
       case measure=>simp[intOf];omega
    |false=>
     rw[hq]at HMX HST;clear hq
     go_region_held3 (fun w'=>w'.cell? ⟨w.heap.size,0,none⟩=some (.int .i64 p.kind)∧w'.cell? ⟨w.heap.size,1,none⟩=some (.int .i64 p.mode)∧w'.cell? ⟨w.heap.size,2,none⟩=some (.int .i64 p.low)∧w'.cell? ⟨w.heap.size,3,none⟩=some (.int .i64 p.high)∧w'.cell? ⟨w.heap.size,4,none⟩=some (.int .i64 p.size)∧w'.cell? ⟨w.heap.size,5,none⟩=some (.int .i64 p.limit)∧w'.cell? ⟨w.heap.size,6,none⟩=some (.slice A0 p.left.length c0)∧w'.cell? ⟨w.heap.size,7,none⟩=some (.slice A1 p.right.length c1)∧w'.cell? ⟨w.heap.size,8,none⟩=some (.slice A2 p.lkeys.length c2)∧w'.cell? ⟨w.heap.size,9,none⟩=some (.slice A3 p.rkeys.length c3)∧w'.cell? ⟨w.heap.size,10,none⟩=some (.bool p.grouped)∧w'.cell? ⟨w.heap.size,11,none⟩=some (.slice A4 p.group.length c4)∧w'.cell? ⟨w.heap.size,12,none⟩=some (.slice A5 p.aggs.length c5)∧w'.cell? ⟨w.heap.size+1,0,none⟩=some (.int .i64 t)∧w'.cell? ⟨w.heap.size+1+1,0,none⟩=some (.slice (some ⟨bR,oR,none⟩) R.length cR)∧w'.cell? ⟨bR,oR+n*2,none⟩=some (.int .i64 x.k))
      (first|exact HSS.out _ hyd|exact HSS.out _ hy6|go_keep)
      ((go_at_call 92;refine(HMX.out _ (below_trans HB.out hyd)).mono ?_;rintro e w6 ⟨rfl,hb6⟩;have hy6:=hyd.trans (hb6.mono hyd.size)))
     all_goals
      have H7:Hid (w6.ownsRow W4.heap.size 3 1 (.slice Ao no co) ((D.take (k+1)).filter fun i=>meetT p.kind p.low p.high p.size t (timeAt (ac R) i)).length (intCells ((D.take (k+1)).filter fun i=>meetT p.kind p.low p.high p.size t (timeAt (ac R) i)))):=Lib.hid (by
       rw[HST.out,if_neg (by simp),List.append_nil];exact own_below (w:=wr.drew) HO.out hb6)
      clear hyd hb6;go_wp2;go_roundw
      case rel=>exact⟨k+1,_,rfl,by omega,by go_num,H7,hy6⟩
      case measure=>simp[intOf];omega
   ·obtain rfl:k=D.length:=by omega
    rw[List.take_length,HWE.out]at HO;have HFR:=Lib.hid (fun j hj=>And.intro (own_ge HO.out j hj) (own_lt HO.out j hj));go_wp2;go_ret;exact⟨_,rfl,Sl.of_own HO.out,fun j hj=>⟨by have:=(HFR.out j hj).1;have:=HSZ.out;omega,(HFR.out j hj).2⟩,hbr⟩
end Go.Proofs.YtjhbeecmdgglgaaGreatDoor
