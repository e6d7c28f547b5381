/-Batches: Join. (Printed by genbat11.py.) -/
import Derived.Test.YtjhbeecmdgglgaaGreatDoorGrpX33
import Derived.Test.YtjhbeecmdgglgaaGreatDoorGrpX34
import Derived.Test.YtjhbeecmdgglgaaGreatDoorGrpX35
import Derived.Test.YtjhbeecmdgglgaaGreatDoorGrpX26
import Derived.Test.YtjhbeecmdgglgaaGreatDoorGrpX22
set_option linter.unusedSimpArgs false
set_option linter.unusedVariables false
namespace Go.Proofs.YtjhbeecmdgglgaaGreatDoor
open Go.RowKit Go.Maps
open tm (fitsB)
abbrev ins1 (rows:List (List Val)):List (Int×List Val):=rows.map fun r=>(1,r)
theorem meetP_of {p:Pl}(hz:checkP p=0):MeetP p:=by
 obtain⟨h1,h2,-,-,h5⟩:=check_ok hz;unfold rangesB at h2;unfold formB at h5;rw[Bool.and_eq_true]at h2 h5;refine⟨fun hk=> ?_,fun hk h3=> ?_⟩
 ·have h2:=h2.1
  rw[if_pos hk,Bool.and_eq_true,Bool.and_eq_true]at h2;have h5:=h5.1;simp only[Bool.not_eq_true',decide_eq_false_iff_not]at h5;exact⟨h2.1,h2.2.1,by omega⟩
 ·have h4:p.kind=2:=by
   unfold kindsB at h1;rw[Bool.and_eq_true]at h1;have:=btw_of h1.1;omega
  have h2:=h2.1;rw[if_neg hk,if_pos h4,Bool.and_eq_true,Bool.and_eq_true]at h2;have:=btw_of h2.2.2;omega
theorem withD_mem {p:Pl}{R:List Cg}{t:Int}{D:List Int}(hu:D.Pairwise (· < ·)){i:Int}(h:i∈withD p R t D):i∈D:=by
 unfold withD at h;split at h
 ·cases hb:bestI R t D with
  |none=>rw[hb]at h;cases h
  |some b=>
   rw[hb]at h;have:i=b:=by simpa using h
   rw[this];exact best_mem hu hb
 ·exact(List.mem_filter.1 h).1
theorem with_eq (p:Pl)(R:List Cg)(t:Int)(r:List Val):withI p R (t,r)=if hasK p 1 r then withD p R t (idxs p R (str (keyRow (keyVs p 1 r))))else[]:=by
 unfold withI;rw[keyFor_eq];cases hasK p 1 r with
 |false=>rfl
 |true=>simp only[if_true];rfl
theorem withI_len (p:Pl)(R:List Cg)(x:Cg):(withI p R x).length≤R.length+1:=by
 obtain⟨t,r⟩:=x;rw[with_eq];split
 ·unfold withD
  split
  ·cases bestI R t _<;>simp
  ·refine Nat.le_trans (List.length_filter_le _ _) ?_
   unfold idxs;rw[List.length_map];refine Nat.le_trans (List.length_filter_le _ _) ?_;rw[List.length_range];omega
 ·simp
theorem rows_few {m:List Chn}{rows:List (List Val)}(h:ac m=ins1 rows):m.length=rows.length:=by
 have h1:=congrArg List.length h;unfold ac ins1 at h1;rwa[List.length_map,List.length_map]at h1
theorem withI_mem {p:Pl}{R:List Cg}{x:Cg}{i:Int}(h:i∈withI p R x):0≤i∧i<R.length:=by
 obtain⟨t,r⟩:=x;rw[with_eq]at h;split at h
 ·have:=idxs_mem.1 (withD_mem (idxs_up p R _) h)
  exact⟨this.1,this.2.1⟩
 ·cases h
def alB (p:Pl) (R Lk:List Cg) (done:List Int):List Bool:=(List.range R.length).map fun(i:Nat)=> !(Lk.any fun x=>(withI p R x).contains (i:Int))&& !(done.contains (i:Int))
theorem alB_len (p:Pl)(R Lk:List Cg)(done:List Int):(alB p R Lk done).length=R.length:=by unfold alB;simp
theorem alB_start (p:Pl)(R:List Cg):alB p R [] []=List.replicate R.length true:=by
 unfold alB;apply List.ext_getElem?;intro i;rw[List.getElem?_map,List.getElem?_replicate];by_cases h:i<R.length
 ·rw[List.getElem?_range h,if_pos h];rfl
 ·rw[List.getElem?_eq_none (by rw[List.length_range];omega),if_neg h];rfl
theorem alB_step {p:Pl}{R Lk:List Cg}{W:List Int}{j i:Nat}(h:W[j]?=some (i:Int)):alB p R Lk (W.take (j+1))=(alB p R Lk (W.take j)).set i false:=by
 have e:W.take (j+1)=W.take j++[(i:Int)]:=by rw[List.take_add_one,h];rfl
 apply List.ext_getElem?;intro k;rw[e,List.getElem?_set,alB_len];unfold alB;rw[List.getElem?_map,List.getElem?_map];by_cases hk:k<R.length
 ·rw[List.getElem?_range hk]
  show some _=if i=k then if i<R.length then some false else none else some _
  by_cases hik:i=k
  ·subst hik
   rw[if_pos rfl,if_pos hk];simp
  ·rw[if_neg hik]
   have:(List.take j W++[(i:Int)]).contains (k:Int)=(List.take j W).contains (k:Int):=by
    rw[Bool.eq_iff_iff,List.contains_iff_mem,List.contains_iff_mem,List.mem_append,List.mem_singleton];constructor
    ·rintro(h|h)
     ·exact h
     ·omega
    ·exact .inl
   dsimp only;rw[this]
 ·rw[List.getElem?_eq_none (by rw[List.length_range];omega)]
  by_cases hik:i=k
  ·subst hik;rw[if_pos rfl,if_neg hk];rfl
  ·rw[if_neg hik];rfl
theorem alB_next {p:Pl}{R L:List Cg}{k:Nat}{x:Cg}(h:L[k]?=some x):alB p R (L.take k) (withI p R x)=alB p R (L.take (k+1)) []:=by
 have e:L.take (k+1)=L.take k++[x]:=by rw[List.take_add_one,h];rfl
 unfold alB;rw[e];apply List.map_congr_left;intro i _;rw[List.any_append];simp only[List.any_cons,List.any_nil,Bool.or_false,Bool.not_or,List.contains_nil,Bool.not_false,Bool.and_true]
theorem alB_at {p:Pl}{R L:List Cg}{i:Nat}(h:i<R.length):(alB p R L [])[i]?=some (aloneB2 p L R i):=by
 unfold alB aloneB2;rw[List.getElem?_map,List.getElem?_range h];simp
theorem flat_step {α β:Type}{l:List α}{f:α→List β}{k:Nat}{x:α}(h:l[k]?=some x):(l.take (k+1)).flatMap f=(l.take k).flatMap f++f x:=by
 have e:l.take (k+1)=l.take k++[x]:=by rw[List.take_add_one,h];rfl
 rw[e,List.flatMap_append];simp
theorem pairs_parts (p:Pl)(R:List Cg)(x:Cg):pairsOf p R x=(withI p R x).map (fun i=>x.2++rowAt R i.toNat)++(if(withI p R x).isEmpty&&keepsB p 1 then[x.2++nullsR p.right.length]else[]):=by
 unfold pairsOf;cases h:(withI p R x).isEmpty with
 |true=>
  rw[List.isEmpty_iff.1 h];cases keepsB p 1<;>rfl
 |false=>simp
theorem ac_snoc {m:List Chn}{rows:List (List Val)}{v:Value}{r:List Val}(h:ac m=ins1 rows):ac (m++[⟨v,r,1⟩])=ins1 (rows++[r]):=by
 unfold ac ins1 at*;rw[List.map_append,List.map_append,h];rfl
theorem ac_atC {R:List Chn}{i:Nat}{x:Chn}(h:R[i]?=some x):(ac R)[i]?=some (x.k,x.r):=by unfold ac;rw[List.getElem?_map,h];rfl
theorem ac_lenC (R:List Chn):(ac R).length=R.length:=List.length_map _
set_option maxHeartbeats 16000000 in
set_option maxRecDepth 10000 in
theorem bjoin_any (p:Pl)(vL vR:Value)(L R:List Chn)(w:World)(h:p.ok w)(hfit:p.fit)(hL:Chs w vL L)(hR:Chs w vR R)(hfl: ∀x∈L,Fine x.r)(hfr: ∀x∈R,Fine x.r)(hm:Mx w):
 Calls Tryz.prog 10 #[.agg #[.int .i64 p.kind,.int .i64 p.mode,.int .i64 p.low,.int .i64 p.high,.int .i64 p.size,.int .i64 p.limit,p.vl,p.vr,p.vk,p.vq,.bool p.grouped,p.vg,p.va],vL,vR] w fun e w'=> ∃v' l',e= .returned (.tuple #[v',.int .i64 (batchE p (ac L) (ac R))])∧View w' v' l'∧av l'=(if batchE p (ac L) (ac R)=0 then viewR (joinL p (ac L) (ac R))else[])∧Below w.heap.size w w':=by
 have HL:=Lib.hid hL;have HR:=Lib.hid hR;have HM:=Lib.hid hm;have HFL:=Lib.hid hfl;have HFR:=Lib.hid hfr;have HCK:=Lib.hid (fun(W:World) (hb:Below w.heap.size w W)=>bcheck_all p vL vR L R W (h.below hb) hfit (hL.below hb) (hR.below hb) hfl hfr);have HIXC:=Lib.hid (fun(W:World) (hb:Below w.heap.size w W) (hg:GoodB2 p (ac L) (ac R))=>index_any p vR R W (h.below hb) hfit hg.plan (hR.below hb) hfr (fun x hx=>hg.rr (x.k,x.r) (List.mem_map.2 ⟨x,hx,rfl⟩)) (by have:=hg.few;rw[ac_lenC,ac_lenC]at this;omega) (hm.below hb));have HKO:=Lib.hid (fun(W:World) (hb:Below w.heap.size w W) (x:Chn) (hx:x∈L)=>keyOf_any p 1 x.v x.r W (h.below hb) hfit ((hL.rows x hx).below hb) (hfl x hx) (hm.below hb))
 have HPA:=Lib.hid (fun(W:World) (hb:Below w.heap.size w W) (hg:GoodB2 p (ac L) (ac R)) (x:Chn) (hx:x∈L) (vD:Value) (D:List Int) (hD:Sl W vD D.length (intCells D)) (hu:D.Pairwise (· < ·)) (hi: ∀i∈D,0≤i∧i<R.length) (hl:D.length≤4096)=>
  partners_any p x.k x.v vR vD _ _ R D W (h.below hb) (meetP_of hg.plan) ((hL.rows x hx).below hb) (hR.below hb) hD (hg.lt (x.k,x.r) (List.mem_map.2 ⟨x,hx,rfl⟩)) (fun y hy=>hg.rt (y.k,y.r) (List.mem_map.2 ⟨y,hy,rfl⟩)) hu hi (by have:=hg.few;rw[ac_lenC,ac_lenC]at this;omega) hl)
 obtain⟨E,hE⟩: ∃y,batchE p (ac L) (ac R)=y:=⟨_,rfl⟩;rw[hE]at HCK⊢;have HEE:=Lib.hid hE;obtain⟨RR,hRR⟩: ∃y,(if E=0 then viewR (joinL p (ac L) (ac R))else[])=y:=⟨_,rfl⟩;rw[hRR];have HRR:=Lib.hid hRR.symm;obtain⟨A0,c0,h0,n0,m0,-⟩:=id h.l;obtain⟨A1,c1,h1,n1,m1,-⟩:=id h.r;obtain⟨A2,c2,h2,n2,m2,-⟩:=id h.k;obtain⟨A3,c3,h3,n3,m3,-⟩:=id h.q;obtain⟨A4,c4,h4,n4,m4,-⟩:=id h.g;obtain⟨A5,c5,h5,n5,m5,-⟩:=id h.a;obtain⟨AL,cL,rfl,nL,mL,-⟩:=id hL.sl;obtain⟨AR,cR,rfl,nR,mR,-⟩:=id hR.sl;unfold maxLen at mL mR;rw[h0,h1,h2,h3,h4,h5]at HCK HIXC HKO HPA⊢;have HB:=Lib.hid (below_alloc w (.cells #[.int .i64 p.kind,.int .i64 p.mode,.int .i64 p.low,.int .i64 p.high,.int .i64 p.size,.int .i64 p.limit,.slice A0 p.left.length c0,.slice A1 p.right.length c1,.slice A2 p.lkeys.length c2,.slice A3 p.rkeys.length c3,.bool p.grouped,.slice A4 p.group.length c4,.slice A5 p.aggs.length c5] 25));have HK0:=Lib.hid (Blk.new w 25 #[.int .i64 p.kind,.int .i64 p.mode,.int .i64 p.low,.int .i64 p.high,.int .i64 p.size,.int .i64 p.limit,.slice A0 p.left.length c0,.slice A1 p.right.length c1,.slice A2 p.lkeys.length c2,.slice A3 p.rkeys.length c3,.bool p.grouped,.slice A4 p.group.length c4,.slice A5 p.aggs.length c5]);obtain⟨W1,hW1⟩: ∃V,w.alloc (.cells #[.int .i64 p.kind,.int .i64 p.mode,.int .i64 p.low,.int .i64 p.high,.int .i64 p.size,.int .i64 p.limit,.slice A0 p.left.length c0,.slice A1 p.right.length c1,.slice A2 p.lkeys.length c2,.slice A3 p.rkeys.length c3,.bool p.grouped,.slice A4 p.group.length c4,.slice A5 p.aggs.length c5] 25)=V:=⟨_,rfl⟩;have HSZ1:Hid (W1.heap.size=w.heap.size+1):=Lib.hid (by rw[←hW1];simp);rw[hW1]at HB HK0;have hb1:=HB.out;obtain⟨z0,z1,z2,z3,z4,z5,z6,z7,z8,z9,z10,z11,z12⟩:=pl_cells HK0.out;clear h h0 h1 h2 h3 h4 h5 n0 n1 n2 n3 n4 n5 m0 m1 m2 m3 m4 m5 hL hR hfl hfr hE hfit hm hRR;go_enter Tryz.func10,Tryz.ntmps10
 go_wp2_with fail
 refine Calls.mono (by with_reducible exact HCK.out _ hb1) ?_;rintro e w2 ⟨rfl,hb2⟩;have hbw2:=below_trans hb1 hb2;have hyr:=hb2;clear z0 z1 z2 z3 z4 z5 z6 z7 z8 z9 z10 z11 z12 hW1 HCK;by_cases hq1:E=0
 case neg=>
  have q1:=bneT hq1;have HNZ:=Lib.hid hq1;clear hq1;go_wp2
  go_ret2
  exact⟨_,[],rfl,⟨Sl.nil_ _,nofun⟩,by rw[HRR.out,if_neg (by exact HNZ.out)];rfl,hbw2⟩
 subst hq1;have HG:Hid (GoodB2 p (ac L) (ac R)):=Lib.hid (batch_zero.1 HEE.out);have hfew:L.length+R.length≤120:=by have:=HG.out.few;rw[ac_lenC,ac_lenC]at this;exact this
 have hyc:=hyr.alloc hyr.size (.cells #[.slice none 0 0] 42);have HKC:=Lib.hid (Blk.new w2 42 #[.slice none 0 0]);obtain⟨c,hc⟩: ∃y,w2.heap.size=y:=⟨_,rfl⟩;obtain⟨w3,hw3⟩: ∃V,w2.alloc (.cells #[.slice none 0 0] 42)=V:=⟨_,rfl⟩;have HSZ3:Hid (w3.heap.size=c+1):=Lib.hid (by rw[←hw3,←hc];simp);have HCW:Hid (W1.heap.size≤c):=Lib.hid (by rw[←hc];exact hb2.size);rw[hw3]at hyc HKC;rw[hc]at HKC;have hb3:=below_trans hb1 hyc;obtain⟨z0,z1,z2,z3,z4,z5,z6,z7,z8,z9,z10,z11,z12⟩:=pl_cells (HK0.out.below hyc);have HIX3:=Lib.hid (HIXC.out w3 hb3 HG.out)
 go_upto_region 6 with fail
 clear hw3 hb2 hbw2 hyr HIXC
 go_wp2_with (first|(rw[hc];skip)|fail)
 refine Calls.mono (by with_reducible exact HIX3.out) ?_;rintro e w4 ⟨M,X,rfl,hX,hIX,hb4⟩;have hy4:=hyc.trans (hb4.mono hyc.size);have HX4:=Lib.hid hX;have HIXT:=Lib.hid hIX;have HKC4:=Lib.hid (HKC.out.below hb4);have HS4:Hid (w3.heap.size≤w4.heap.size):=Lib.hid hb4.size;obtain⟨zs,hzs,hmk⟩:=bool_make R.length (by omega);have hy5:=hy4.alloc hy4.size (.cells zs 4);have HBR5:Hid (BRow (w4.alloc (.cells zs 4)) w4.heap.size (List.replicate R.length false)):=Lib.hid (by rw[hzs];exact Blk.new w4 4 _);have HKC5:=Lib.hid (HKC4.out.alloc (.cells zs 4));have HX5:=Lib.hid (HX4.out.below (below_alloc w4 (.cells zs 4)));obtain⟨ga,hga⟩: ∃y,w4.heap.size=y:=⟨_,rfl⟩;obtain⟨w5,hw5⟩: ∃V,w4.alloc (.cells zs 4)=V:=⟨_,rfl⟩;have HSZ5:Hid (w5.heap.size=ga+1):=Lib.hid (by rw[←hw5,←hga];simp);have HGA4:Hid (w4.heap.size=ga):=Lib.hid hga;have HIBK:Hid (∀k,IBk M X k→w3.heap.size+1≤k∧k<ga):=Lib.hid (fun k hk=>by have:=HX4.out.range hk;omega);have HCG:Hid (c<ga):=Lib.hid (by have h1:=HSZ3.out;have h2:=HS4.out;omega);rw[hw5]at hy5 HBR5 HKC5 HX5;rw[hga]at HBR5;clear hb4 hX hIX z0 z1 z2 z3 z4 z5 z6 z7 z8 z9 z10 z11 z12 hzs HX4 HKC4
 go_upto_region 8 with(rw[hga];skip)
 clear hw5 hmk hga hc
 go_wp2_with fail
 go_loopw[13,43] (fun _ iv wr=> ∃k:Nat,k≤R.length∧iv= .int .i64 k∧Hid (BRow wr ga (List.replicate k true++List.replicate (R.length-k) false))∧Hid (Turned (fun b=>b=ga) w5 wr)) (fun _ iv _=>R.length-(intOf iv).toNat)
 case atStart=>exact⟨0,by omega,rfl,HBR5,Lib.hid (Turned.refl _ _)⟩
 case round=>
  clear HBR5;rename World=>wB
  obtain⟨k,hk,rfl,HBR,HTB⟩:=hrel;by_cases hlt:k<R.length
  ·have hBk:(List.replicate k true++List.replicate (R.length-k) false)[k]?=some false:=by
    rw[List.getElem?_append_right (by simp),List.length_replicate,Nat.sub_self,List.getElem?_replicate,if_pos (by omega)]
   have d0:=HBR.out.cell hBk;have f0:wB.frozen? ⟨ga,k,none⟩=false:=Blk.free HBR.out k;have k0:(0:Int)≤(k:Int):=by omega
   have k1:(k:Int)<(R.length:Int):=by omega
   have HB2:Hid (BRow (wB.setCell ⟨ga,k,none⟩ (.bool true)) ga (List.replicate (k+1) true++List.replicate (R.length-(k+1)) false)):=Lib.hid (by
    have h:=HBR.out.set k true
    have e:(List.replicate k true++List.replicate (R.length-k) false).set k true=List.replicate (k+1) true++List.replicate (R.length-(k+1)) false:=by
     rw[show R.length-k=(R.length-(k+1))+1 by omega,List.replicate_succ,List.set_append_right _ _ (by simp),List.length_replicate,Nat.sub_self,List.set_cons_zero,List.replicate_succ'];simp
    rw[e]at h;exact h)
   have HT2:=Lib.hid (HTB.out.trans (turned_set wB ⟨ga,k,none⟩ (.bool true)));clear hBk
   go_wp2_with fail
   go_roundw
   case rel=>exact⟨k+1,by omega,by go_num,HB2,HT2⟩
   case measure=>simp[intOf];omega
  ·obtain rfl:k=R.length:=by omega
   have HBA:Hid (BRow wB ga (alB p (ac R) [] [])):=Lib.hid (by
    have h:=HBR.out;rw[Nat.sub_self,List.replicate_zero,List.append_nil]at h;rw[alB_start,ac_lenC];exact h)
   have HyB:=Lib.hid (below_turned hy5 HTB.out (fun k hk=>by rw[hk];have h1:=HCW.out;have h2:=HCG.out;omega));have HbB:=Lib.hid (below_trans HB.out HyB.out);have HKB:=Lib.hid (blk_turned HKC5.out HTB.out (fun e=>by have e:c=ga:=e;have:=HCG.out;omega));have HXB:=Lib.hid (HX5.out.turned HTB.out (fun k hk e=>by have e:k=ga:=e;have:=(HIBK.out k hk).2;omega));have HGB:Hid (ga<wB.heap.size):=Lib.hid HBA.out.lt;have HCB:Hid (c<wB.heap.size):=Lib.hid (by have h1:=HGB.out;have h2:=HCG.out;omega);clear hlt hk HBR HTB hy5 hy4 hyc HKC5 HX5;have HOLD:=Lib.hid (fun(W:World) (hT:Turned (fun b=>b=c∨b=ga) wB W)=>And.intro (below_turned HbB.out hT (fun k hk=>by have h1:=HCW.out;have h2:=HCG.out;have h3:=HSZ1.out;rcases hk with rfl|rfl<;>omega)) (below_turned HyB.out hT (fun k hk=>by have h1:=HCW.out;have h2:=HCG.out;rcases hk with rfl|rfl<;>omega)))
   go_wp2_with fail
   go_loopw[15,16,17,18,19,21,52] (fun _ _ _ _ _ _ iv wr=> ∃(k:Nat) (m:List Chn) (vl:Value),k≤L.length∧iv= .int .i64 k∧Hid (OwnC wr wB.heap.size vl m)∧Hid (Blk wr c 42 #[vl])∧Hid (BRow wr ga (alB p (ac R) ((ac L).take k) []))∧Hid (ac m=ins1 (((ac L).take k).flatMap (pairsOf p (ac R))))∧Hid (Turned (fun b=>b=c∨b=ga) wB wr)) (fun _ _ _ _ _ _ iv _=>L.length-(intOf iv).toNat)
   case atStart=>exact⟨0,[],_,by omega,rfl,Lib.hid (OwnC.nil _ _),HKB,HBA,Lib.hid rfl,Lib.hid (Turned.refl _ _)⟩
   case round=>
    clear HBA HKB;rename World=>wr
    obtain⟨k,m,vl,hk,rfl,HO,HKc,HBR,HAC,HT⟩:=hrel;by_cases hlt:k<L.length
    ·have hbr:=(HOLD.out wr HT.out).1
     have hyr:=(HOLD.out wr HT.out).2;have hx:=List.getElem?_eq_getElem (l:=L) hlt;generalize L[k]=x at hx;have hxm:=List.mem_of_getElem? hx;obtain⟨Ax,cx,ex,nx,mx,-⟩:=id (HL.out.rows x hxm);obtain⟨xv,xr,xk⟩:=x;simp only at ex nx;subst ex;obtain⟨x,hxe⟩: ∃x,x=(⟨.slice Ax xr.length cx,xr,xk⟩:Chn):=⟨_,rfl⟩;have hxr:xr=x.r:=by rw[hxe]
     have hxk:xk=x.k:=by rw[hxe]
     have hxv:x.v= .slice Ax x.r.length cx:=by rw[hxe]
     rw[←hxe]at hx hxm;clear hxe;subst hxr hxk;obtain⟨bv,ov,hAv,-,hcb⟩:=chn_at HL.out.sl rfl hx;subst hAv;obtain⟨d0,d1⟩:=hcb _ hbr;rw[hxv]at d1;have HXAC:=Lib.hid (ac_atC hx);have HXM:=Lib.hid hxm;have hrE:rowE p 1 x.r=0:=HG.out.lr (x.k,x.r) (List.mem_map.2 ⟨x,hxm,rfl⟩);have HGK:=Lib.hid (keyVs_good HG.out.plan hrE (HFL.out x hxm));have HSX:Hid (∀W,Below w.heap.size w W→Sl W (.slice Ax x.r.length cx) x.r.length (rowCells x.r)):=Lib.hid (fun W hb=>by rw[←hxv];exact(HL.out.rows x hxm).below hb);obtain⟨bk,hbk⟩: ∃b,hasK p 1 x.r=b:=⟨_,rfl⟩;obtain⟨ks,hks⟩: ∃s,(if bk then str (keyRow (keyVs p 1 x.r))else(⟨#[]⟩:ByteArray))=s:=⟨_,rfl⟩
     have hke:keyOfR p 1 x.r=(ks,bk):=by
      unfold keyOfR;rw[show rowR p 1 x.r=0 by unfold rowR;rw[if_pos HG.out.plan];exact hrE,if_pos rfl,keyFor_eq,hbk,←hks];cases bk<;>rfl
     have HKX:=Lib.hid (fun(W:World) (hb:Below w.heap.size w W)=>HKO.out W hb x hxm);rw[hxv,hke,show rowR p 1 x.r=0 by unfold rowR;rw[if_pos HG.out.plan];exact hrE]at HKX;have HKS:=Lib.hid hks;have hwi:=with_eq p (ac R) x.k x.r;rw[hbk]at hwi;obtain⟨Wx,hWx⟩: ∃y,withI p (ac R) (x.k,x.r)=y:=⟨_,rfl⟩;rw[hWx]at hwi;have HWI:=Lib.hid hwi;have HWX:=Lib.hid hWx;have HPX:=Lib.hid (fun(W:World) (hb:Below w.heap.size w W)=>HPA.out W hb HG.out x hxm);rw[hxv]at HPX;have k0:(0:Int)≤(k:Int):=by omega
     have k1:(k:Int)<(L.length:Int):=by omega
     have HBC:=Lib.hid (below_alloc wr (.cells #[.int .i64 x.k,.slice Ax x.r.length cx] 53));have HKP:=Lib.hid (Blk.new wr 53 #[.int .i64 x.k,.slice Ax x.r.length cx]);obtain⟨wk,hwk⟩: ∃V,wr.alloc (.cells #[.int .i64 x.k,.slice Ax x.r.length cx] 53)=V:=⟨_,rfl⟩;have HSZC:Hid (wk.heap.size=wr.heap.size+1):=Lib.hid (by rw[←hwk];simp);rw[hwk]at HBC HKP;have HTC:=Lib.hid (HT.out.trans (turned_below HBC.out));have hbc:=(HOLD.out wk HTC.out).1;have hyc:=(HOLD.out wk HTC.out).2;obtain⟨z0,z1,z2,z3,z4,z5,z6,z7,z8,z9,z10,z11,z12⟩:=pl_cells (HK0.out.below hyc);have hy1:=HKP.out.cell 1 _ rfl;clear hx hcb hxm hxv hbr hyr hke hks hwi hWx hrE hbk
     go_upto_region 16 with fail
     clear hwk
     go_wp2_with fail
     refine Calls.mono (by with_reducible exact HKX.out _ hbc) ?_;rintro e w6 ⟨rfl,hb6⟩;have HB6:=Lib.hid hb6;have HT6:=Lib.hid (HTC.out.trans (turned_below hb6));have hb6w:=(HOLD.out w6 HT6.out).1;have hy6w:=(HOLD.out w6 HT6.out).2;obtain⟨z0,z1,z2,z3,z4,z5,z6,z7,z8,z9,z10,z11,z12⟩:=pl_cells (HK0.out.below hy6w);have hp0:=(HKP.out.below hb6).cell 0 _ rfl;have hp1:=(HKP.out.below hb6).cell 1 _ rfl;clear hb6 d0 d1 hy1
     go_upto_if 64 with fail
     go_cut[19]from 53 to 112 (fun wv wx=> ∃u,u=wv∧Hid (Sl wx u Wx.length (intCells Wx))∧Hid (∀q,u.ownBlock=some q→wr.heap.size<q∧q<wx.heap.size)∧Below wk.heap.size wk wx)
     case first=>
      cases bk with
      |false=>
       have HWN:Hid (Wx=[]):=Lib.hid (by have:=HWI.out;simpa using this)
       go_wp2_with fail
       go_meet
       exact⟨_,rfl,by rw[HWN.out];exact Lib.hid (Sl.nil_ _),Lib.hid nofun,HB6.out⟩
      |true=>
       have HX6:=Lib.hid (HXB.out.turned HT6.out (fun k hk e=>by have h1:=HIBK.out k hk;have h2:=HSZ3.out;have e:k=c∨k=ga:=e;omega));have hks:ks=str (keyRow (keyVs p 1 x.r)):=by have:=HKS.out;simpa using this.symm
       have hlook:=HX6.out.look HGK.out (by omega);have hfound:=HX6.out.found HGK.out;rw[←hks]at hlook;have hD:=HIXT.out (keyVs p 1 x.r) HGK.out;rw[show(ac R).take R.length=ac R by rw[List.take_of_length_le (by rw[ac_lenC];exact Nat.le_refl _)]]at hD;obtain⟨LP,hLP⟩: ∃y,lookI X (keyVs p 1 x.r)=y:=⟨_,rfl⟩;rw[hLP]at hlook hfound hD;obtain⟨LV,LL⟩:=LP;simp only at hlook hfound hD;have HWN:Hid (Wx=withD p (ac R) x.k LL):=Lib.hid (by have:=HWI.out;rw[hD];simpa using this);have HPC:=Lib.hid (HPX.out w6 hb6w LV LL (Sl.of_own hfound.1) (by rw[hD];exact idxs_up p _ _) (fun i hi=>by rw[hD]at hi;have:=idxs_mem.1 hi;rw[ac_lenC]at this;exact⟨this.1,this.2.1⟩) (by omega));obtain⟨A9,n9,c9,e9⟩: ∃A n c,LV= .slice A n c:=by obtain⟨A,c,e,-⟩:=Sl.of_own hfound.1;exact⟨A,_,c,e⟩
       subst e9;clear hfound hD hLP hks
       go_wp2_with fail
       refine Calls.mono (by with_reducible exact HPC.out) ?_;rintro e w7 ⟨v7,rfl,hs7,ho7,hb7⟩;have HS7:=Lib.hid hs7;have HO7:=Lib.hid ho7;have HB7:=Lib.hid (HB6.out.trans (hb7.mono HB6.out.size));clear hs7 ho7 hb7
       go_wp2_with fail
       go_meet
       exact⟨_,rfl,by rw[HWN.out];exact HS7,Lib.hid (fun q hq=>by have h1:=HO7.out q hq;have h2:=HB6.out.size;have h3:=HSZC.out;omega),HB7.out⟩
     case rest=>
      obtain⟨u,rfl,HSW,HOW,hbx⟩:=hcut;obtain⟨wx,hwx⟩: ∃V,V=wc:=⟨_,rfl⟩;subst hwx;obtain⟨Aw,cw,hvw,nw,mw,-⟩:=id HSW.out;subst hvw;unfold maxLen at mw;have HBRX:=Lib.hid (below_trans HBC.out hbx);have HTX:=Lib.hid (HTC.out.trans (turned_below hbx));have HOX:=Lib.hid (HO.out.below HBRX.out);have HKcX:=Lib.hid (HKc.out.below HBRX.out);have HBRY:Hid (BRow wx ga (alB p (ac R) ((ac L).take k) (Wx.take 0))):=Lib.hid (Blk.below HBR.out HBRX.out);have HKPX:=Lib.hid (HKP.out.below hbx);have HVL:=Lib.hid (own_lt HO.out.own);have HWL:Hid (Wx.length≤121):=Lib.hid (by rw[←HWX.out];have h1:=withI_len p (ac R) (x.k,x.r);rw[ac_lenC]at h1;omega);have HWM:=Lib.hid (show ∀i∈Wx,0≤i∧i<R.length from fun i hi=>by rw[←HWX.out]at hi;have:=withI_mem hi;rw[ac_lenC]at this;exact this);have HWBR:Hid (wB.heap.size≤wr.heap.size∧wr.heap.size<wx.heap.size):=Lib.hid ⟨HT.out.size,by have h1:=hbx.size;have h2:=HSZC.out;omega⟩;have HAC0:Hid (ac m=ins1 (((ac L).take k).flatMap (pairsOf p (ac R))++(Wx.take 0).map (fun i=>x.r++rowAt (ac R) i.toNat))):=Lib.hid (by rw[HAC.out];simp)
      have HRL:Hid ((((ac L).take k).flatMap (pairsOf p (ac R))).length≤14641):=Lib.hid (by
       have h1:=flat_len_le (f:=pairsOf p (ac R)) ((ac L).take k) fun y _=>pairs_len p (ac R) y;rw[List.length_take,ac_lenC,ac_lenC]at h1;have h2:min k L.length*(R.length+1)≤121*121:=Nat.mul_le_mul (by omega) (by omega);omega)
      have HXL:Hid (x.r.length≤4):=Lib.hid (rowE_fine HG.out.plan (HG.out.lr (x.k,x.r) (List.mem_map.2 ⟨x,HXM.out,rfl⟩))).len;clear hb6w hy6w z0 z1 z2 z3 z4 z5 z6 z7 z8 z9 z10 z11 z12 hp0 hp1 hbx hbc hyc HO HKc HBR HKX HPX HKS HB6 HT6
      go_wp2_with fail
      go_loopw[21,74] (fun _ iv wr2=> ∃(j:Nat) (m2:List Chn) (vl2:Value),j≤Wx.length∧iv= .int .i64 j∧Hid (OwnC wr2 wB.heap.size vl2 m2)∧Hid (Blk wr2 c 42 #[vl2])∧Hid (BRow wr2 ga (alB p (ac R) ((ac L).take k) (Wx.take j)))∧Hid (ac m2=ins1 (((ac L).take k).flatMap (pairsOf p (ac R))++(Wx.take j).map (fun i=>x.r++rowAt (ac R) i.toNat)))∧Hid (∀q,vl2.ownBlock=some q→q<wr.heap.size∨wx.heap.size≤q)∧Hid (Turned (fun b=>b=c∨b=ga∨(wB.heap.size≤b∧b<wr.heap.size)) wx wr2)) (fun _ iv _=>Wx.length-(intOf iv).toNat)
      case atStart=>exact⟨0,m,vl,by omega,rfl,HOX,HKcX,HBRY,HAC0,Lib.hid (fun q hq=> .inl (HVL.out q hq)),Lib.hid (Turned.refl _ _)⟩
      case round=>
       clear HOX HKcX HBRY HAC0;rename World=>wr2
       obtain⟨j,m2,vl2,hj,rfl,HO2,HK2,HBR2,HAC2,HV2,HT2⟩:=hrel;have HTW2:=Lib.hid (show Turned (fun b=>b=c∨b=ga) wB wr2 from HTX.out.transN HT2.out (fun i hi e=>by rcases e with e|e|e;exact .inl e;exact .inr e;omega));have hbw2:=(HOLD.out wr2 HTW2.out).1;have hyw2:=(HOLD.out wr2 HTW2.out).2;have HKP2:=Lib.hid (blk_turned HKPX.out HT2.out (fun e=>by have h1:=HWBR.out;have h2:=HCB.out;have h3:=HGB.out;have e:wr.heap.size=c∨wr.heap.size=ga∨(wB.heap.size≤wr.heap.size∧wr.heap.size<wr.heap.size):=e;omega));have HSZ2:=Lib.hid HT2.out.size;by_cases hlj:j<Wx.length
       ·have HSW2:=Lib.hid (sl_turned HSW.out HT2.out (fun q hq e=>by have h0:=HOW.out q hq;have h1:=HWBR.out;have h2:=HCB.out;have h3:=HGB.out;have e:q=c∨q=ga∨(wB.heap.size≤q∧q<wr.heap.size):=e;omega))
        obtain⟨bW,oW,hAW,-,hcW⟩:=int_at HSW2.out rfl hlj;subst hAW;have gz:Wx[j]?=some (Wx.getD j 0):=by simp[hlj]
        have d0:=hcW _ (Below.refl _ _);generalize Wx.getD j 0=z at gz d0;have hzr:=HWM.out z (List.mem_of_getElem? gz);obtain⟨n,rfl⟩: ∃n:Nat,(n:Int)=z:=⟨z.toNat,by omega⟩;have hn:n<R.length:=by omega
        have hyx:=List.getElem?_eq_getElem (l:=R) hn;generalize R[n]=y at hyx;have hym:=List.mem_of_getElem? hyx;obtain⟨Ay,cy,ey,ny,my,-⟩:=id (HR.out.rows y hym);obtain⟨bR,oR,hAR,-,hcR⟩:=chn_at HR.out.sl rfl hyx;subst hAR;have HSY:Hid (∀W,Below w.heap.size w W→Sl W (.slice Ay y.r.length cy) y.r.length (rowCells y.r)):=Lib.hid (fun W hb=>by rw[←ey];exact(HR.out.rows y hym).below hb);have HYL:Hid (y.r.length≤4):=Lib.hid (rowE_fine HG.out.plan (HG.out.rr (y.k,y.r) (List.mem_map.2 ⟨y,hym,rfl⟩))).len;have HCR:Hid (∀W,Below w.heap.size w W→W.cell? ⟨bR,oR+n*2+1,none⟩=some (.slice Ay y.r.length cy)):=Lib.hid (fun W hb=>by rw[←ey];exact(hcR W hb).2);have hra:=rowAt_ac hyx
        have hml:m2.length≤1000000:=by
         have h1:=rows_few HAC2.out;have h2:=HRL.out;rw[List.length_append,List.length_map,List.length_take]at h1;have h3:=HWL.out;omega
        have HPUT:=Lib.hid (jput_any c wB.heap.size (.slice Ax x.r.length cx) (.slice Ay y.r.length cy) vl2 x.r y.r m2 wr2.drew HK2.out.drew HCB.out (by have h1:=HWBR.out;have h2:=HSZ2.out;show wB.heap.size≤wr2.heap.size;omega) HO2.out.drew (HSX.out wr2.drew hbw2.drew) (HSY.out wr2.drew hbw2.drew) (by have h1:=HXL.out;have h2:=HYL.out;omega) hml);have HGZ:=Lib.hid gz;have HRA:=Lib.hid hra;have j0:(0:Int)≤(j:Int):=by omega
        have j1:(j:Int)<(Wx.length:Int):=by omega
        have n0:(0:Int)≤(n:Int):=by omega
        have n1:(n:Int)<(R.length:Int):=by omega
        have hcell:=And.intro (HKP2.out.drew.cell 1 _ rfl) (HCR.out wr2.drew hbw2.drew);clear hcW gz hzr hyx hym ey hcR hra hml
        go_upto_region 23 with fail
        go_region_held3 (fun w'=>w'.cell? ⟨wr.heap.size,1,none⟩=some (.slice Ax x.r.length cx)∧w'.cell? ⟨bR,oR+n*2+1,none⟩=some (.slice Ay y.r.length cy))
         (first|exact hcell|exact hcell8|go_keep)
         ((go_at_call 34;refine Calls.mono (by with_reducible exact HPUT.out) ?_;rintro e w8 ⟨rfl,⟨vl3,hK3,⟨v9,hO3⟩,hv3⟩,hT3⟩
           have HTT3:=Lib.hid (show Turned (fun b=>b=c∨b=ga∨(wB.heap.size≤b∧b<wr.heap.size)) wx w8 from(HT2.out.trans (turned_drew _ _)).transN hT3 (fun i hi e=>by
            rcases e with e|e
            ·exact .inl e
            ·have h1:=HV2.out i e
             have h2:=own_ge HO2.out.own i e;exact .inr (.inr ⟨h2,by omega⟩)))
           have HTW3:=Lib.hid (show Turned (fun b=>b=c∨b=ga) wB w8 from HTX.out.transN HTT3.out (fun i hi e=>by rcases e with e|e|e;exact .inl e;exact .inr e;omega));have hcell8:=And.intro ((blk_turned HKPX.out HTT3.out (fun e=>by have h1:=HWBR.out;have h2:=HCB.out;have h3:=HGB.out;have e:wr.heap.size=c∨wr.heap.size=ga∨(wB.heap.size≤wr.heap.size∧wr.heap.size<wr.heap.size):=e;omega)).cell 1 _ rfl) (HCR.out w8 (HOLD.out w8 HTW3.out).1)))
        all_goals
         have HBR3:Hid (BRow w8 ga (alB p (ac R) ((ac L).take k) (Wx.take j))):=Lib.hid (blk_turned (w:=wr2.drew) HBR2.out hT3 (fun e=>by
          have h1:=HCG.out;have h2:=HGB.out;rcases e with e|e
          ·have e:ga=c:=e;omega
          ·have:=own_ge HO2.out.own ga e;omega))
         obtain⟨b0,hb0⟩: ∃b,(alB p (ac R) ((ac L).take k) (Wx.take j))[n]?=some b:=⟨_,List.getElem?_eq_getElem (by rw[alB_len,ac_lenC];exact hn)⟩;have da:=HBR3.out.cell hb0;have fa:w8.frozen? ⟨ga,n,none⟩=false:=Blk.free HBR3.out n;have HBR9:Hid (BRow (w8.setCell ⟨ga,n,none⟩ (.bool false)) ga (alB p (ac R) ((ac L).take k) (Wx.take (j+1)))):=Lib.hid (by rw[alB_step HGZ.out];exact HBR3.out.set n false);have HO9:=Lib.hid (hO3.set (p:=⟨ga,n,none⟩) HGB.out (.bool false));have HK9:=Lib.hid (blk_turned hK3 (turned_set w8 ⟨ga,n,none⟩ (.bool false)) (fun e=>by have e:c=ga:=e;have:=HCG.out;omega))
         have HAC9:Hid (ac (m2++[⟨v9,x.r++y.r,1⟩])=ins1 (((ac L).take k).flatMap (pairsOf p (ac R))++(Wx.take (j+1)).map (fun i=>x.r++rowAt (ac R) i.toNat))):=Lib.hid (by
          have e:Wx.take (j+1)=Wx.take j++[(n:Int)]:=by rw[List.take_add_one,HGZ.out];rfl
          rw[ac_snoc HAC2.out,e,List.map_append,←List.append_assoc];show ins1 (_++[x.r++y.r])=ins1 (_++[x.r++rowAt (ac R) (n:Int).toNat]);rw[Int.toNat_natCast,HRA.out])
         have HV9:Hid (∀q,vl3.ownBlock=some q→q<wr.heap.size∨wx.heap.size≤q):=Lib.hid (fun q hq=>by
          rcases hv3 with e|e
          ·exact HV2.out q (e▸hq)
          ·have h1:=e q hq
           have h2:=HSZ2.out;have h3:wr2.drew.heap.size=wr2.heap.size:=rfl;exact .inr (by omega))
         have HT9:=Lib.hid (HTT3.out.trans ((turned_set w8 ⟨ga,n,none⟩ (.bool false)).imp (fun k _ e=>(.inr (.inl e):k=c∨k=ga∨(wB.heap.size≤k∧k<wr.heap.size)))));clear hK3 hO3 hv3 hT3 hb0 hcell hcell8
         go_wp2_with fail
         go_roundw
         case rel=>exact⟨j+1,_,vl3,by omega,by go_num,HO9,HK9,HBR9,HAC9,HV9,HT9⟩
         case measure=>simp[intOf];omega
       ·obtain rfl:j=Wx.length:=by omega
        rw[List.take_length]at HBR2 HAC2;have HBN:Hid (BRow wr2 ga (alB p (ac R) ((ac L).take (k+1)) [])):=Lib.hid (by rw[←alB_next HXAC.out,HWX.out];exact HBR2.out);have HFS:Hid (((ac L).take (k+1)).flatMap (pairsOf p (ac R))=((ac L).take k).flatMap (pairsOf p (ac R))++(Wx.map (fun i=>x.r++rowAt (ac R) i.toNat)++(if Wx.isEmpty&&keepsB p 1 then[x.r++nullsR p.right.length]else[]))):=Lib.hid (by rw[flat_step HXAC.out,pairs_parts,HWX.out])
        have HML:Hid (m2.length≤1000000):=Lib.hid (by
         have h1:=rows_few HAC2.out;have h2:=HRL.out;rw[List.length_append,List.length_map]at h1;have h3:=HWL.out;omega)
        obtain⟨z0,z1,z2,z3,z4,z5,z6,z7,z8,z9,z10,z11,z12⟩:=pl_cells (HK0.out.below hyw2);clear hlj hj HBR2
        go_upto_region 26 with fail
        go_cut[103]from 53 to 112 (fun cv wy=> ∃Q:Bool,cv= .bool Q∧Hid (Q=(Wx.isEmpty&&keepsB p 1))∧wy=wr2)
        case first=>
         have HKE:Hid (keepsB p 1=(p.mode==2||p.mode==4)):=Lib.hid rfl;by_cases hw0:Wx.length=0
         ·have q0:((Wx.length:Int)==0)=true:=by rw[hw0];rfl
          have HWE:Hid (Wx.isEmpty=true):=Lib.hid (by rw[List.eq_nil_of_length_eq_zero hw0];rfl);have HW0:=Lib.hid hw0;cases hq2:(p.mode==2)
          ·cases hq4:(p.mode==4)
           all_goals
            rw[hq2,hq4]at HKE;clear hw0;go_wp2
            go_meet
            exact⟨_,rfl,Lib.hid (by rw[HWE.out,HKE.out];rfl),rfl⟩
          ·rw[hq2]at HKE
           clear hw0;go_wp2
           go_meet
           exact⟨_,rfl,Lib.hid (by rw[HWE.out,HKE.out];rfl),rfl⟩
         ·have q0:((Wx.length:Int)==0)=false:=by rw[beq_eq_false_iff_ne];omega
          have HWE:Hid (Wx.isEmpty=false):=Lib.hid (by cases Wx with|nil=>exact absurd rfl hw0|cons _ _=>rfl);clear hw0;go_wp2
          go_meet
          exact⟨_,rfl,Lib.hid (by rw[HWE.out];rfl),rfl⟩
        case rest=>
         obtain⟨Q,rfl,HQ,hwy⟩:=hcut;rw[hwy];clear hwy wc;cases Q
         ·have HACK:Hid (ac m2=ins1 (((ac L).take (k+1)).flatMap (pairsOf p (ac R)))):=Lib.hid (by rw[HFS.out,←HQ.out,HAC2.out];simp)
          clear z0 z1 z2 z3 z4 z5 z6 z7 z8 z9 z10 z11 z12
          go_wp2_with fail
          go_roundw
          case rel=>exact⟨k+1,m2,vl2,by omega,by go_num,HO2,HK2,HBN,HACK,HTW2⟩
          case measure=>simp[intOf];omega
         ·have hp4:p.right.length≤4:=(counts_short (check_ok HG.out.plan).2.2.1).r2
          obtain⟨zs,hzs,hmk⟩:=val_make p.right.length (by omega);have HMK:=Lib.hid hmk;have HNS:Hid (Sl (wr2.alloc (.cells zs 68)).drew (.slice (some ⟨wr2.heap.size,0,none⟩) p.right.length p.right.length) (nullsR p.right.length).length (rowCells (nullsR p.right.length))):=Lib.hid (by rw[hzs];exact nulls_sl wr2 p.right.length (by omega));have HTA:=Lib.hid (HTW2.out.trans (turned_below (below_alloc wr2 (.cells zs 68))));have hba:=(HOLD.out _ HTA.out).1;have hya:=(HOLD.out _ HTA.out).2;have hbA:=below_alloc wr2 (.cells zs 68);have HPUT:=Lib.hid (jput_any c wB.heap.size (.slice Ax x.r.length cx) (.slice (some ⟨wr2.heap.size,0,none⟩) p.right.length p.right.length) vl2 x.r (nullsR p.right.length) m2 (wr2.alloc (.cells zs 68)).drew (HK2.out.alloc _).drew HCB.out (by have h1:=HWBR.out;have h2:=HSZ2.out;have h3:=hbA.size;show wB.heap.size≤(wr2.alloc (.cells zs 68)).heap.size;omega) (HO2.out.alloc _).drew (HSX.out _ hba.drew) HNS.out (by have h1:=HXL.out;rw[nulls_len];omega) HML.out);have hcellA:=And.intro (HKP2.out.drew.cell 1 _ rfl) ((HK0.out.below hyw2).drew.cell 7 _ rfl);have hcellB:=And.intro ((HKP2.out.alloc (.cells zs 68)).drew.cell 1 _ rfl) ((HK0.out.below hya).drew.cell 7 _ rfl);have hk0:(0:Int)≤(p.right.length:Int):=by omega
          clear z0 z1 z2 z3 z4 z5 z6 z7 z8 z9 z10 z11 z12 hzs hp4
          go_upto_region 27 with fail
          go_region_held3 (fun w'=>w'.cell? ⟨wr.heap.size,1,none⟩=some (.slice Ax x.r.length cx)∧w'.cell? ⟨w.heap.size,7,none⟩=some (.slice A1 p.right.length c1))
           (first|exact hcellA|exact hcellB|exact hcell8|go_keep)
           ((go_at_call 34;refine Calls.mono (by with_reducible exact HPUT.out) ?_;rintro e w8 ⟨rfl,⟨vl3,hK3,⟨v9,hO3⟩,hv3⟩,hT3⟩
             have HTT3:=Lib.hid (show Turned (fun b=>b=c∨b=ga∨(wB.heap.size≤b∧b<wr.heap.size)) wx w8 from((HT2.out.trans (turned_below hbA)).trans (turned_drew _ _)).transN hT3 (fun i hi e=>by
              rcases e with e|e
              ·exact .inl e
              ·have h1:=HV2.out i e
               have h2:=own_ge HO2.out.own i e;exact .inr (.inr ⟨h2,by omega⟩)))
             have HTW3:=Lib.hid (show Turned (fun b=>b=c∨b=ga) wB w8 from HTX.out.transN HTT3.out (fun i hi e=>by rcases e with e|e|e;exact .inl e;exact .inr e;omega));have hcell8:=And.intro ((blk_turned HKPX.out HTT3.out (fun e=>by have h1:=HWBR.out;have h2:=HCB.out;have h3:=HGB.out;have e:wr.heap.size=c∨wr.heap.size=ga∨(wB.heap.size≤wr.heap.size∧wr.heap.size<wr.heap.size):=e;omega)).cell 1 _ rfl) ((HK0.out.below (HOLD.out w8 HTW3.out).2).cell 7 _ rfl)))
          all_goals
           have HBR3:Hid (BRow w8 ga (alB p (ac R) ((ac L).take (k+1)) [])):=Lib.hid (blk_turned (w:=(wr2.alloc (.cells zs 68)).drew) (Blk.alloc HBN.out _).drew hT3 (fun e=>by
            have h1:=HCG.out;have h2:=HGB.out;rcases e with e|e
            ·have e:ga=c:=e;omega
            ·have:=own_ge HO2.out.own ga e;omega))
           have HO9:=Lib.hid hO3;have HK9:=Lib.hid hK3;have HACK:Hid (ac (m2++[⟨v9,x.r++nullsR p.right.length,1⟩])=ins1 (((ac L).take (k+1)).flatMap (pairsOf p (ac R)))):=Lib.hid (by rw[ac_snoc HAC2.out,HFS.out,←HQ.out];simp);clear hK3 hO3 hv3 hT3 hcellA hcellB hcell8 hba hya hbA
           go_wp2_with fail
           go_roundw
           case rel=>exact⟨k+1,_,vl3,by omega,by go_num,HO9,HK9,HBR3,HACK,HTW3⟩
           case measure=>simp[intOf];omega
    ·obtain rfl:k=L.length:=by omega
     have htk:(ac L).take L.length=ac L:=List.take_of_length_le (by rw[ac_lenC];exact Nat.le_refl _);rw[htk]at HBR HAC;have HAC4:Hid (ac m=ins1 ((ac L).flatMap (pairsOf p (ac R))++(List.range 0).flatMap (lateOf p (ac L) (ac R)))):=Lib.hid (by rw[HAC.out];simp)
     have HRL:Hid (((ac L).flatMap (pairsOf p (ac R))).length≤14641):=Lib.hid (by
      have h1:=flat_len_le (f:=pairsOf p (ac R)) (ac L) fun y _=>pairs_len p (ac R) y;rw[ac_lenC,ac_lenC]at h1;have h2:L.length*(R.length+1)≤121*121:=Nat.mul_le_mul (by omega) (by omega);omega)
     have HBRT:=Lib.hid (show ∀W,Turned (fun b=>b=c∨b=ga) wB W→wB.heap.size≤W.heap.size from fun W hT=>hT.size);clear hlt hk HAC htk
     go_wp2_with fail
     go_loopw[22,23,115] (fun _ _ iv wr4=> ∃(i:Nat) (m4:List Chn) (vl4:Value),i≤R.length∧iv= .int .i64 i∧Hid (OwnC wr4 wB.heap.size vl4 m4)∧Hid (Blk wr4 c 42 #[vl4])∧Hid (BRow wr4 ga (alB p (ac R) (ac L) []))∧Hid (ac m4=ins1 ((ac L).flatMap (pairsOf p (ac R))++(List.range i).flatMap (lateOf p (ac L) (ac R))))∧Hid (Turned (fun b=>b=c∨b=ga) wB wr4)) (fun _ _ iv _=>R.length-(intOf iv).toNat)
     case atStart=>exact⟨0,m,vl,by omega,rfl,HO,HKc,HBR,HAC4,HT⟩
     case round=>
      clear HO HKc HBR HAC4 HT;rename World=>wr4
      obtain⟨i,m4,vl4,hi,rfl,HO,HKc,HBR,HAC,HT⟩:=hrel;by_cases hlt:i<R.length
      ·have hbr:=(HOLD.out wr4 HT.out).1
       have hx:=List.getElem?_eq_getElem (l:=R) hlt;generalize R[i]=x at hx;have hxm:=List.mem_of_getElem? hx;obtain⟨Ax,cx,ex,nx,mx,-⟩:=id (HR.out.rows x hxm);obtain⟨xv,xr,xk⟩:=x;simp only at ex nx;subst ex;obtain⟨x,hxe⟩: ∃x,x=(⟨.slice Ax xr.length cx,xr,xk⟩:Chn):=⟨_,rfl⟩;have hxr:xr=x.r:=by rw[hxe]
       have hxk:xk=x.k:=by rw[hxe]
       have hxv:x.v= .slice Ax x.r.length cx:=by rw[hxe]
       rw[←hxe]at hx hxm;clear hxe;subst hxr hxk;obtain⟨bv,ov,hAv,-,hcb⟩:=chn_at HR.out.sl rfl hx;subst hAv;obtain⟨d0,d1⟩:=hcb _ hbr;rw[hxv]at d1;have HSX:Hid (∀W,Below w.heap.size w W→Sl W (.slice Ax x.r.length cx) x.r.length (rowCells x.r)):=Lib.hid (fun W hb=>by rw[←hxv];exact(HR.out.rows x hxm).below hb);have HXL:Hid (x.r.length≤4):=Lib.hid (rowE_fine HG.out.plan (HG.out.rr (x.k,x.r) (List.mem_map.2 ⟨x,hxm,rfl⟩))).len;have HRA:=Lib.hid (rowAt_ac hx);have HBA:=Lib.hid (alB_at (p:=p) (L:=ac L) (R:=ac R) (i:=i) (by rw[ac_lenC];exact hlt));obtain⟨al,hal⟩: ∃y,aloneB2 p (ac L) (ac R) i=y:=⟨_,rfl⟩;rw[hal]at HBA
       have hLS:(List.range (i+1)).flatMap (lateOf p (ac L) (ac R))=(List.range i).flatMap (lateOf p (ac L) (ac R))++(if al&&keepsB p 2 then[nullsR p.left.length++x.r]else[]):=by
        rw[List.range_succ,List.flatMap_append,List.flatMap_cons,List.flatMap_nil,List.append_nil];show _++lateOf p (ac L) (ac R) i=_;unfold lateOf;rw[hal,HRA.out]
       have HLS:=Lib.hid hLS;have k0:(0:Int)≤(i:Int):=by omega
       have k1:(i:Int)<(R.length:Int):=by omega
       have HBC:=Lib.hid (below_alloc wr4 (.cells #[.int .i64 x.k,.slice Ax x.r.length cx] 53));have HKP:=Lib.hid (Blk.new wr4 53 #[.int .i64 x.k,.slice Ax x.r.length cx]);obtain⟨wk,hwk⟩: ∃V,wr4.alloc (.cells #[.int .i64 x.k,.slice Ax x.r.length cx] 53)=V:=⟨_,rfl⟩;have HSZC:Hid (wk.heap.size=wr4.heap.size+1):=Lib.hid (by rw[←hwk];simp);rw[hwk]at HBC HKP;have HTC:=Lib.hid (HT.out.trans (turned_below HBC.out));have HBW:=Lib.hid HT.out.size;have hbc:=(HOLD.out wk HTC.out).1;have hyc:=(HOLD.out wk HTC.out).2;have HOC:=Lib.hid (HO.out.below HBC.out);have HKCC:=Lib.hid (HKc.out.below HBC.out);have HBRC:Hid (BRow wk ga (alB p (ac R) (ac L) [])):=Lib.hid (Blk.below HBR.out HBC.out);obtain⟨z0,z1,z2,z3,z4,z5,z6,z7,z8,z9,z10,z11,z12⟩:=pl_cells (HK0.out.below hyc);have da:=HBRC.out.cell HBA.out
       have HML:Hid (m4.length≤1000000):=Lib.hid (by
        have h1:=rows_few HAC.out;have h2:=HRL.out;have h3:=flat_len_le (f:=lateOf p (ac L) (ac R)) (n:=1) (List.range i) fun i _=>by unfold lateOf;split<;>simp
        rw[List.length_range]at h3;rw[List.length_append]at h1;omega)
       have HVO4:=Lib.hid (own_lt HO.out.own);clear hx hcb hxm hxv hbr hal hLS HO HKc HBR
       go_upto_region 32 with fail
       clear hwk
       go_cut[133]from 116 to 142 (fun cv wy=> ∃Q:Bool,cv= .bool Q∧Hid (Q=(al&&keepsB p 2))∧wy=wk)
       case first=>
        have HKE:Hid (keepsB p 2=(p.mode==3||p.mode==4)):=Lib.hid rfl;cases al with
        |true=>
         cases hq3:(p.mode==3)
         ·cases hq4:(p.mode==4)
          all_goals
           rw[hq3,hq4]at HKE;go_wp2
           go_meet
           exact⟨_,rfl,Lib.hid (by rw[HKE.out];rfl),rfl⟩
         ·rw[hq3]at HKE
          go_wp2
          go_meet
          exact⟨_,rfl,Lib.hid (by rw[HKE.out];rfl),rfl⟩
        |false=>
         go_wp2
         go_meet
         exact⟨_,rfl,Lib.hid rfl,rfl⟩
       case rest=>
        obtain⟨Q,rfl,HQ,hwy⟩:=hcut;rw[hwy];clear hwy wc;cases Q
        ·have HACK:Hid (ac m4=ins1 ((ac L).flatMap (pairsOf p (ac R))++(List.range (i+1)).flatMap (lateOf p (ac L) (ac R)))):=Lib.hid (by rw[HLS.out,←HQ.out,HAC.out];simp)
         clear z0 z1 z2 z3 z4 z5 z6 z7 z8 z9 z10 z11 z12 da
         go_wp2_with fail
         go_roundw
         case rel=>exact⟨i+1,m4,vl4,by omega,by go_num,HOC,HKCC,HBRC,HACK,HTC⟩
         case measure=>simp[intOf];omega
        ·have hp4:p.left.length≤4:=(counts_short (check_ok HG.out.plan).2.2.1).l2
         obtain⟨zs,hzs,hmk⟩:=val_make p.left.length (by omega);have HMK:=Lib.hid hmk;have HNS:Hid (Sl (wk.alloc (.cells zs 68)).drew (.slice (some ⟨wk.heap.size,0,none⟩) p.left.length p.left.length) (nullsR p.left.length).length (rowCells (nullsR p.left.length))):=Lib.hid (by rw[hzs];exact nulls_sl wk p.left.length (by omega));have HTA:=Lib.hid (HTC.out.trans (turned_below (below_alloc wk (.cells zs 68))));have hba:=(HOLD.out _ HTA.out).1;have hya:=(HOLD.out _ HTA.out).2;have hbA:=below_alloc wk (.cells zs 68);have HPUT:=Lib.hid (jput_any c wB.heap.size (.slice (some ⟨wk.heap.size,0,none⟩) p.left.length p.left.length) (.slice Ax x.r.length cx) vl4 (nullsR p.left.length) x.r m4 (wk.alloc (.cells zs 68)).drew (HKCC.out.alloc _).drew HCB.out (by have h1:=HBC.out.size;have h2:=HBW.out;have h3:=hbA.size;show wB.heap.size≤(wk.alloc (.cells zs 68)).heap.size;omega) (HOC.out.alloc _).drew HNS.out (HSX.out _ hba.drew) (by have h1:=HXL.out;rw[nulls_len];omega) HML.out);have hcellA:=And.intro (HKP.out.drew.cell 1 _ rfl) ((HK0.out.below hyc).drew.cell 6 _ rfl);have hcellB:=And.intro ((HKP.out.alloc (.cells zs 68)).drew.cell 1 _ rfl) ((HK0.out.below hya).drew.cell 6 _ rfl);have hk0:(0:Int)≤(p.left.length:Int):=by omega
         clear z0 z1 z2 z3 z4 z5 z6 z7 z8 z9 z10 z11 z12 hzs hp4 da
         go_upto_region 33 with fail
         go_region_held3 (fun w'=>w'.cell? ⟨wr4.heap.size,1,none⟩=some (.slice Ax x.r.length cx)∧w'.cell? ⟨w.heap.size,6,none⟩=some (.slice A0 p.left.length c0))
          (first|exact hcellA|exact hcellB|exact hcell8|go_keep)
          ((go_at_call 34;refine Calls.mono (by with_reducible exact HPUT.out) ?_;rintro e w8 ⟨rfl,⟨vl3,hK3,⟨v9,hO3⟩,hv3⟩,hT3⟩
            have hTk:Turned (fun k=>k=c∨vl4.ownBlock=some k) wk w8:=((turned_below hbA).trans (turned_drew _ _)).trans hT3
            have HTW3:=Lib.hid (show Turned (fun b=>b=c∨b=ga) wB w8 from HTC.out.transN hTk (fun i hi e=>by
             rcases e with e|e
             ·exact .inl e
             ·have h2:=own_ge HOC.out.own i e
              omega))
            have hcell8:=And.intro ((blk_turned HKP.out hTk (fun e=>by
             have h1:=HBW.out;have h2:=HCB.out;rcases e with e|e
             ·have e:wr4.heap.size=c:=e;omega
             ·have:=HVO4.out _ e;omega)).cell 1 _ rfl) ((HK0.out.below (HOLD.out w8 HTW3.out).2).cell 6 _ rfl)))
         all_goals
          have HBR3:Hid (BRow w8 ga (alB p (ac R) (ac L) [])):=Lib.hid (blk_turned HBRC.out hTk (fun e=>by
           have h1:=HCG.out;have h2:=HGB.out;rcases e with e|e
           ·have e:ga=c:=e;omega
           ·have:=own_ge HOC.out.own ga e;omega))
          have HO9:=Lib.hid hO3;have HK9:=Lib.hid hK3;have HACK:Hid (ac (m4++[⟨v9,nullsR p.left.length++x.r,1⟩])=ins1 ((ac L).flatMap (pairsOf p (ac R))++(List.range (i+1)).flatMap (lateOf p (ac L) (ac R)))):=Lib.hid (by rw[ac_snoc HAC.out,HLS.out,←HQ.out];simp);clear hK3 hO3 hv3 hT3 hTk hcellA hcellB hcell8 hba hya hbA
          go_wp2_with fail
          go_roundw
          case rel=>exact⟨i+1,_,vl3,by omega,by go_num,HO9,HK9,HBR3,HACK,HTW3⟩
          case measure=>simp[intOf];omega
      ·obtain rfl:i=R.length:=by omega
       have HJ:Hid (ac m4=(joinL p (ac L) (ac R)).map fun r=>(1,r)):=Lib.hid (by rw[HAC.out];unfold joinL;rw[ac_lenC]);have HNB:Hid (NumsB (ac L) (ac R)):=Lib.hid ⟨fun x hx y hy=>by obtain⟨z,hz,rfl⟩:=List.mem_map.1 hx;exact(HFL.out z hz).nums y hy,fun x hx y hy=>by obtain⟨z,hz,rfl⟩:=List.mem_map.1 hx;exact(HFR.out z hz).nums y hy⟩;obtain⟨hfm,hfs⟩:=ins_fold HJ.out (joined_good HG.out HNB.out) (by have:=joined_len (p:=p) HG.out.few;omega);have hbr:=(HOLD.out wr4 HT.out).1;have HFO:=Lib.hid (cfold_any (.slice none 0 0) vl4 [] m4 wr4 ⟨Sl.nil_ _,nofun⟩ ⟨nofun,nofun⟩ HO.out.chs hfm (HM.out.below hbr));rw[hfs]at HFO;obtain⟨A9,n9,c9,e9⟩: ∃A n c,vl4= .slice A n c:=by obtain⟨A,c,e,-⟩:=Sl.of_own HO.out.own;exact⟨A,_,c,e⟩
       rw[e9]at HFO;have dc:=HKc.out.cell 0 _ rfl;rw[e9]at dc;clear hfm hfs e9
       go_wp2_with fail
       refine Calls.mono (by with_reducible exact HFO.out) ?_;rintro e w9 ⟨v9,l9,rfl,hV9,ha9,hb9⟩;have HV9:=Lib.hid hV9;have HA9:=Lib.hid ha9;have HB9:=Lib.hid (below_trans hbr hb9);clear hV9 ha9 hb9 dc;go_wp2
       go_ret2
       exact⟨_,l9,rfl,HV9.out,by rw[HRR.out];simpa using HA9.out,HB9.out⟩
end Go.Proofs.YtjhbeecmdgglgaaGreatDoor
