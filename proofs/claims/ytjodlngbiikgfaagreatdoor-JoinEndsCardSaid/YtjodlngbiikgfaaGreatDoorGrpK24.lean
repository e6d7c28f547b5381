/-Joins: the partners of a stream's row. (Printed by genjn6.py.) -/
import Derived.Test.YtjodlngbiikgfaaGreatDoorGrpK22
set_option linter.unusedSimpArgs false
set_option linter.unusedVariables false
namespace Go.Proofs.YtjodlngbiikgfaaGreatDoor
open Go.RowKit Go.Maps
open tm (fitsB fits_of winF window_any)
set_option maxHeartbeats 4000000 in
set_option maxRecDepth 10000 in
theorem partners_any (g base:Nat)(p:Pl)(e:Evv)(lm rm:Int)(X:Wk)(w:World)(hI:WkI w g base p e lm rm X)(hG:WkG X.s)(hz:checkP p=0)(hk3:p.kind≠3)(hs:e.side=1∨e.side=2)(ht:fitsB e.t=true)(hm:Mx w):
 Calls Tryz.prog 264 #[.agg #[],.pointer (some ⟨g,0,none⟩)] w fun r w'=> ∃v l,r= .returned v∧OwnE w' w.heap.size v l∧ens l=scanL (X.s.buf (3-ownS e.side)).bu X.key.toList (spanT p.kind p.low p.high p.size e.side e.t).1 (spanT p.kind p.low p.high p.size e.side e.t).2∧Below w.heap.size w w':=by
 have hF:=far_cases e.side;have hos:ownS e.side=e.side:=by unfold ownS;rcases hs with h|h<;>rw[h]<;>rfl
 obtain⟨F,hFe⟩: ∃F,3-ownS e.side=F:=⟨_,rfl⟩;have H34: ∀W,WkI W g base p e lm rm X→W.cell? ⟨g,34,none⟩=some (bufA g (3-ownS e.side)):=fun W h=>h.blk.cellR 34 rfl;have H28: ∀W,WkI W g base p e lm rm X→W.cell? ⟨g,28,none⟩=some (.int .i64 (ownS e.side)):=fun W h=>h.blk.cellR 28 rfl;rw[hFe]at hF H34⊢;rw[hos]at H28;obtain⟨FB,hFB⟩: ∃b,X.s.buf F=b:=⟨_,rfl⟩;have hok:=(hI.buf F).1.ok;have hft:=(hG.buf F).2;have hgb:=(hG.buf F).1;have H0: ∀W,WkI W g base p e lm rm X→W.cell? ⟨g,bufO F,none⟩=some (.int .i64 (X.s.buf F).limit)∧W.cell? ⟨g,bufO F+1,none⟩=some (X.s.buf F).vm∧W.cell? ⟨g,bufO F+2,none⟩=some (X.s.buf F).vr:=fun W h=>h.bufCells hF;rw[hFB]at hok hft hgb H0⊢;rw[bufA_is]at H34;obtain⟨o,ho⟩: ∃o,bufO F=o:=⟨_,rfl⟩;rw[ho]at H34 H0;have hB1:=below_alloc w (.cells #[] 160);have HI1:=Lib.hid (hI.below hB1);obtain⟨W1,hW1⟩: ∃V,w.alloc (.cells #[] 160)=V:=⟨_,rfl⟩;rw[hW1]at HI1 hB1;have HSZ:Hid (w.heap.size≤W1.heap.size):=Lib.hid hB1.size;have HB1:=Lib.hid hB1;have HBC:=Lib.hid (fun W (h:Below W1.heap.size W1 W)=>H0 W (HI1.out.below h));have HP34:=Lib.hid (fun W (h:Below W1.heap.size W1 W)=>H34 W (HI1.out.below h));have HK26:Hid (∀W,Below W1.heap.size W1 W→W.cell? ⟨g,26,none⟩=some (.string X.key)):=Lib.hid (fun W (h:Below W1.heap.size W1 W)=>(HI1.out.below h).blk.cellR 26 rfl);have h28:=H28 W1 HI1.out;have hc0:=HI1.out.blk.cellR 0 rfl;have hc2:=HI1.out.blk.cellR 2 rfl;have hc3:=HI1.out.blk.cellR 3 rfl;have hc4:=HI1.out.blk.cellR 4 rfl;have hc24:=HI1.out.blk.cellR 24 rfl;obtain⟨ft,hft2⟩: ∃q,(spanT p.kind p.low p.high p.size e.side e.t).1=q:=⟨_,rfl⟩;obtain⟨ut,hut2⟩: ∃q,(spanT p.kind p.low p.high p.size e.side e.t).2=q:=⟨_,rfl⟩
 have HSC:Hid (∀V f u,Below W1.heap.size W1 V→f=ft→u=ut→Calls Tryz.prog 254 #[.agg #[.int .i64 FB.limit,FB.vm,FB.vr],.string X.key,.int .i64 f,.int .i64 u] V fun e w'=> ∃v l,e= .returned (.tuple #[v,.int .i64 0])∧OwnE w' V.heap.size v l∧ens l=scanL FB.bu X.key.toList ft ut∧Below V.heap.size V w'):=Lib.hid (fun V f u h e1 e2=>by
  subst e1 e2;have h1:=scan_own FB X.key.toList f u V (hok.below (below_trans HB1.out h)) hft (hm.below (below_trans HB1.out h));rw[check_zeroB.2 hgb,if_pos rfl,str_of]at h1;exact h1)
 rw[hft2,hut2];have hd0:Below W1.heap.size W1 W1.drew:=(Below.refl _ W1).drew;have HSS:=Lib.hid (fun w' (h:Below W1.heap.size W1 w')=>And.intro (HP34.out _ h) (And.intro (HK26.out _ h) (And.intro ((HBC.out _ h).1) (And.intro ((HBC.out _ h).2.1) ((HBC.out _ h).2.2)))));have htb:=fits_of ht;have hkd:=check_kind hz;clear hok hft hI hG hm hF hFe hFB ho hgb H34 H28 H0 hB1 hz ht;generalize e.t=t at hc24 hft2 hut2 htb;obtain⟨lowQ,hlowQ⟩: ∃q,p.low=q:=⟨_,rfl⟩;obtain⟨highQ,hhighQ⟩: ∃q,p.high=q:=⟨_,rfl⟩;obtain⟨sizeQ,hsizeQ⟩: ∃q,p.size=q:=⟨_,rfl⟩;rw[hlowQ]at hc2 hft2 hut2 hkd;rw[hhighQ]at hc3 hft2 hut2 hkd;rw[hsizeQ]at hc4 hft2 hut2 hkd;by_cases hk2:p.kind=2
 ·have hbk:(p.kind==2)=true:=by rw[hk2];rfl
  obtain⟨hs1,hs2⟩:1≤sizeQ∧sizeQ≤1099511627776:=by
   rcases hkd with⟨h,-⟩|⟨-,h1,h2⟩|h
   ·omega
   ·exact⟨h1,h2⟩
   ·omega
  have HWN:=Lib.hid (window_any t sizeQ W1 htb.1 htb.2 hs1 hs2);have hwb:=winB t sizeQ hs1;rw[hk2]at hft2 hut2;have hff:winF t sizeQ=ft:=by rw[←hft2];rfl
  have huu:winF t sizeQ+sizeQ-1=ut:=by rw[←hut2];rfl
  rw[hff]at HWN hwb huu;have HUU:=Lib.hid huu;clear hft2 hut2 hff huu hkd;go_enter Tryz.func264,Tryz.ntmps264
  go_upto_region 1 with fail
  first|rw[hW1]|skip
  clear hW1
  go_wp2_with fail
  refine Calls.mono (by with_reducible exact HWN.out) ?_;rintro r x4 ⟨rfl,hww⟩;subst hww
  go_upto_region 9 with fail
  refine tr (S:=(fun w'=>w'.cell? ⟨g,34,none⟩=some (.pointer (some ⟨g,o,none⟩))∧w'.cell? ⟨g,26,none⟩=some (.string X.key)∧w'.cell? ⟨g,o,none⟩=some (.int .i64 FB.limit)∧w'.cell? ⟨g,o+1,none⟩=some (FB.vm)∧w'.cell? ⟨g,o+2,none⟩=some (FB.vr))) (HSS.out _ hd0) (fun hHeld=> ?_);refine tk 0 ?_;refine tk 1 ?_;refine tk 2 ?_;refine tk 3 ?_;refine tk 4 ?_;refine tk 5 ?_;refine tk 7 ?_;refine tk 8 ?_;refine tk 9 ?_;refine tk 10 ?_;refine tk 11 ?_;refine tk 12 ?_;refine tc 6 ?_;intro K hK;obtain⟨b0,b1,b2⟩:=HBC.out _ hd0;obtain⟨a0,a1,a2⟩:=HBC.out _ (Below.refl _ W1);go_simp;clear b0 b1 b2 a0 a1 a2;refine hK.out _ _ (HSS.out _ hd0) (fun hHeld6=> ?_);clear hK K;refine tc 13 ?_;intro K hK;go_simp;refine Calls.mono (by with_reducible exact HSC.out _ _ _ hd0 rfl (by first|rfl|(rw[←HUU.out];first|done|go_num))) ?_;rintro r x4 ⟨v,l,rfl,hOE,hens,hb4⟩;have hx4:=below_trans hd0 hb4;obtain⟨A,n,c,hv⟩:=own_slice hOE.own;subst hv;have HOE:=Lib.hid hOE;have HEN:=Lib.hid hens;have HX4:=Lib.hid hx4;have HB4:=Lib.hid hb4;clear hOE hens hb4
  go_wp2_with fail
  refine hK.out _ _ (HSS.out _ hx4) (fun hHeld13=> ?_);clear hK K;refine tk 14 ?_;refine tk 15 ?_;refine tk 16 ?_;refine tk 17 ?_;refine tk 18 ?_;refine td ?_;go_wp2;go_ret;exact⟨_,l,rfl,HOE.out.low HSZ.out,by rw[HEN.out],below_trans HB1.out HX4.out⟩
 ·have hbk:(p.kind==2)=false:=by simpa using hk2
  have hk1:p.kind=1:=by
   rcases hkd with⟨h,-⟩|⟨h,-⟩|h
   ·exact h
   ·exact absurd h hk2
   ·exact absurd h hk3
  obtain⟨hl1,hl2⟩:fitsB lowQ=true∧fitsB highQ=true:=by
   rcases hkd with⟨-,h1,h2⟩|⟨h,-⟩|h
   ·exact⟨h1,h2⟩
   ·exact absurd h hk2
   ·exact absurd h hk3
  have hlb:=fits_of hl1;have hhb:=fits_of hl2;rw[hk1]at hft2 hut2;clear hkd hl1 hl2;rcases hs with hs1|hs2
  ·rw[hs1]at h28 hft2 hut2
   have hff:t+lowQ=ft:=by rw[←hft2];rfl
   have huu:t+highQ=ut:=by rw[←hut2];rfl
   clear hft2 hut2;go_enter Tryz.func264,Tryz.ntmps264
   go_upto_region 1 with fail
   first|rw[hW1]|skip
   clear hW1
   go_upto_region 8 with fail
   go_quiet (fail)
   have hd0:Below W1.heap.size W1 (W1.drewN (nq+1)):=below_drewN (Below.refl _ W1) (nq+1)
   go_upto_region 9 with fail
   refine tr (S:=(fun w'=>w'.cell? ⟨g,34,none⟩=some (.pointer (some ⟨g,o,none⟩))∧w'.cell? ⟨g,26,none⟩=some (.string X.key)∧w'.cell? ⟨g,o,none⟩=some (.int .i64 FB.limit)∧w'.cell? ⟨g,o+1,none⟩=some (FB.vm)∧w'.cell? ⟨g,o+2,none⟩=some (FB.vr))) (HSS.out _ hd0) (fun hHeld=> ?_);refine tk 0 ?_;refine tk 1 ?_;refine tk 2 ?_;refine tk 3 ?_;refine tk 4 ?_;refine tk 5 ?_;refine tk 7 ?_;refine tk 8 ?_;refine tk 9 ?_;refine tk 10 ?_;refine tk 11 ?_;refine tk 12 ?_;refine tc 6 ?_;intro K hK;obtain⟨b0,b1,b2⟩:=HBC.out _ hd0;obtain⟨a0,a1,a2⟩:=HBC.out _ (Below.refl _ W1);go_simp;clear b0 b1 b2 a0 a1 a2;refine hK.out _ _ (HSS.out _ hd0) (fun hHeld6=> ?_);clear hK K;refine tc 13 ?_;intro K hK;go_simp;refine Calls.mono (by with_reducible exact HSC.out _ _ _ hd0 (by first|rfl|(rw[←hff];first|done|go_num)) (by first|rfl|(rw[←huu];first|done|go_num))) ?_;rintro r x4 ⟨v,l,rfl,hOE,hens,hb4⟩;have hx4:=below_trans hd0 hb4;obtain⟨A,n,c,hv⟩:=own_slice hOE.own;subst hv;have HOE:=Lib.hid hOE;have HEN:=Lib.hid hens;have HX4:=Lib.hid hx4;have HB4:=Lib.hid hb4;clear hOE hens hb4
   go_wp2_with fail
   refine hK.out _ _ (HSS.out _ hx4) (fun hHeld13=> ?_);clear hK K;refine tk 14 ?_;refine tk 15 ?_;refine tk 16 ?_;refine tk 17 ?_;refine tk 18 ?_;refine td ?_;go_wp2;go_ret;exact⟨_,l,rfl,HOE.out.low HSZ.out,by rw[HEN.out],below_trans HB1.out HX4.out⟩
  ·rw[hs2]at h28 hft2 hut2
   have hff:t-highQ=ft:=by rw[←hft2];rfl
   have huu:t-lowQ=ut:=by rw[←hut2];rfl
   clear hft2 hut2;go_enter Tryz.func264,Tryz.ntmps264
   go_upto_region 1 with fail
   first|rw[hW1]|skip
   clear hW1
   go_upto_region 3 with fail
   go_quiet (fail)
   have hd0:Below W1.heap.size W1 (W1.drewN (nq+1)):=below_drewN (Below.refl _ W1) (nq+1)
   go_upto_region 9 with fail
   refine tr (S:=(fun w'=>w'.cell? ⟨g,34,none⟩=some (.pointer (some ⟨g,o,none⟩))∧w'.cell? ⟨g,26,none⟩=some (.string X.key)∧w'.cell? ⟨g,o,none⟩=some (.int .i64 FB.limit)∧w'.cell? ⟨g,o+1,none⟩=some (FB.vm)∧w'.cell? ⟨g,o+2,none⟩=some (FB.vr))) (HSS.out _ hd0) (fun hHeld=> ?_);refine tk 0 ?_;refine tk 1 ?_;refine tk 2 ?_;refine tk 3 ?_;refine tk 4 ?_;refine tk 5 ?_;refine tk 7 ?_;refine tk 8 ?_;refine tk 9 ?_;refine tk 10 ?_;refine tk 11 ?_;refine tk 12 ?_;refine tc 6 ?_;intro K hK;obtain⟨b0,b1,b2⟩:=HBC.out _ hd0;obtain⟨a0,a1,a2⟩:=HBC.out _ (Below.refl _ W1);go_simp;clear b0 b1 b2 a0 a1 a2;refine hK.out _ _ (HSS.out _ hd0) (fun hHeld6=> ?_);clear hK K;refine tc 13 ?_;intro K hK;go_simp;refine Calls.mono (by with_reducible exact HSC.out _ _ _ hd0 (by first|rfl|(rw[←hff];first|done|go_num)) (by first|rfl|(rw[←huu];first|done|go_num))) ?_;rintro r x4 ⟨v,l,rfl,hOE,hens,hb4⟩;have hx4:=below_trans hd0 hb4;obtain⟨A,n,c,hv⟩:=own_slice hOE.own;subst hv;have HOE:=Lib.hid hOE;have HEN:=Lib.hid hens;have HX4:=Lib.hid hx4;have HB4:=Lib.hid hb4;clear hOE hens hb4
   go_wp2_with fail
   refine hK.out _ _ (HSS.out _ hx4) (fun hHeld13=> ?_);clear hK K;refine tk 14 ?_;refine tk 15 ?_;refine tk 16 ?_;refine tk 17 ?_;refine tk 18 ?_;refine td ?_;go_wp2;go_ret;exact⟨_,l,rfl,HOE.out.low HSZ.out,by rw[HEN.out],below_trans HB1.out HX4.out⟩
end Go.Proofs.YtjodlngbiikgfaaGreatDoor
