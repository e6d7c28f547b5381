/-Joins: wrong. (Printed by genjn9.py.) Plain law of joins: what is played stays right. Joins: fresh. (Printed by genjn14.py.) Joins: Start. Joins: of. -/
import Derived.Test.YtjodlngbiikgfaaGreatDoorGrpK20
import Derived.Test.YtjodlngbiikgfaaGreatDoorGrpK9
import Derived.Test.YtjodlngbiikgfaaGreatDoorGrpK18
import Derived.Test.YtjodlngbiikgfaaGreatDoorGrpK19
import Derived.Test.YtjodlngbiikgfaaGreatDoorGrpK17
import Derived.Test.YtjodlngbiikgfaaGreatDoorGrpK8
set_option linter.unusedSimpArgs false
set_option linter.unusedVariables false
namespace Go.Proofs.YtjodlngbiikgfaaGreatDoor
open Go.RowKit Go.Maps
open tm (fitsB fits_of fits_any)
theorem own_sliceN {w:World}{base:Nat}{e:TypeId}{size n:Nat}{v:Value}{xs:List Value}(h:w.ownsRow base e size v n xs): ∃A m c,v= .slice A m c∧m=n:=by
 obtain⟨A,c,e,-⟩:=Sl.of_own h;exact⟨A,n,c,e,rfl⟩
theorem WkI.drewN {w:World}{g base:Nat}{p:Pl}{e:Evv}{lm rm:Int}{X:Wk}(h:WkI w g base p e lm rm X)(n:Nat):WkI (w.drewN n) g base p e lm rm X:=h.below (below_drewN (Below.refl _ w) n)
theorem turned_drewN {F:Nat→Prop}{a w:World}(h:Turned F a w)(n:Nat):Turned F a (w.drewN n):=h.trans (turned_below (below_drewN (Below.refl _ w) n))
theorem WkI.setKey {w:World}{g base:Nat}{p:Pl}{e:Evv}{lm rm:Int}{X:Wk}(h:WkI w g base p e lm rm X)(k:ByteArray)(q:Bool):
 WkI ((w.setCell ⟨g,26,none⟩ (.string k)).setCell ⟨g,27,none⟩ (.bool q)) g base p e lm rm ⟨X.s,k,q,X.vo,X.m,X.met⟩∧WkI ((w.setCell ⟨g,27,none⟩ (.bool q)).setCell ⟨g,26,none⟩ (.string k)) g base p e lm rm ⟨X.s,k,q,X.vo,X.m,X.met⟩:=
 ⟨(h.set (Y:=⟨X.s,k,X.has,X.vo,X.m,X.met⟩) 26 (.string k) rfl rfl rfl rfl rfl).set (Y:=⟨X.s,k,q,X.vo,X.m,X.met⟩) 27 (.bool q) rfl rfl rfl rfl rfl,
  (h.set (Y:=⟨X.s,X.key,q,X.vo,X.m,X.met⟩) 27 (.bool q) rfl rfl rfl rfl rfl).set (Y:=⟨X.s,k,q,X.vo,X.m,X.met⟩) 26 (.string k) rfl rfl rfl rfl rfl⟩
theorem sides_btw {n:Int}(h:n=1∨n=2):btw n 1 2=true:=btw_yes (by omega) (by omega)
theorem ev_kind {p:Pl}{s:Jn}{v:Ev}(h: ¬(v.kind=1∨v.kind=2)∨ ¬(v.side=1∨v.side=2)):eventE p s v=4:=by
 have h2:(btw v.kind 1 2&&btw v.side 1 2)=false:=by
  rcases h with h|h
  ·rw[btw_no (by omega)];rfl
  ·rw[btw_no (n:=v.side) (by omega),Bool.and_false]
 unfold eventE;rw[if_pos h2]
theorem ev_time {p:Pl}{s:Jn}{v:Ev}(hk:v.kind=1∨v.kind=2)(hs:v.side=1∨v.side=2)(ht:fitsB v.t=false):eventE p s v=3:=by
 unfold eventE;rw[sides_btw hk,sides_btw hs,if_neg (by simp),if_pos ht]
theorem ev_form {p:Pl}{s:Jn}{v:Ev}(hk:v.kind=2)(hs:v.side=1∨v.side=2)(ht:fitsB v.t=true)(hr: ¬v.r=[]):eventE p s v=1:=by
 unfold eventE;rw[sides_btw (.inr hk),sides_btw hs,ht,if_neg (by simp),if_neg (by simp),if_pos hk,if_pos hr]
theorem ev_back {p:Pl}{s:Jn}{v:Ev}(hk:v.kind=2)(hs:v.side=1∨v.side=2)(ht:fitsB v.t=true)(hr:v.r=[])(hb:v.t<s.mark v.side):eventE p s v=8:=by
 unfold eventE;rw[sides_btw (.inr hk),sides_btw hs,ht,if_neg (by simp),if_neg (by simp),if_pos hk,if_neg (fun h=>h hr),if_pos hb]
theorem ev_mark {p:Pl}{s:Jn}{v:Ev}(hk:v.kind=2)(hs:v.side=1∨v.side=2)(ht:fitsB v.t=true)(hr:v.r=[])(hb: ¬v.t<s.mark v.side):eventE p s v=0:=by
 unfold eventE;rw[sides_btw (.inr hk),sides_btw hs,ht,if_neg (by simp),if_neg (by simp),if_pos hk,if_neg (fun h=>h hr),if_neg hb]
theorem ev_row {p:Pl}{s:Jn}{v:Ev}(hk:v.kind=1)(hs:v.side=1∨v.side=2)(ht:fitsB v.t=true)(hr: ¬rowE p v.side v.r=0):eventE p s v=rowE p v.side v.r:=by
 unfold eventE;rw[sides_btw (.inl hk),sides_btw hs,ht,if_neg (by simp),if_neg (by simp),if_neg (by omega),if_pos hr]
theorem ev_late {p:Pl}{s:Jn}{v:Ev}(hk:v.kind=1)(hs:v.side=1∨v.side=2)(ht:fitsB v.t=true)(hr:rowE p v.side v.r=0)(hb:v.t≤s.mark v.side):eventE p s v=7:=by
 unfold eventE;rw[sides_btw (.inl hk),sides_btw hs,ht,if_neg (by simp),if_neg (by simp),if_neg (by omega),if_neg (fun h=>h hr),if_pos hb]
theorem ev_many {p:Pl}{s:Jn}{v:Ev}(hk:v.kind=1)(hs:v.side=1∨v.side=2)(ht:fitsB v.t=true)(hr:rowE p v.side v.r=0)(hb: ¬v.t≤s.mark v.side)(hm:s.seq=1099511627776∨4096≤(s.buf v.side).all.length):eventE p s v=2:=by
 unfold eventE;rw[sides_btw (.inl hk),sides_btw hs,ht,if_neg (by simp),if_neg (by simp),if_neg (by omega),if_neg (fun h=>h hr),if_neg hb,if_pos hm]
theorem ev_fine {p:Pl}{s:Jn}{v:Ev}(hk:v.kind=1)(hs:v.side=1∨v.side=2)(ht:fitsB v.t=true)(hr:rowE p v.side v.r=0)(hb: ¬v.t≤s.mark v.side)(hm: ¬(s.seq=1099511627776∨4096≤(s.buf v.side).all.length)):eventE p s v=0:=by
 unfold eventE;rw[sides_btw (.inl hk),sides_btw hs,ht,if_neg (by simp),if_neg (by simp),if_neg (by omega),if_neg (fun h=>h hr),if_neg hb,if_neg hm]
set_option maxHeartbeats 8000000 in
set_option maxRecDepth 10000 in
theorem wrong_any (w0:World)(g:Nat)(p:Pl)(e:Evv)(X:Wk)(w:World)(hI:WkI w g w0.heap.size p e X.s.lm X.s.rm X)(hW:WkB w0 w g)(hG:WkG X.s)(hp:p.ok w0)(hf:p.fit)(hz:checkP p=0)(he:e.ok w0)(hfe:Fine e.r)(hm:Mx w0):
 Calls Tryz.prog 53 #[.pointer (some ⟨g,0,none⟩)] w fun r w'=>r= .returned (.int .i64 (eventE p X.s.jn e.ev))∧ ∃KY Q,(eventE p X.s.jn e.ev=0→e.kind=1→(KY,Q)=keyFor p e.side e.r)∧WkI w' g w0.heap.size p e X.s.lm X.s.rm ⟨X.s,KY,Q,X.vo,X.m,X.met⟩∧Turned (fun k=>k=g) w w':=by
 obtain⟨Ae,ce,hve,-⟩:=id he.row;have hc22:=hI.blk.cellR 22 rfl;have hc23:=hI.blk.cellR 23 rfl;have hc24:=hI.blk.cellR 24 rfl;have hc25:=hI.blk.cellR 25 rfl;rw[hve]at hc25;have hB1:=below_alloc w (.cells #[.int .i64 e.kind,.int .i64 e.side,.int .i64 e.t,.slice Ae e.r.length ce] 43);have HI1:=Lib.hid (hI.below hB1);have HT1:Hid (Turned (fun k=>k=g) w (w.alloc (.cells #[.int .i64 e.kind,.int .i64 e.side,.int .i64 e.t,.slice Ae e.r.length ce] 43))):=Lib.hid (turned_below hB1);have HB1:=Lib.hid (below_trans hW.below hB1);have HGF:Hid (∀k,k=g→w0.heap.size≤k):=Lib.hid (fun k hk=>by rw[hk];exact hW.far);have HKE:=Lib.hid (Blk.new w 43 #[.int .i64 e.kind,.int .i64 e.side,.int .i64 e.t,.slice Ae e.r.length ce]);have HNE:Hid (w.heap.size≠g):=Lib.hid (by have:=hI.blk.lt;omega);obtain⟨P,hP⟩: ∃q,w.heap.size=q:=⟨_,rfl⟩;rw[hP]at HKE HNE;have HPP:=Lib.hid hP;obtain⟨W1,hW1⟩: ∃V,w.alloc (.cells #[.int .i64 e.kind,.int .i64 e.side,.int .i64 e.t,.slice Ae e.r.length ce] 43)=V:=⟨_,rfl⟩;rw[hW1]at HI1 HT1 HB1 HKE;have y0:=HKE.out.cellR 0 rfl;have y1:=HKE.out.cellR 1 rfl;have y2:=HKE.out.cellR 2 rfl;have y3:=HKE.out.cellR 3 rfl;have HOM0: ∀q,(if e.side=2 then X.s.rm else X.s.lm)=q→q=X.s.jn.mark e.ev.side:=fun q h=>h.symm;obtain⟨om,hom⟩: ∃q,(if e.side=2 then X.s.rm else X.s.lm)=q:=⟨_,rfl⟩;have HOM:=Lib.hid hom;have HOM2:=Lib.hid (HOM0 om hom);have y30:=HI1.out.blk.cellR 30 rfl;rw[hom]at y30;obtain⟨E,hE⟩: ∃q,rowE p e.side e.r=q:=⟨_,rfl⟩;have HEE:Hid (rowE p e.ev.side e.ev.r=E):=Lib.hid hE;obtain⟨KY,hK⟩: ∃q,(keyOfR p e.side e.r).1=q:=⟨_,rfl⟩;obtain⟨Q,hQ⟩: ∃q,(keyOfR p e.side e.r).2=q:=⟨_,rfl⟩
 have HKQ:Hid (rowE p e.ev.side e.ev.r=0→(KY,Q)=keyFor p e.side e.r):=Lib.hid (fun h0=>by
  have:keyOfR p e.side e.r=keyFor p e.side e.r:=by unfold keyOfR rowR;rw[if_pos hz];exact if_pos h0
  rw[←this,←hK,←hQ])
 have HKO:Hid (∀V,Below W1.heap.size W1 V→Calls Tryz.prog 45 #[.agg #[.int .i64 p.kind,.int .i64 p.mode,.int .i64 p.low,.int .i64 p.high,.int .i64 p.size,.int .i64 p.limit,p.vl,p.vr,p.vk,p.vq,.bool p.grouped,p.vg,p.va],.int .i64 e.side,.slice Ae e.r.length ce] V fun r w'=>r= .returned (.tuple #[.string KY,.bool Q,.int .i64 E])∧Below V.heap.size V w'):=Lib.hid (fun V h=>by
  have h1:=keyOf_any p e.side e.v e.r V (hp.below (below_trans HB1.out h)) hf (he.row.below (below_trans HB1.out h)) hfe (hm.below (below_trans HB1.out h));rw[hK,hQ,show rowR p e.side e.r=E from(if_pos hz).trans hE,hve]at h1;exact h1)
 have hgb:=hG.buf e.side;have HGB:=Lib.hid hgb;have HMX:=Lib.hid hm
 have HAL:Hid (∀V,(X.s.buf e.side).ok V→Mx V→Calls Tryz.prog 27 #[.agg #[.int .i64 (X.s.buf e.side).limit,(X.s.buf e.side).vm,(X.s.buf e.side).vr]] V fun r w'=> ∃v l,r= .returned (.tuple #[v,.int .i64 0])∧OwnE w' V.heap.size v l∧ens l=sortE (X.s.buf e.side).bu.all∧Below V.heap.size V w'):=Lib.hid (fun V h hmv=>by
  have h1:=all_any (X.s.buf e.side) V h hgb.2 hmv;rw[check_zeroB.2 hgb.1,if_pos rfl]at h1;exact h1)
 have HFI:=Lib.hid (fits_any e.t W1);obtain⟨ft,hft⟩: ∃q,fitsB e.t=q:=⟨_,rfl⟩;rw[hft]at HFI;have HFT0:Hid (fitsB e.ev.t=ft):=Lib.hid hft;clear hI hW hG hp hf hz he hfe hm hB1 hve hom HOM0 hE hK hQ hgb hft hP;go_enter Tryz.func53,Tryz.ntmps53
 go_upto_region 2 with fail
 first|rw[hW1,HPP.out]|rw[hW1]|rw[HPP.out]|skip
 clear hW1 hc22 hc23 hc24 hc25;by_cases hk1:e.kind=1
 ·have HKD:Hid (e.ev.kind=1):=Lib.hid hk1
  have kb1:(e.kind != 1)=false:=by rw[hk1];rfl
  have kb2:(e.kind==2)=false:=by rw[hk1];rfl
  by_cases hsd:e.side=1∨e.side=2
  ·have HSD:Hid (e.ev.side=1∨e.ev.side=2):=Lib.hid hsd
   have HOS:Hid (ownS e.side=e.side):=Lib.hid (by unfold ownS;rcases hsd with h|h<;>rw[h]<;>rfl);have hsb:(e.side != 1)=false∨((e.side != 1)=true∧(e.side != 2)=false):=by rcases hsd with h|h<;>rw[h]<;>simp
   clear hsd hk1;rcases hsb with sb1|⟨sb1,sb2⟩
   all_goals
    cases ft
    ·have HFT:=HFT0
     go_wp2_with fail
     refine Calls.mono (by with_reducible exact HFI.out) ?_;rintro r x2 ⟨rfl,hw2⟩;subst hw2;go_wp2;go_ret;exact⟨by rw[ev_time (.inl HKD.out) HSD.out HFT.out];first|done|rfl,X.key,X.has,fun h0=>by rw[ev_time (.inl HKD.out) HSD.out HFT.out]at h0;exact absurd h0 (by decide),HI1.out,HT1.out⟩
    ·have HFT:=HFT0
     go_wp2_with fail
     refine Calls.mono (by with_reducible exact HFI.out) ?_;rintro r x2 ⟨rfl,hw2⟩;subst hw2
     go_upto_region 9 with fail
     go_quiet (fail)
     have hd0:Below W1.heap.size W1 (W1.drewN (nq+1)):=below_drewN (Below.refl _ W1) (nq+1)
     go_upto_region 14 with fail
     refine tr (S:=(fun w'=>w'.cell? ⟨g,0,none⟩=some (.int .i64 p.kind)∧w'.cell? ⟨g,1,none⟩=some (.int .i64 p.mode)∧w'.cell? ⟨g,2,none⟩=some (.int .i64 p.low)∧w'.cell? ⟨g,3,none⟩=some (.int .i64 p.high)∧w'.cell? ⟨g,4,none⟩=some (.int .i64 p.size)∧w'.cell? ⟨g,5,none⟩=some (.int .i64 p.limit)∧w'.cell? ⟨g,6,none⟩=some (p.vl)∧w'.cell? ⟨g,7,none⟩=some (p.vr)∧w'.cell? ⟨g,8,none⟩=some (p.vk)∧w'.cell? ⟨g,9,none⟩=some (p.vq)∧w'.cell? ⟨g,10,none⟩=some (.bool p.grouped)∧w'.cell? ⟨g,11,none⟩=some (p.vg)∧w'.cell? ⟨g,12,none⟩=some (p.va)∧w'.cell? ⟨P,1,none⟩=some (.int .i64 e.side)∧w'.cell? ⟨P,3,none⟩=some (.slice Ae e.r.length ce))) (And.intro ((HI1.out.below hd0).blk.cellR 0 rfl) (And.intro ((HI1.out.below hd0).blk.cellR 1 rfl) (And.intro ((HI1.out.below hd0).blk.cellR 2 rfl) (And.intro ((HI1.out.below hd0).blk.cellR 3 rfl) (And.intro ((HI1.out.below hd0).blk.cellR 4 rfl) (And.intro ((HI1.out.below hd0).blk.cellR 5 rfl) (And.intro ((HI1.out.below hd0).blk.cellR 6 rfl) (And.intro ((HI1.out.below hd0).blk.cellR 7 rfl) (And.intro ((HI1.out.below hd0).blk.cellR 8 rfl) (And.intro ((HI1.out.below hd0).blk.cellR 9 rfl) (And.intro ((HI1.out.below hd0).blk.cellR 10 rfl) (And.intro ((HI1.out.below hd0).blk.cellR 11 rfl) (And.intro ((HI1.out.below hd0).blk.cellR 12 rfl) (And.intro ((HKE.out.below hd0).cellR 1 rfl) ((HKE.out.below hd0).cellR 3 rfl))))))))))))))) (fun hHeld=> ?_);refine tk 0 ?_;refine tk 1 ?_;refine tk 2 ?_;refine tk 3 ?_;refine tk 4 ?_;refine tk 5 ?_;refine tk 6 ?_;refine tk 7 ?_;refine tk 8 ?_;refine tk 9 ?_;refine tc 10 ?_;intro K hK;go_simp;refine Calls.mono (by with_reducible exact HKO.out _ hd0) ?_;rintro r x4 ⟨rfl,hb4⟩;have hx4:=below_trans hd0 hb4;clear hb4
     go_wp2_with fail
     refine hK.out _ _ (And.intro ((HI1.out.below hx4).blk.cellR 0 rfl) (And.intro ((HI1.out.below hx4).blk.cellR 1 rfl) (And.intro ((HI1.out.below hx4).blk.cellR 2 rfl) (And.intro ((HI1.out.below hx4).blk.cellR 3 rfl) (And.intro ((HI1.out.below hx4).blk.cellR 4 rfl) (And.intro ((HI1.out.below hx4).blk.cellR 5 rfl) (And.intro ((HI1.out.below hx4).blk.cellR 6 rfl) (And.intro ((HI1.out.below hx4).blk.cellR 7 rfl) (And.intro ((HI1.out.below hx4).blk.cellR 8 rfl) (And.intro ((HI1.out.below hx4).blk.cellR 9 rfl) (And.intro ((HI1.out.below hx4).blk.cellR 10 rfl) (And.intro ((HI1.out.below hx4).blk.cellR 11 rfl) (And.intro ((HI1.out.below hx4).blk.cellR 12 rfl) (And.intro ((HKE.out.below hx4).cellR 1 rfl) ((HKE.out.below hx4).cellR 3 rfl))))))))))))))) (fun hHeld10=> ?_);clear hK K;refine tk 11 ?_;refine tk 12 ?_;refine tk 13 ?_;refine tk 14 ?_;refine tk 15 ?_;refine tk 16 ?_;refine tc 17 ?_;intro K hK;have q0:=(HI1.out.below hx4).blk.free 26;have r0:=(HI1.out.below hx4).blk.cellR 26 rfl;go_simp;clear q0 r0;refine hK.out _ _ (And.intro (((HI1.out.below hx4).blk.set_ 26 (.string KY)).cellR 0 rfl) (And.intro (((HI1.out.below hx4).blk.set_ 26 (.string KY)).cellR 1 rfl) (And.intro (((HI1.out.below hx4).blk.set_ 26 (.string KY)).cellR 2 rfl) (And.intro (((HI1.out.below hx4).blk.set_ 26 (.string KY)).cellR 3 rfl) (And.intro (((HI1.out.below hx4).blk.set_ 26 (.string KY)).cellR 4 rfl) (And.intro (((HI1.out.below hx4).blk.set_ 26 (.string KY)).cellR 5 rfl) (And.intro (((HI1.out.below hx4).blk.set_ 26 (.string KY)).cellR 6 rfl) (And.intro (((HI1.out.below hx4).blk.set_ 26 (.string KY)).cellR 7 rfl) (And.intro (((HI1.out.below hx4).blk.set_ 26 (.string KY)).cellR 8 rfl) (And.intro (((HI1.out.below hx4).blk.set_ 26 (.string KY)).cellR 9 rfl) (And.intro (((HI1.out.below hx4).blk.set_ 26 (.string KY)).cellR 10 rfl) (And.intro (((HI1.out.below hx4).blk.set_ 26 (.string KY)).cellR 11 rfl) (And.intro (((HI1.out.below hx4).blk.set_ 26 (.string KY)).cellR 12 rfl) (And.intro (((HKE.out.below hx4).far (p:=⟨g,26,none⟩) HNE.out (.string KY)).cellR 1 rfl) (((HKE.out.below hx4).far (p:=⟨g,26,none⟩) HNE.out (.string KY)).cellR 3 rfl))))))))))))))) (fun hHeld17=> ?_);clear hK K;refine tk 18 ?_;refine tk 19 ?_;refine tc 20 ?_;intro K hK;have q0:=(HI1.out.below hx4).blk.free 27;have r0:=(HI1.out.below hx4).blk.cellR 27 rfl;go_simp;clear q0 r0;refine hK.out _ _ (And.intro ((((HI1.out.below hx4).blk.set_ 26 (.string KY)).set_ 27 (.bool Q)).cellR 0 rfl) (And.intro ((((HI1.out.below hx4).blk.set_ 26 (.string KY)).set_ 27 (.bool Q)).cellR 1 rfl) (And.intro ((((HI1.out.below hx4).blk.set_ 26 (.string KY)).set_ 27 (.bool Q)).cellR 2 rfl) (And.intro ((((HI1.out.below hx4).blk.set_ 26 (.string KY)).set_ 27 (.bool Q)).cellR 3 rfl) (And.intro ((((HI1.out.below hx4).blk.set_ 26 (.string KY)).set_ 27 (.bool Q)).cellR 4 rfl) (And.intro ((((HI1.out.below hx4).blk.set_ 26 (.string KY)).set_ 27 (.bool Q)).cellR 5 rfl) (And.intro ((((HI1.out.below hx4).blk.set_ 26 (.string KY)).set_ 27 (.bool Q)).cellR 6 rfl) (And.intro ((((HI1.out.below hx4).blk.set_ 26 (.string KY)).set_ 27 (.bool Q)).cellR 7 rfl) (And.intro ((((HI1.out.below hx4).blk.set_ 26 (.string KY)).set_ 27 (.bool Q)).cellR 8 rfl) (And.intro ((((HI1.out.below hx4).blk.set_ 26 (.string KY)).set_ 27 (.bool Q)).cellR 9 rfl) (And.intro ((((HI1.out.below hx4).blk.set_ 26 (.string KY)).set_ 27 (.bool Q)).cellR 10 rfl) (And.intro ((((HI1.out.below hx4).blk.set_ 26 (.string KY)).set_ 27 (.bool Q)).cellR 11 rfl) (And.intro ((((HI1.out.below hx4).blk.set_ 26 (.string KY)).set_ 27 (.bool Q)).cellR 12 rfl) (And.intro ((((HKE.out.below hx4).far (p:=⟨g,26,none⟩) HNE.out (.string KY)).far (p:=⟨g,27,none⟩) HNE.out (.bool Q)).cellR 1 rfl) ((((HKE.out.below hx4).far (p:=⟨g,26,none⟩) HNE.out (.string KY)).far (p:=⟨g,27,none⟩) HNE.out (.bool Q)).cellR 3 rfl))))))))))))))) (fun hHeld20=> ?_);clear hK K;refine tk 21 ?_;refine td ?_
     all_goals
      first
       |(obtain⟨W3,hW3⟩: ∃V,((x4.setCell ⟨g,26,none⟩ (.string KY)).setCell ⟨g,27,none⟩ (.bool Q))=V:=⟨_,rfl⟩
         first|rw[hW3]|skip
         have HI3:Hid (WkI W3 g w0.heap.size p e X.s.lm X.s.rm ⟨X.s,KY,Q,X.vo,X.m,X.met⟩):=Lib.hid (by rw[←hW3];exact((HI1.out.below hx4).setKey KY Q).1);have HT3:Hid (Turned (fun k=>k=g) x4 W3):=Lib.hid (by rw[←hW3];exact(turned_set x4 ⟨g,26,none⟩ (.string KY)).trans (turned_set _ ⟨g,27,none⟩ (.bool Q)));have HE3:Hid (Blk W3 P 43 #[.int .i64 e.kind,.int .i64 e.side,.int .i64 e.t,.slice Ae e.r.length ce]):=Lib.hid (by rw[←hW3];exact(((HKE.out.below hx4).far (p:=⟨g,26,none⟩) HNE.out (.string KY)).far (p:=⟨g,27,none⟩) HNE.out (.bool Q)));clear hW3)
       |(obtain⟨W3,hW3⟩: ∃V,((x4.setCell ⟨g,27,none⟩ (.bool Q)).setCell ⟨g,26,none⟩ (.string KY))=V:=⟨_,rfl⟩
         first|rw[hW3]|skip
         have HI3:Hid (WkI W3 g w0.heap.size p e X.s.lm X.s.rm ⟨X.s,KY,Q,X.vo,X.m,X.met⟩):=Lib.hid (by rw[←hW3];exact((HI1.out.below hx4).setKey KY Q).2);have HT3:Hid (Turned (fun k=>k=g) x4 W3):=Lib.hid (by rw[←hW3];exact(turned_set x4 ⟨g,27,none⟩ (.bool Q)).trans (turned_set _ ⟨g,26,none⟩ (.string KY)));have HE3:Hid (Blk W3 P 43 #[.int .i64 e.kind,.int .i64 e.side,.int .i64 e.t,.slice Ae e.r.length ce]):=Lib.hid (by rw[←hW3];exact(((HKE.out.below hx4).far (p:=⟨g,27,none⟩) HNE.out (.bool Q)).far (p:=⟨g,26,none⟩) HNE.out (.string KY)));clear hW3)
      have HT13:Hid (Turned (fun k=>k=g) w W3):=Lib.hid (HT1.out.trans ((turned_below hx4).trans HT3.out));have HB3:Hid (Below w0.heap.size w0 W3):=Lib.hid (below_turned HB1.out ((turned_below hx4).trans HT3.out) HGF.out);have e2:=HE3.out.cellR 2 rfl;have g30:=HI3.out.blk.cellR 30 rfl;rw[HOM.out]at g30;by_cases hE0:E=0
      ·have hEb:(E != 0)=false:=by rw[hE0];rfl
       have HRE:Hid (rowE p e.ev.side e.ev.r=0):=Lib.hid (HEE.out.trans hE0);by_cases hlate:e.t≤om
       ·have hlb:decide (e.t≤om)=true:=decide_eq_true hlate
        go_upto_region 17 with fail
        go_quiet (fail)
        go_wp2;go_ret;exact⟨by rw[ev_late HKD.out HSD.out HFT.out HRE.out (HOM2.out▸hlate)];first|done|rfl,KY,Q,fun h0=>by rw[ev_late HKD.out HSD.out HFT.out HRE.out (HOM2.out▸hlate)]at h0;exact absurd h0 (by decide),HI3.out.drewN nq,turned_drewN HT13.out nq⟩
       ·have hlb:decide (e.t≤om)=false:=decide_eq_false hlate
        have HLTN:Hid (¬e.t≤om):=Lib.hid hlate;clear hlate
        go_upto_region 17 with fail
        go_quiet (fail)
        have hB3:Below W3.heap.size W3 (W3.drewN nq):=below_drewN (Below.refl _ W3) nq;obtain⟨b0,b1,b2⟩:=HI3.out.bufCells (F:=e.side) HSD.out;have g29:=HI3.out.blk.cellR 29 rfl;rw[HOS.out,bufA_is]at g29;have g21:=HI3.out.blk.cellR 21 rfl;have HAL2:=Lib.hid (HAL.out (W3.drewN nq) ((HI3.out.drewN nq).buf e.side).1.ok (HMX.out.below (below_drewN HB3.out nq)))
        go_wp2_with fail
        refine Calls.mono (by with_reducible exact HAL2.out) ?_;rintro r x6 ⟨v,l,rfl,hOE,hens,hb6⟩;obtain⟨Av,nv,cv,hv,hnl⟩:=own_sliceN hOE.own;subst hv;have HX6:=Lib.hid (below_trans hB3 hb6);have HLN:Hid (l.length=(X.s.jn.buf e.side).all.length):=Lib.hid (by rw[←Jv.buf_bu,←ens_len l,hens];exact(sortE_perm HGB.out.1.alone).length_eq);have hn1:l.length≤4096:=by rw[HLN.out,←Jv.buf_bu];exact HGB.out.1.few
        have g21b:=(HI3.out.below HX6.out).blk.cellR 21 rfl;subst hnl;clear hOE hens hb6 b0 b1 b2 g29 g21;by_cases hmax:X.s.seq=1099511627776
        ·have hmb:(X.s.seq==1099511627776)=true:=by rw[hmax];rfl
         go_wp2;go_ret;exact⟨by rw[ev_many HKD.out HSD.out HFT.out HRE.out (by show ¬e.t≤X.s.jn.mark e.ev.side;rw[←HOM2.out];have h:=HLTN.out;omega) (.inl hmax)];first|done|rfl,KY,Q,fun h0=>by rw[ev_many HKD.out HSD.out HFT.out HRE.out (by show ¬e.t≤X.s.jn.mark e.ev.side;rw[←HOM2.out];have h:=HLTN.out;omega) (.inl hmax)]at h0;exact absurd h0 (by decide),HI3.out.below HX6.out,HT13.out.trans (turned_below HX6.out)⟩
        ·have hmb:(X.s.seq==1099511627776)=false:=by simpa using hmax
         by_cases hfull:l.length=4096
         ·have hfb:((l.length:Int)==4096)=true:=by rw[hfull];rfl
          have HFUL:Hid (4096≤(X.s.jn.buf e.ev.side).all.length):=Lib.hid (by show 4096≤(X.s.jn.buf e.side).all.length;rw[←HLN.out];omega);go_wp2;go_ret;exact⟨by rw[ev_many HKD.out HSD.out HFT.out HRE.out (by show ¬e.t≤X.s.jn.mark e.ev.side;rw[←HOM2.out];have h:=HLTN.out;omega) (.inr HFUL.out)];first|done|rfl,KY,Q,fun h0=>by rw[ev_many HKD.out HSD.out HFT.out HRE.out (by show ¬e.t≤X.s.jn.mark e.ev.side;rw[←HOM2.out];have h:=HLTN.out;omega) (.inr HFUL.out)]at h0;exact absurd h0 (by decide),HI3.out.below HX6.out,HT13.out.trans (turned_below HX6.out)⟩
         ·have hfb:((l.length:Int)==4096)=false:=by simp;omega
          have HFIN:Hid (¬(X.s.jn.seq=1099511627776∨4096≤(X.s.jn.buf e.ev.side).all.length)):=Lib.hid (by
           rintro(h|h)
           ·exact hmax h
           ·have h2:4096≤l.length:=by rw[HLN.out];exact h
            omega)
          go_wp2;go_ret;exact⟨by rw[ev_fine HKD.out HSD.out HFT.out HRE.out (by show ¬e.t≤X.s.jn.mark e.ev.side;rw[←HOM2.out];have h:=HLTN.out;omega) HFIN.out];first|done|rfl,KY,Q,fun _ _=>HKQ.out HRE.out,HI3.out.below HX6.out,HT13.out.trans (turned_below HX6.out)⟩
      ·have hEb:(E != 0)=true:=by simpa using hE0
       have HRE:Hid (¬rowE p e.ev.side e.ev.r=0):=Lib.hid (by rw[show rowE p e.ev.side e.ev.r=E from HEE.out];exact hE0);go_wp2;go_ret;exact⟨by rw[ev_row HKD.out HSD.out HFT.out HRE.out,show rowE p e.ev.side e.ev.r=E from HEE.out];first|done|rfl,KY,Q,fun h0=>by rw[ev_row HKD.out HSD.out HFT.out HRE.out]at h0;exact absurd h0 HRE.out,HI3.out,HT13.out⟩
  ·have h4:eventE p X.s.jn e.ev=4:=ev_kind (.inr hsd)
   have sb1:(e.side != 1)=true:=by simp;omega
   have sb2:(e.side != 2)=true:=by simp;omega
   clear hsd;go_wp2;go_ret;exact⟨by rw[h4];first|done|rfl,X.key,X.has,fun h0=>by rw[h4]at h0;exact absurd h0 (by decide),HI1.out,HT1.out⟩
 ·by_cases hk2:e.kind=2
  ·have HKD:Hid (e.ev.kind=2):=Lib.hid hk2
   have kb1:(e.kind != 1)=true:=by rw[hk2];rfl
   have kb3:(e.kind != 2)=false:=by rw[hk2];rfl
   have kb2:(e.kind==2)=true:=by rw[hk2];rfl
   by_cases hsd:e.side=1∨e.side=2
   ·have HSD:Hid (e.ev.side=1∨e.ev.side=2):=Lib.hid hsd
    have hsb:(e.side != 1)=false∨((e.side != 1)=true∧(e.side != 2)=false):=by rcases hsd with h|h<;>rw[h]<;>simp
    clear hsd hk1 hk2;rcases hsb with sb1|⟨sb1,sb2⟩
    all_goals
     cases ft
     ·have HFT:=HFT0
      go_wp2_with fail
      refine Calls.mono (by with_reducible exact HFI.out) ?_;rintro r x2 ⟨rfl,hw2⟩;subst hw2;go_wp2;go_ret;exact⟨by rw[ev_time (.inr HKD.out) HSD.out HFT.out];first|done|rfl,X.key,X.has,fun h0=>by rw[ev_time (.inr HKD.out) HSD.out HFT.out]at h0;exact absurd h0 (by decide),HI1.out,HT1.out⟩
     ·have HFT:=HFT0
      go_wp2_with fail
      refine Calls.mono (by with_reducible exact HFI.out) ?_;rintro r x2 ⟨rfl,hw2⟩;subst hw2;by_cases hne:e.r=[]
      ·have HNIL:Hid (e.ev.r=[]):=Lib.hid hne
       have hln0:e.r.length=0:=by rw[hne];rfl
       have hln:(decide ((e.r.length:Int)>0))=false:=by rw[hne];rfl
       have hln2:(decide ((0:Int)<(e.r.length:Int)))=false:=by rw[hne];rfl
       by_cases hback:e.t<om
       ·have hlb:decide (e.t<om)=true:=decide_eq_true hback
        go_upto_region 9 with fail
        go_quiet (fail)
        go_wp2;go_ret;exact⟨by rw[ev_back HKD.out HSD.out HFT.out HNIL.out (HOM2.out▸hback)];first|done|rfl,X.key,X.has,fun _ hk=>absurd (hk.symm.trans HKD.out) (by decide),HI1.out.drewN nq,turned_drewN HT1.out nq⟩
       ·have hlb:decide (e.t<om)=false:=decide_eq_false hback
        have HBACK:Hid (¬e.t<om):=Lib.hid hback;clear hback
        go_upto_region 9 with fail
        go_quiet (fail)
        go_wp2;go_ret;exact⟨by rw[ev_mark HKD.out HSD.out HFT.out HNIL.out (by show ¬e.t<X.s.jn.mark e.ev.side;rw[←HOM2.out];have h:=HBACK.out;omega)];first|done|rfl,X.key,X.has,fun _ hk=>absurd (hk.symm.trans HKD.out) (by decide),HI1.out.drewN nq,turned_drewN HT1.out nq⟩
      ·have HNIL:Hid (¬e.ev.r=[]):=Lib.hid hne
       have hl0:0<e.r.length:=List.length_pos_iff.2 hne;have hln:(decide ((e.r.length:Int)>0))=true:=decide_eq_true (by omega);have hln2:(decide ((0:Int)<(e.r.length:Int)))=true:=decide_eq_true (by omega);go_wp2;go_ret;exact⟨by rw[ev_form HKD.out HSD.out HFT.out HNIL.out];first|done|rfl,X.key,X.has,fun _ hk=>absurd (hk.symm.trans HKD.out) (by decide),HI1.out,HT1.out⟩
   ·have h4:eventE p X.s.jn e.ev=4:=ev_kind (.inr hsd)
    have sb1:(e.side != 1)=true:=by simp;omega
    have sb2:(e.side != 2)=true:=by simp;omega
    clear hsd;go_wp2;go_ret;exact⟨by rw[h4];first|done|rfl,X.key,X.has,fun h0=>by rw[h4]at h0;exact absurd h0 (by decide),HI1.out,HT1.out⟩
  ·have h4:eventE p X.s.jn e.ev=4:=ev_kind (.inl (by intro h;rcases h with h|h;exact hk1 h;exact hk2 h))
   have kb1:(e.kind != 1)=true:=by simpa using hk1
   have kb3:(e.kind != 2)=true:=by simpa using hk2
   go_wp2;go_ret;exact⟨by rw[h4];first|done|rfl,X.key,X.has,fun h0=>by rw[h4]at h0;exact absurd h0 (by decide),HI1.out,HT1.out⟩
end Go.Proofs.YtjodlngbiikgfaaGreatDoor
namespace Go.Proofs.YtjodlngbiikgfaaGreatDoor
end Go.Proofs.YtjodlngbiikgfaaGreatDoor
namespace Go.Proofs.YtjodlngbiikgfaaGreatDoor
open Go.RowKit Go.Maps
def jA (s:Jv):Array Value:= #[.int .i64 s.l.limit,s.l.vm,s.l.vr,.int .i64 s.r.limit,s.r.vm,s.r.vr,.int .i64 s.lm,.int .i64 s.rm,.int .i64 s.seq]
def jZ:Array Value:= #[.int .i64 0,.slice none 0 0,.slice none 0 0,.int .i64 0,.slice none 0 0,.slice none 0 0,.int .i64 0,.int .i64 0,.int .i64 0]
theorem drop_none {b:Bu}(h:GoodB b):dropB b (-1099511627777)=b:=by
 have h2:dropB b (-1099511627777)=siftB b (keepF fun e=>decide ((-1099511627777:Int)<e.t)):=by
  unfold dropB
  congr 1
  funext e
  unfold keepF;by_cases hc:(-1099511627777:Int)<e.t<;>simp[hc]
 rw[h2,sift_same (m:=fun _=>true) (fun e he=>by have:=okE_time (h.ok e he);exact decide_eq_true (by omega)),sift_none h.full]
structure Frs (w:World) (s:Jv) (wr:World) (l r:Buf):Prop where
 j:Blk wr w.heap.size 31 (jA ⟨l,r,s.lm,s.rm,s.seq⟩)
 z:Blk wr (w.heap.size+1) 31 jZ
 p:Blk wr (w.heap.size+1+1) 99 #[.pointer (some ⟨w.heap.size,0,none⟩),.pointer (some ⟨w.heap.size,3,none⟩)]
 b:Below w.heap.size w wr
 n:w.heap.size+3≤wr.heap.size
theorem Frs.below {w wr w':World}{s:Jv}{l r:Buf}(h:Frs w s wr l r)(hb:Below wr.heap.size wr w'):Frs w s w' l r:=⟨h.j.below hb,h.z.below hb,h.p.below hb,below_trans h.b hb,Nat.le_trans h.n hb.size⟩
theorem Frs.put0 {w wr:World}{s:Jv}{l r:Buf}(h:Frs w s wr l r)(u0 u1 u2:Value){b:Buf}(e0:u0= .int .i64 b.limit)(e1:u1=b.vm)(e2:u2=b.vr):Frs w s (((wr.setCell ⟨w.heap.size,0,none⟩ u0).setCell ⟨w.heap.size,1,none⟩ u1).setCell ⟨w.heap.size,2,none⟩ u2) b r:=by
 subst e0 e1 e2;refine⟨((h.j.set_ 0 _).set_ 1 _).set_ 2 _,?_,?_,?_,?_⟩
 ·exact((h.z.far (p:=⟨w.heap.size,0,none⟩) (by show w.heap.size+1≠w.heap.size;omega) _).far (p:=⟨w.heap.size,1,none⟩) (by show w.heap.size+1≠w.heap.size;omega) _).far (p:=⟨w.heap.size,2,none⟩) (by show w.heap.size+1≠w.heap.size;omega) _
 ·exact((h.p.far (p:=⟨w.heap.size,0,none⟩) (by show w.heap.size+1+1≠w.heap.size;omega) _).far (p:=⟨w.heap.size,1,none⟩) (by show w.heap.size+1+1≠w.heap.size;omega) _).far (p:=⟨w.heap.size,2,none⟩) (by show w.heap.size+1+1≠w.heap.size;omega) _
 ·exact((h.b.setCell (p:=⟨w.heap.size,0,none⟩) (Nat.le_refl _) _).setCell (p:=⟨w.heap.size,1,none⟩) (Nat.le_refl _) _).setCell (p:=⟨w.heap.size,2,none⟩) (Nat.le_refl _) _
 ·rw[World.size_setCell,World.size_setCell,World.size_setCell];exact h.n
theorem Frs.put1 {w wr:World}{s:Jv}{l r:Buf}(h:Frs w s wr l r)(u0 u1 u2:Value){b:Buf}(e0:u0= .int .i64 b.limit)(e1:u1=b.vm)(e2:u2=b.vr):Frs w s (((wr.setCell ⟨w.heap.size,3,none⟩ u0).setCell ⟨w.heap.size,4,none⟩ u1).setCell ⟨w.heap.size,5,none⟩ u2) l b:=by
 subst e0 e1 e2;refine⟨((h.j.set_ 3 _).set_ 4 _).set_ 5 _,?_,?_,?_,?_⟩
 ·exact((h.z.far (p:=⟨w.heap.size,3,none⟩) (by show w.heap.size+1≠w.heap.size;omega) _).far (p:=⟨w.heap.size,4,none⟩) (by show w.heap.size+1≠w.heap.size;omega) _).far (p:=⟨w.heap.size,5,none⟩) (by show w.heap.size+1≠w.heap.size;omega) _
 ·exact((h.p.far (p:=⟨w.heap.size,3,none⟩) (by show w.heap.size+1+1≠w.heap.size;omega) _).far (p:=⟨w.heap.size,4,none⟩) (by show w.heap.size+1+1≠w.heap.size;omega) _).far (p:=⟨w.heap.size,5,none⟩) (by show w.heap.size+1+1≠w.heap.size;omega) _
 ·exact((h.b.setCell (p:=⟨w.heap.size,3,none⟩) (Nat.le_refl _) _).setCell (p:=⟨w.heap.size,4,none⟩) (Nat.le_refl _) _).setCell (p:=⟨w.heap.size,5,none⟩) (Nat.le_refl _) _
 ·rw[World.size_setCell,World.size_setCell,World.size_setCell];exact h.n
theorem Frs.start (w:World)(s:Jv):Frs w s (((w.alloc (.cells (jA s) 31)).alloc (.cells jZ 31)).alloc (.cells #[.pointer (some ⟨w.heap.size,0,none⟩),.pointer (some ⟨w.heap.size,3,none⟩)] 99)) s.l s.r:=by
 refine⟨((Blk.new w 31 (jA s)).alloc _).alloc _,?_,?_,(((below_alloc w _).alloc (by rw[World.size_alloc];omega) _).alloc (by rw[World.size_alloc,World.size_alloc];omega) _),by rw[World.size_alloc,World.size_alloc,World.size_alloc];omega⟩
 ·have h:=(Blk.new (w.alloc (.cells (jA s) 31)) 31 jZ).alloc (.cells #[.pointer (some ⟨w.heap.size,0,none⟩),.pointer (some ⟨w.heap.size,3,none⟩)] 99)
  rwa[World.size_alloc]at h
 ·have h:=Blk.new ((w.alloc (.cells (jA s) 31)).alloc (.cells jZ 31)) 99 #[.pointer (some ⟨w.heap.size,0,none⟩),.pointer (some ⟨w.heap.size,3,none⟩)]
  rwa[World.size_alloc,World.size_alloc]at h
theorem Blk.set9 {w:World}{g:Nat}{t:TypeId}{a0 a1 a2 a3 a4 a5 a6 a7 a8:Value}(h:Blk w g t #[a0,a1,a2,a3,a4,a5,a6,a7,a8])(u0 u1 u2 u3 u4 u5 u6 u7 u8:Value):Blk (((((((((w.setCell ⟨g,0,none⟩ u0).setCell ⟨g,1,none⟩ u1).setCell ⟨g,2,none⟩ u2).setCell ⟨g,3,none⟩ u3).setCell ⟨g,4,none⟩ u4).setCell ⟨g,5,none⟩ u5).setCell ⟨g,6,none⟩ u6).setCell ⟨g,7,none⟩ u7).setCell ⟨g,8,none⟩ u8) g t #[u0,u1,u2,u3,u4,u5,u6,u7,u8]:=by
 have h9:=((((((((h.set_ 0 u0).set_ 1 u1).set_ 2 u2).set_ 3 u3).set_ 4 u4).set_ 5 u5).set_ 6 u6).set_ 7 u7).set_ 8 u8;simpa only[List.setIfInBounds_toArray,List.set_cons_zero,List.set_cons_succ]using h9
theorem turned_set9 (w:World)(g:Nat)(u0 u1 u2 u3 u4 u5 u6 u7 u8:Value):Turned (fun k=>k=g) w (((((((((w.setCell ⟨g,0,none⟩ u0).setCell ⟨g,1,none⟩ u1).setCell ⟨g,2,none⟩ u2).setCell ⟨g,3,none⟩ u3).setCell ⟨g,4,none⟩ u4).setCell ⟨g,5,none⟩ u5).setCell ⟨g,6,none⟩ u6).setCell ⟨g,7,none⟩ u7).setCell ⟨g,8,none⟩ u8):=
 ((((((((turned_set w ⟨g,0,none⟩ u0).trans (turned_set _ ⟨g,1,none⟩ u1)).trans (turned_set _ ⟨g,2,none⟩ u2)).trans (turned_set _ ⟨g,3,none⟩ u3)).trans (turned_set _ ⟨g,4,none⟩ u4)).trans (turned_set _ ⟨g,5,none⟩ u5)).trans (turned_set _ ⟨g,6,none⟩ u6)).trans (turned_set _ ⟨g,7,none⟩ u7)).trans (turned_set _ ⟨g,8,none⟩ u8)
theorem own_farB {w:World}{base g:Nat}{b:Buf}(h:OwnBuf w base b)(hg:g<base):b.off g:=
 ⟨fun j hj=>by have:=(h.mem.range hj).1;omega,fun j hj=>by have:=own_ge h.sl j hj;omega,fun q hq j hj=>by have:=((h.runs q hq).range hj).1;omega⟩
set_option maxHeartbeats 8000000 in
set_option maxRecDepth 10000 in
theorem fresh_any (s:Jv)(w:World)(hs:s.ok w)(hg:WkG s)(hm:Mx w):
 Calls Tryz.prog 51 #[s.agg] w fun r w'=> ∃s':Jv,r= .returned s'.agg∧s'.jn=s.jn∧OwnJ w' w.heap.size s'∧Below w.heap.size w w':=by
 obtain⟨A1,c1,hv1,-⟩:=id hs.l.mem.sl;obtain⟨A2,c2,hv2,-⟩:=id hs.l.sl;obtain⟨A3,c3,hv3,-⟩:=id hs.r.mem.sl;obtain⟨A4,c4,hv4,-⟩:=id hs.r.sl;have HSO:=Lib.hid hs;have HG:=Lib.hid hg;have HMX:=Lib.hid hm;have HF0:=Lib.hid (Frs.start w s);have HE:=Lib.hid (show s.agg= .agg #[.int .i64 s.l.limit,s.l.vm,s.l.vr,.int .i64 s.r.limit,s.r.vm,s.r.vr,.int .i64 s.lm,.int .i64 s.rm,.int .i64 s.seq]from rfl);rw[show s.agg= .agg #[.int .i64 s.l.limit,s.l.vm,s.l.vr,.int .i64 s.r.limit,s.r.vm,s.r.vr,.int .i64 s.lm,.int .i64 s.rm,.int .i64 s.seq]from rfl];have HF1:=HF0;unfold jA jZ at HF0;clear HF1 hs hg hm hv1 hv2 hv3 hv4;go_enter Tryz.func51,Tryz.ntmps51
 go_wp2_with fail
 go_upto_region 2 with fail
 go_loopw[4,9] (fun _ iv wr=> ∃(k:Nat) (l r:Buf),iv= .int .i64 k∧k≤2∧Hid (Frs w s wr l r)∧Hid (k=0→l=s.l)∧Hid (k≤1→r=s.r)∧Hid (1≤k→OwnBuf wr (w.heap.size+3) l∧l.bu=s.l.bu)∧Hid (2≤k→OwnBuf wr (w.heap.size+3) r∧r.bu=s.r.bu)) (fun _ iv _=>2-(intOf iv).toNat)
 case atStart=>exact⟨0,s.l,s.r,rfl,by omega,HF0,Lib.hid fun _=>rfl,Lib.hid fun _=>rfl,Lib.hid fun h=>absurd h (by decide),Lib.hid fun h=>absurd h (by decide)⟩
 case round=>
  rename World=>wr
  obtain⟨k,l,r,rfl,hk,HF,H0,H1,H2,H3⟩:=hrel;clear HF0;have hkc:k=0∨k=1∨k=2:=by omega
  rcases hkc with rfl|rfl|rfl
  ·obtain rfl:l=s.l:=H0.out rfl
   obtain rfl:r=s.r:=H1.out (by decide);clear H0 H1 H2 H3
   have HDR:Hid (∀V,Below w.heap.size w V→Calls Tryz.prog 94 #[.agg #[.int .i64 s.l.limit,s.l.vm,s.l.vr],.int .i64 (-1099511627777)] V fun r w'=> ∃b':Buf,r= .returned (.tuple #[.agg #[.int .i64 b'.limit,b'.vm,b'.vr],.int .i64 0])∧OwnBuf w' V.heap.size b'∧b'.bu=s.l.bu∧Below V.heap.size V w'):=Lib.hid (fun V h=>by
    have h1:=drop_any s.l (-1099511627777) V (HSO.out.l.below h) (goodFitJ HG.out.l HG.out.fl) (HMX.out.below h);rw[check_zeroB.2 HG.out.l,if_pos rfl,drop_none HG.out.l]at h1;exact h1)
   have z0:=HF.out.j.cellR 0 rfl;have z1:=HF.out.j.cellR 1 rfl;have z2:=HF.out.j.cellR 2 rfl;have zs:=HF.out.p.cellR 0 rfl
   go_wp2_with fail
   refine Calls.mono (by with_reducible exact HDR.out _ HF.out.b) ?_;rintro r x5 ⟨⟨lim,vm,mem,vr,runs⟩,rfl,hOB,hbu,hb5⟩;obtain⟨Am,nm,cm,hvm⟩:=own_slice hOB.mem.own;obtain⟨Ar,nr,cr,hvr⟩:=own_slice hOB.sl;simp only at hvm hvr;subst hvm hvr;have HF5:=Lib.hid (HF.out.below hb5);have hOBL:=hOB.low (base':=w.heap.size+3) HF.out.n;have q0:=HF5.out.j.free 0;have q1:=HF5.out.j.free 1;have q2:=HF5.out.j.free 2;have r0:=HF5.out.j.cellR 0 rfl;have r1:=HF5.out.j.cellR 1 rfl;have r2:=HF5.out.j.cellR 2 rfl;have HF9:=Lib.hid (HF5.out.put0 (.int .i64 lim) (.slice Am nm cm) (.slice Ar nr cr) (b:=⟨lim,.slice Am nm cm,mem,.slice Ar nr cr,runs⟩) rfl rfl rfl);have HO9:Hid (OwnBuf (((x5.setCell ⟨w.heap.size,0,none⟩ (.int .i64 lim)).setCell ⟨w.heap.size,1,none⟩ (.slice Am nm cm)).setCell ⟨w.heap.size,2,none⟩ (.slice Ar nr cr)) (w.heap.size+3) ⟨lim,.slice Am nm cm,mem,.slice Ar nr cr,runs⟩):=Lib.hid (((hOBL.setFar (p:=⟨w.heap.size,0,none⟩) (by show w.heap.size<_;omega) _).setFar (p:=⟨w.heap.size,1,none⟩) (by show w.heap.size<_;omega) _).setFar (p:=⟨w.heap.size,2,none⟩) (by show w.heap.size<_;omega) _);have HU9:=Lib.hid hbu;clear z0 z1 z2 zs hOB hOBL hb5 hbu HDR;go_wp2;go_roundw
   case rel=>
    first
     |exact⟨1,⟨lim,.slice Am nm cm,mem,.slice Ar nr cr,runs⟩,s.r,rfl,by omega,HF9,(Lib.hid fun h=>absurd h (by decide)),(Lib.hid fun _=>rfl),(Lib.hid fun _=>⟨HO9.out,HU9.out⟩),(Lib.hid fun h=>absurd h (by decide))⟩
     |((repeat apply Exists.intro);exact⟨⟨1,⟨lim,.slice Am nm cm,mem,.slice Ar nr cr,runs⟩,s.r,rfl,by omega,HF9,(Lib.hid fun h=>absurd h (by decide)),(Lib.hid fun _=>rfl),(Lib.hid fun _=>⟨HO9.out,HU9.out⟩),(Lib.hid fun h=>absurd h (by decide))⟩,rfl⟩)
   case measure=>simp[intOf]
  ·obtain rfl:r=s.r:=H1.out (by decide)
   have HL:=Lib.hid (H2.out (by decide)).1;have HLB:=Lib.hid (H2.out (by decide)).2;clear H0 H1 H2 H3
   have HDR:Hid (∀V,Below w.heap.size w V→Calls Tryz.prog 94 #[.agg #[.int .i64 s.r.limit,s.r.vm,s.r.vr],.int .i64 (-1099511627777)] V fun r w'=> ∃b':Buf,r= .returned (.tuple #[.agg #[.int .i64 b'.limit,b'.vm,b'.vr],.int .i64 0])∧OwnBuf w' V.heap.size b'∧b'.bu=s.r.bu∧Below V.heap.size V w'):=Lib.hid (fun V h=>by
    have h1:=drop_any s.r (-1099511627777) V (HSO.out.r.below h) (goodFitJ HG.out.r HG.out.fr) (HMX.out.below h);rw[check_zeroB.2 HG.out.r,if_pos rfl,drop_none HG.out.r]at h1;exact h1)
   have z0:=HF.out.j.cellR 3 rfl;have z1:=HF.out.j.cellR 4 rfl;have z2:=HF.out.j.cellR 5 rfl;have zs:=HF.out.p.cellR 1 rfl
   go_wp2_with fail
   refine Calls.mono (by with_reducible exact HDR.out _ HF.out.b) ?_;rintro r x5 ⟨⟨lim,vm,mem,vr,runs⟩,rfl,hOB,hbu,hb5⟩;obtain⟨Am,nm,cm,hvm⟩:=own_slice hOB.mem.own;obtain⟨Ar,nr,cr,hvr⟩:=own_slice hOB.sl;simp only at hvm hvr;subst hvm hvr;have HF5:=Lib.hid (HF.out.below hb5);have hOBL:=hOB.low (base':=w.heap.size+3) HF.out.n;have q0:=HF5.out.j.free 3;have q1:=HF5.out.j.free 4;have q2:=HF5.out.j.free 5;have r0:=HF5.out.j.cellR 3 rfl;have r1:=HF5.out.j.cellR 4 rfl;have r2:=HF5.out.j.cellR 5 rfl;have HF9:=Lib.hid (HF5.out.put1 (.int .i64 lim) (.slice Am nm cm) (.slice Ar nr cr) (b:=⟨lim,.slice Am nm cm,mem,.slice Ar nr cr,runs⟩) rfl rfl rfl);have HO9:Hid (OwnBuf (((x5.setCell ⟨w.heap.size,3,none⟩ (.int .i64 lim)).setCell ⟨w.heap.size,4,none⟩ (.slice Am nm cm)).setCell ⟨w.heap.size,5,none⟩ (.slice Ar nr cr)) (w.heap.size+3) ⟨lim,.slice Am nm cm,mem,.slice Ar nr cr,runs⟩):=Lib.hid (((hOBL.setFar (p:=⟨w.heap.size,3,none⟩) (by show w.heap.size<_;omega) _).setFar (p:=⟨w.heap.size,4,none⟩) (by show w.heap.size<_;omega) _).setFar (p:=⟨w.heap.size,5,none⟩) (by show w.heap.size<_;omega) _);have HL9:Hid (OwnBuf (((x5.setCell ⟨w.heap.size,3,none⟩ (.int .i64 lim)).setCell ⟨w.heap.size,4,none⟩ (.slice Am nm cm)).setCell ⟨w.heap.size,5,none⟩ (.slice Ar nr cr)) (w.heap.size+3) l):=Lib.hid ((((HL.out.below hb5).setFar (p:=⟨w.heap.size,3,none⟩) (by show w.heap.size<_;omega) _).setFar (p:=⟨w.heap.size,4,none⟩) (by show w.heap.size<_;omega) _).setFar (p:=⟨w.heap.size,5,none⟩) (by show w.heap.size<_;omega) _);have HU9:=Lib.hid hbu;clear z0 z1 z2 zs hOB hOBL hb5 hbu HDR;go_wp2;go_roundw
   case rel=>
    first
     |exact⟨2,l,⟨lim,.slice Am nm cm,mem,.slice Ar nr cr,runs⟩,rfl,by omega,HF9,(Lib.hid fun h=>absurd h (by decide)),(Lib.hid fun h=>absurd h (by decide)),(Lib.hid fun _=>⟨HL9.out,HLB.out⟩),(Lib.hid fun _=>⟨HO9.out,HU9.out⟩)⟩
     |((repeat apply Exists.intro);exact⟨⟨2,l,⟨lim,.slice Am nm cm,mem,.slice Ar nr cr,runs⟩,rfl,by omega,HF9,(Lib.hid fun h=>absurd h (by decide)),(Lib.hid fun h=>absurd h (by decide)),(Lib.hid fun _=>⟨HL9.out,HLB.out⟩),(Lib.hid fun _=>⟨HO9.out,HU9.out⟩)⟩,rfl⟩)
   case measure=>simp[intOf]
  ·have HL:=Lib.hid (H2.out (by decide)).1
   have HLB:=Lib.hid (H2.out (by decide)).2;have HR:=Lib.hid (H3.out (by decide)).1;have HRB:=Lib.hid (H3.out (by decide)).2;clear H0 H1 H2 H3;obtain⟨A5,n5,c5,hv5⟩:=own_slice HL.out.mem.own;obtain⟨A6,n6,c6,hv6⟩:=own_slice HL.out.sl;obtain⟨A7,n7,c7,hv7⟩:=own_slice HR.out.mem.own;obtain⟨A8,n8,c8,hv8⟩:=own_slice HR.out.sl;have HZZ:=Lib.hid HF.out.z;unfold jZ at HZZ;have hj:=HF.out.j;unfold jA at hj;simp only[hv5,hv6,hv7,hv8]at hj;have c0:=hj.cellR 0 rfl;have d0:=HZZ.out.cellR 0 rfl;have q0:=HZZ.out.free 0;have c1:=hj.cellR 1 rfl;have d1:=HZZ.out.cellR 1 rfl;have q1:=HZZ.out.free 1;have c2:=hj.cellR 2 rfl;have d2:=HZZ.out.cellR 2 rfl;have q2:=HZZ.out.free 2;have c3:=hj.cellR 3 rfl;have d3:=HZZ.out.cellR 3 rfl;have q3:=HZZ.out.free 3;have c4:=hj.cellR 4 rfl;have d4:=HZZ.out.cellR 4 rfl;have q4:=HZZ.out.free 4;have cc5:=hj.cellR 5 rfl;have d5:=HZZ.out.cellR 5 rfl;have q5:=HZZ.out.free 5;have cc6:=hj.cellR 6 rfl;have d6:=HZZ.out.cellR 6 rfl;have q6:=HZZ.out.free 6;have cc7:=hj.cellR 7 rfl;have d7:=HZZ.out.cellR 7 rfl;have q7:=HZZ.out.free 7;have cc8:=hj.cellR 8 rfl;have d8:=HZZ.out.cellR 8 rfl;have q8:=HZZ.out.free 8;have HZ9:=Lib.hid (HZZ.out.set9 (.int .i64 l.limit) (.slice A5 n5 c5) (.slice A6 n6 c6) (.int .i64 r.limit) (.slice A7 n7 c7) (.slice A8 n8 c8) (.int .i64 s.lm) (.int .i64 s.rm) (.int .i64 s.seq));have HT9:=Lib.hid (turned_set9 wr (w.heap.size+1) (.int .i64 l.limit) (.slice A5 n5 c5) (.slice A6 n6 c6) (.int .i64 r.limit) (.slice A7 n7 c7) (.slice A8 n8 c8) (.int .i64 s.lm) (.int .i64 s.rm) (.int .i64 s.seq));have HV:=Lib.hid (And.intro hv5 (And.intro hv6 (And.intro hv7 hv8)));clear hj hv5 hv6 hv7 hv8;go_wp2;have z0:=HZ9.out.cellR 0 rfl;have z1:=HZ9.out.cellR 1 rfl;have z2:=HZ9.out.cellR 2 rfl;have z3:=HZ9.out.cellR 3 rfl;have z4:=HZ9.out.cellR 4 rfl;have z5:=HZ9.out.cellR 5 rfl;have z6:=HZ9.out.cellR 6 rfl;have z7:=HZ9.out.cellR 7 rfl;have z8:=HZ9.out.cellR 8 rfl;refine bodyPost_ret (v:= .agg #[.int .i64 l.limit,.slice A5 n5 c5,.slice A6 n6 c6,.int .i64 r.limit,.slice A7 n7 c7,.slice A8 n8 c8,.int .i64 s.lm,.int .i64 s.rm,.int .i64 s.seq]) (by simp[results,Tryz.results51,go_sem,z0,z1,z2,z3,z4,z5,z6,z7,z8]) rfl ?_;refine⟨⟨l,r,s.lm,s.rm,s.seq⟩,?_,?_,⟨?_,?_⟩,?_⟩
   ·unfold Jv.agg
    simp only[HV.out.1,HV.out.2.1,HV.out.2.2.1,HV.out.2.2.2]
   ·show(⟨l.bu,r.bu,s.lm,s.rm,s.seq⟩:Jn)=⟨s.l.bu,s.r.bu,s.lm,s.rm,s.seq⟩
    rw[HLB.out,HRB.out]
   ·exact(HL.out.turned HT9.out fun k hk=>by rw[hk];exact own_farB HL.out (by omega)).low (by omega)
   ·exact(HR.out.turned HT9.out fun k hk=>by rw[hk];exact own_farB HR.out (by omega)).low (by omega)
   ·exact below_turned HF.out.b HT9.out fun k hk=>by rw[hk];exact Nat.le_succ _
end Go.Proofs.YtjodlngbiikgfaaGreatDoor
namespace Go.Proofs.YtjodlngbiikgfaaGreatDoor
open Go.RowKit Go.Maps
theorem plan_limit {p:Pl}(h:checkP p=0):1≤p.limit∧p.limit≤64:=by
 have h2:=(check_ok h).2.1;unfold rangesB at h2;rw[Bool.and_eq_true]at h2;exact btw_of h2.2
def startV (p:Pl):Jv:=⟨⟨p.limit,.slice none 0 0,[],.slice none 0 0,[]⟩,⟨p.limit,.slice none 0 0,[],.slice none 0 0,[]⟩,noM,noM,0⟩
theorem startV_jn (p:Pl):(startV p).jn=startJ p:=rfl
theorem startV_own (p:Pl)(w:World)(base:Nat):OwnJ w base (startV p):=⟨OwnBuf.empty w base p.limit,OwnBuf.empty w base p.limit⟩
theorem zero_own (w:World)(base:Nat):OwnJ w base Jv.zero:=⟨OwnBuf.empty w base 0,OwnBuf.empty w base 0⟩
set_option maxHeartbeats 4000000 in
set_option maxRecDepth 10000 in
theorem start_any (p:Pl)(w:World)(h:p.ok w)(hf:p.fit):
 Calls Tryz.prog 10 #[.agg #[.int .i64 p.kind,.int .i64 p.mode,.int .i64 p.low,.int .i64 p.high,.int .i64 p.size,.int .i64 p.limit,p.vl,p.vr,p.vk,p.vq,.bool p.grouped,p.vg,p.va]] w fun r w'=>r= .returned (.tuple #[(if checkP p=0 then startV p else Jv.zero).agg,.int .i64 (checkP p)])∧Below w.heap.size w w':=by
 obtain⟨A0,c0,h0,-⟩:=id h.l;obtain⟨A1,c1,h1,-⟩:=id h.r;obtain⟨A2,c2,h2,-⟩:=id h.k;obtain⟨A3,c3,h3,-⟩:=id h.q;obtain⟨A4,c4,h4,-⟩:=id h.g;obtain⟨A5,c5,h5,-⟩:=id h.a;have HCH:=Lib.hid (fun V (hb:Below w.heap.size w V)=>check_any p V (h.below hb) hf);have HLM:=Lib.hid (fun hz=>plan_limit (p:=p) hz);rw[h0,h1,h2,h3,h4,h5]at HCH⊢;have hB0:=below_alloc w (.cells #[.int .i64 p.kind,.int .i64 p.mode,.int .i64 p.low,.int .i64 p.high,.int .i64 p.size,.int .i64 p.limit,.slice A0 p.left.length c0,.slice A1 p.right.length c1,.slice A2 p.lkeys.length c2,.slice A3 p.rkeys.length c3,.bool p.grouped,.slice A4 p.group.length c4,.slice A5 p.aggs.length c5] 25);have hB1:=below_trans hB0 (below_alloc _ (.cells jZ 31));have HK0:=Lib.hid (new_first w 25 #[.int .i64 p.kind,.int .i64 p.mode,.int .i64 p.low,.int .i64 p.high,.int .i64 p.size,.int .i64 p.limit,.slice A0 p.left.length c0,.slice A1 p.right.length c1,.slice A2 p.lkeys.length c2,.slice A3 p.rkeys.length c3,.bool p.grouped,.slice A4 p.group.length c4,.slice A5 p.aggs.length c5] (.cells jZ 31));have HK1:=Lib.hid (new_second w 31 jZ (.cells #[.int .i64 p.kind,.int .i64 p.mode,.int .i64 p.low,.int .i64 p.high,.int .i64 p.size,.int .i64 p.limit,.slice A0 p.left.length c0,.slice A1 p.right.length c1,.slice A2 p.lkeys.length c2,.slice A3 p.rkeys.length c3,.bool p.grouped,.slice A4 p.group.length c4,.slice A5 p.aggs.length c5] 25));unfold jZ at hB1 HK0 HK1;obtain⟨P,hP⟩: ∃q,w.heap.size=q:=⟨_,rfl⟩;have HPP:=Lib.hid hP;obtain⟨W1,hW1⟩: ∃V,(w.alloc (.cells #[.int .i64 p.kind,.int .i64 p.mode,.int .i64 p.low,.int .i64 p.high,.int .i64 p.size,.int .i64 p.limit,.slice A0 p.left.length c0,.slice A1 p.right.length c1,.slice A2 p.lkeys.length c2,.slice A3 p.rkeys.length c3,.bool p.grouped,.slice A4 p.group.length c4,.slice A5 p.aggs.length c5] 25)).alloc (.cells #[.int .i64 0,.slice none 0 0,.slice none 0 0,.int .i64 0,.slice none 0 0,.slice none 0 0,.int .i64 0,.int .i64 0,.int .i64 0] 31)=V:=⟨_,rfl⟩;rw[hW1]at hB1 HK0 HK1;rw[hP]at HK0 HK1;have HB1:=Lib.hid hB1;obtain⟨z0,z1,z2,z3,z4,z5,z6,z7,z8,z9,z10,z11,z12⟩:=pl_cells HK0.out;obtain⟨E,hE⟩: ∃q,checkP p=q:=⟨_,rfl⟩;rw[hE]at HCH HLM⊢;clear h hf h0 h1 h2 h3 h4 h5 hB0 hB1 hE hP;go_enter Tryz.func10,Tryz.ntmps10
 go_upto_region 1 with fail
 first|rw[hW1,HPP.out]|rw[hW1]|rw[HPP.out]|skip
 clear hW1
 go_wp2_with fail
 refine Calls.mono (by with_reducible exact HCH.out _ HB1.out) ?_;rintro r W2 ⟨rfl,hb2⟩;have HB2:=Lib.hid (below_trans HB1.out hb2);have HR2:=Lib.hid (HK1.out.below hb2);have HP2:=Lib.hid (HK0.out.below hb2);clear z0 z1 z2 z3 z4 z5 z6 z7 z8 z9 z10 z11 z12 hb2 HCH;by_cases hE0:E=0
 ·have eb:(E != 0)=false:=by rw[hE0];rfl
  have hlm:=HLM.out hE0;have HNW:=Lib.hid (fun V=>new_any p.limit V);rw[show newB p.limit=(p.limit,0)from if_pos (inB_yes hlm.1 hlm.2)]at HNW;have y5:=HP2.out.cellR 5 rfl
  go_wp2_with fail
  refine Calls.mono (by with_reducible exact HNW.out _) ?_;rintro r W3 ⟨rfl,hb3⟩;have x5:=(HP2.out.below (hb3.alloc hb3.size (.cells #[.int .i64 p.limit,.slice none 0 0,.slice none 0 0] 29))).cellR 5 rfl;have HB3:=Lib.hid (below_trans HB2.out (hb3.alloc hb3.size (.cells #[.int .i64 p.limit,.slice none 0 0,.slice none 0 0] 29)));have HR3:=Lib.hid (HR2.out.below (hb3.alloc hb3.size (.cells #[.int .i64 p.limit,.slice none 0 0,.slice none 0 0] 29)));have HN3:=Lib.hid (Blk.new W3 29 #[.int .i64 p.limit,.slice none 0 0,.slice none 0 0])
  go_upto_region 5 with fail
  obtain⟨Q,hQ⟩: ∃q,W3.heap.size=q:=⟨_,rfl⟩;have HQQ:=Lib.hid hQ;rw[hQ]at HN3;obtain⟨W4,hW4⟩: ∃V,W3.alloc (.cells #[.int .i64 p.limit,.slice none 0 0,.slice none 0 0] 29)=V:=⟨_,rfl⟩;rw[hW4]at x5 HB3 HR3 HN3;clear hb3 y5 hQ
  first|rw[hW4,HQQ.out]|rw[hW4]|rw[HQQ.out]|skip
  clear hW4
  go_wp2_with fail
  refine Calls.mono (by with_reducible exact HNW.out _) ?_;rintro r W5 ⟨rfl,hb5⟩;have HB5:=Lib.hid (below_trans HB3.out (hb5.alloc hb5.size (.cells #[.int .i64 p.limit,.slice none 0 0,.slice none 0 0] 29)));have HR5:=Lib.hid (HR3.out.below (hb5.alloc hb5.size (.cells #[.int .i64 p.limit,.slice none 0 0,.slice none 0 0] 29)));have HN5:=Lib.hid (HN3.out.below (hb5.alloc hb5.size (.cells #[.int .i64 p.limit,.slice none 0 0,.slice none 0 0] 29)));have HM5:=Lib.hid (Blk.new W5 29 #[.int .i64 p.limit,.slice none 0 0,.slice none 0 0])
  go_upto_region 6 with fail
  obtain⟨W6,hW6⟩: ∃V,W5.alloc (.cells #[.int .i64 p.limit,.slice none 0 0,.slice none 0 0] 29)=V:=⟨_,rfl⟩;rw[hW6]at HB5 HR5 HN5 HM5;clear hb5 x5
  first|rw[hW6]|skip
  clear hW6;have a0:=HN5.out.cellR 0 rfl;have a1:=HN5.out.cellR 1 rfl;have a2:=HN5.out.cellR 2 rfl;have b0:=HM5.out.cellR 0 rfl;have b1:=HM5.out.cellR 1 rfl;have b2:=HM5.out.cellR 2 rfl;have q0:=HR5.out.free 0;have q1:=HR5.out.free 1;have q2:=HR5.out.free 2;have q3:=HR5.out.free 3;have q4:=HR5.out.free 4;have q5:=HR5.out.free 5;have q6:=HR5.out.free 6;have q7:=HR5.out.free 7;have q8:=HR5.out.free 8;have d0:=HR5.out.cellR 0 rfl;have d1:=HR5.out.cellR 1 rfl;have d2:=HR5.out.cellR 2 rfl;have d3:=HR5.out.cellR 3 rfl;have d4:=HR5.out.cellR 4 rfl;have d5:=HR5.out.cellR 5 rfl;have d6:=HR5.out.cellR 6 rfl;have d7:=HR5.out.cellR 7 rfl;have d8:=HR5.out.cellR 8 rfl;go_wp2;have HR9:=Lib.hid (HR5.out.set9 (.int .i64 p.limit) (.slice none 0 0) (.slice none 0 0) (.int .i64 p.limit) (.slice none 0 0) (.slice none 0 0) (.int .i64 (-1099511627777)) (.int .i64 (-1099511627777)) (.int .i64 0));have HT9:=Lib.hid (turned_set9 W6 (P+1) (.int .i64 p.limit) (.slice none 0 0) (.slice none 0 0) (.int .i64 p.limit) (.slice none 0 0) (.slice none 0 0) (.int .i64 (-1099511627777)) (.int .i64 (-1099511627777)) (.int .i64 0));have z0:=HR9.out.cellR 0 rfl;have z1:=HR9.out.cellR 1 rfl;have z2:=HR9.out.cellR 2 rfl;have z3:=HR9.out.cellR 3 rfl;have z4:=HR9.out.cellR 4 rfl;have z5:=HR9.out.cellR 5 rfl;have z6:=HR9.out.cellR 6 rfl;have z7:=HR9.out.cellR 7 rfl;have z8:=HR9.out.cellR 8 rfl;refine bodyPost_ret (v:= .tuple #[.agg #[.int .i64 p.limit,.slice none 0 0,.slice none 0 0,.int .i64 p.limit,.slice none 0 0,.slice none 0 0,.int .i64 (-1099511627777),.int .i64 (-1099511627777),.int .i64 0],.int .i64 0]) (by simp[results,Tryz.results10,go_sem,z0,z1,z2,z3,z4,z5,z6,z7,z8]) rfl ?_;refine⟨by first|rfl|(rw[if_pos hE0,hE0];rfl)|(rw[hE0];rfl),below_turned HB5.out HT9.out (fun k hk=>by rw[hk,←HPP.out];exact Nat.le_succ _)⟩
 ·have eb:(E != 0)=true:=by simpa using hE0
  have q0:=HR2.out.free 0;have q1:=HR2.out.free 1;have q2:=HR2.out.free 2;have q3:=HR2.out.free 3;have q4:=HR2.out.free 4;have q5:=HR2.out.free 5;have q6:=HR2.out.free 6;have q7:=HR2.out.free 7;have q8:=HR2.out.free 8;have d0:=HR2.out.cellR 0 rfl;have d1:=HR2.out.cellR 1 rfl;have d2:=HR2.out.cellR 2 rfl;have d3:=HR2.out.cellR 3 rfl;have d4:=HR2.out.cellR 4 rfl;have d5:=HR2.out.cellR 5 rfl;have d6:=HR2.out.cellR 6 rfl;have d7:=HR2.out.cellR 7 rfl;have d8:=HR2.out.cellR 8 rfl;go_wp2;have HR9:=Lib.hid (HR2.out.set9 (.int .i64 0) (.slice none 0 0) (.slice none 0 0) (.int .i64 0) (.slice none 0 0) (.slice none 0 0) (.int .i64 0) (.int .i64 0) (.int .i64 0));have HT9:=Lib.hid (turned_set9 W2 (P+1) (.int .i64 0) (.slice none 0 0) (.slice none 0 0) (.int .i64 0) (.slice none 0 0) (.slice none 0 0) (.int .i64 0) (.int .i64 0) (.int .i64 0));have z0:=HR9.out.cellR 0 rfl;have z1:=HR9.out.cellR 1 rfl;have z2:=HR9.out.cellR 2 rfl;have z3:=HR9.out.cellR 3 rfl;have z4:=HR9.out.cellR 4 rfl;have z5:=HR9.out.cellR 5 rfl;have z6:=HR9.out.cellR 6 rfl;have z7:=HR9.out.cellR 7 rfl;have z8:=HR9.out.cellR 8 rfl;refine bodyPost_ret (v:= .tuple #[.agg #[.int .i64 0,.slice none 0 0,.slice none 0 0,.int .i64 0,.slice none 0 0,.slice none 0 0,.int .i64 0,.int .i64 0,.int .i64 0],.int .i64 E]) (by simp[results,Tryz.results10,go_sem,z0,z1,z2,z3,z4,z5,z6,z7,z8]) rfl ?_;exact⟨by first|rfl|(rw[if_neg hE0];rfl),below_turned HB2.out HT9.out (fun k hk=>by rw[hk,←HPP.out];exact Nat.le_succ _)⟩
end Go.Proofs.YtjodlngbiikgfaaGreatDoor
namespace Go.Proofs.YtjodlngbiikgfaaGreatDoor
open Go.RowKit Go.Maps
def kindV (p:Pl):Value:=if p.kind=3 then .iface 159 (.agg #[])else .iface 160 (.agg #[])
set_option maxHeartbeats 2000000 in
set_option maxRecDepth 10000 in
theorem jof_any (p:Pl)(w:World)(h:p.ok w):
 Calls Tryz.prog 54 #[.agg #[.int .i64 p.kind,.int .i64 p.mode,.int .i64 p.low,.int .i64 p.high,.int .i64 p.size,.int .i64 p.limit,p.vl,p.vr,p.vk,p.vq,.bool p.grouped,p.vg,p.va]] w fun r w'=>r= .returned (kindV p)∧Below w.heap.size w w':=by
 obtain⟨A0,c0,h0,-⟩:=id h.l;obtain⟨A1,c1,h1,-⟩:=id h.r;obtain⟨A2,c2,h2,-⟩:=id h.k;obtain⟨A3,c3,h3,-⟩:=id h.q;obtain⟨A4,c4,h4,-⟩:=id h.g;obtain⟨A5,c5,h5,-⟩:=id h.a;rw[h0,h1,h2,h3,h4,h5];have HB:=Lib.hid (below_alloc w (.cells #[.int .i64 p.kind,.int .i64 p.mode,.int .i64 p.low,.int .i64 p.high,.int .i64 p.size,.int .i64 p.limit,.slice A0 p.left.length c0,.slice A1 p.right.length c1,.slice A2 p.lkeys.length c2,.slice A3 p.rkeys.length c3,.bool p.grouped,.slice A4 p.group.length c4,.slice A5 p.aggs.length c5] 25));have z0:=(Blk.new w 25 #[.int .i64 p.kind,.int .i64 p.mode,.int .i64 p.low,.int .i64 p.high,.int .i64 p.size,.int .i64 p.limit,.slice A0 p.left.length c0,.slice A1 p.right.length c1,.slice A2 p.lkeys.length c2,.slice A3 p.rkeys.length c3,.bool p.grouped,.slice A4 p.group.length c4,.slice A5 p.aggs.length c5]).cellR 0 rfl;clear h h0 h1 h2 h3 h4 h5;by_cases hk:p.kind=3
 ·have HE:=Lib.hid (show kindV p= .iface 159 (.agg #[])from if_pos hk)
  have hb:(p.kind==3)=true:=by rw[hk];rfl
  clear hk;go_enter Tryz.func54,Tryz.ntmps54
  go_wp2;go_ret;exact⟨by rw[HE.out];rfl,HB.out⟩
 ·have HE:=Lib.hid (show kindV p= .iface 160 (.agg #[])from if_neg hk)
  have hb:(p.kind==3)=false:=by simpa using hk
  clear hk;go_enter Tryz.func54,Tryz.ntmps54
  go_wp2;go_ret;exact⟨by rw[HE.out];rfl,HB.out⟩
end Go.Proofs.YtjodlngbiikgfaaGreatDoor
