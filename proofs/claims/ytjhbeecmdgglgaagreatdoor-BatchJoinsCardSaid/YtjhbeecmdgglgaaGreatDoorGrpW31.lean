/-Batches: a copy of numbers; the stable sort of nothing; a sorted row, and the latest that is not too late. Batches: partners of a left row. (Printed b -/
import Derived.Test.YtjhbeecmdgglgaaGreatDoorGrpW17
import Derived.Test.YtjhbeecmdgglgaaGreatDoorGrpW30
import Derived.Test.YtjhbeecmdgglgaaGreatDoorGrpW9
import Derived.Test.YtjhbeecmdgglgaaGreatDoorGrpW28
import Derived.Test.YtjhbeecmdgglgaaGreatDoorGrpW7
set_option linter.unusedSimpArgs false
set_option linter.unusedVariables false
namespace Go.Proofs.YtjhbeecmdgglgaaGreatDoor
open Go.RowKit Go.Maps
open tm (fitsB)
theorem nil_yesI (W:World)(n c:Nat):(binOp .eql 22 (.slice none n c) (.slice none 0 0)).run Tryz.prog W= .ok (.bool true) W:=by kernel_rfl
theorem nil_noI (W:World)(p:Addr)(n c:Nat):(binOp .eql 22 (.slice (some p) n c) (.slice none 0 0)).run Tryz.prog W= .ok (.bool false) W:=by kernel_rfl
set_option maxHeartbeats 1000000 in
set_option maxRecDepth 10000 in
theorem cloneI_any (v:Value)(l:List Int)(w:World)(h:Sl w v l.length (intCells l))(h8:l.length≤4096):
 Calls Tryz.prog 87 #[v] w fun e w'=> ∃v',e= .returned v'∧w'.ownsRow w.heap.size 3 1 v' l.length (intCells l)∧Below w.heap.size w w':=by
 have HH:=Lib.hid h;obtain⟨A,c,rfl,h1,h2,-,h3⟩:=h;clear h2;have HO:=Lib.hid (own_emptyT w w.heap.size 3 1 (Nat.le_refl _));have hB:=below_alloc w (.cells #[] 3);have HS:=Lib.hid (HH.out.below hB);have HL:=Lib.hid (show(intCells l).length=l.length*1 by rw[intCells_len,Nat.mul_one]);cases A with
 |none=>
  have hl:l=[]:=by
   cases l with
   |nil=>rfl
   |cons x t=>obtain⟨b,off,hA,-⟩:=h3 (by simp[intCells]);cases hA
  subst hl;clear h3;have hnil:=fun W=>nil_yesI W 0 c;go_enter Tryz.func87,Tryz.ntmps87
  go_wp2;go_ret;exact⟨_,rfl,⟨rfl,.inl ⟨rfl,rfl⟩⟩,Below.refl _ _⟩
 |some p=>
  clear h3;have hnil:=fun W=>nil_noI W p l.length c;go_enter Tryz.func87,Tryz.ntmps87
  go_wp2_with (at_builtin;refine wpList_app rfl (.tmp 5) (.tmp 6) 22 rfl w.heap.size 3 1 8 Tryz.underlying22 intI _ 0 _ rfl HO.out _ l.length (intCells l) rfl HS.out HL.out (intCells_one l) ?_ ?_ ?_ ?_)
  ·unfold maxLen;omega
  ·omega
  ·exact hB.size
  ·intro v2 w3 hown3 hg3 hat3
   have hb3:=below_grown hB hg3 (own_ge HO.out);have S3:Hid (w3.ownsRow w.heap.size 3 1 v2 l.length (intCells l)):=Lib.hid (by simpa using hown3);clear hown3 hg3 hat3;go_wp2;go_ret;exact⟨_,rfl,S3.out,hb3⟩
set_option maxHeartbeats 1000000 in
set_option maxRecDepth 10000 in
theorem sortStable_nil (f:Value)(w:World):Calls Tryz.prog 88 #[.slice none 0 0,f] w fun e w'=>e= .returned (.tuple #[])∧w=w':=by
 have HI:Hid (∀W,Calls Tryz.prog 157 #[.slice none 0 0,.int .i64 0,.int .i64 0,f] W fun e w'=>e= .returned (.tuple #[])∧W=w'):=Lib.hid (fun W=>by
  go_enter Tryz.func157,Tryz.ntmps157
  go_wp2_with fail
  go_loopw[8,9] (fun iv _ wr=>iv= .int .i64 1∧wr=W) (fun _ _ _=>0)
  case atStart=>exact⟨rfl,rfl⟩
  case round=>
   rename World=>wr
   obtain⟨rfl,rfl⟩:=hrel;go_wp2
   go_end0
   exact⟨rfl,rfl⟩)
 have HS:Hid (∀W,Calls Tryz.prog 121 #[.slice none 0 0,.int .i64 0,f] W fun e w'=>e= .returned (.tuple #[])∧W=w'):=Lib.hid (fun W=>by
  go_enter Tryz.func121,Tryz.ntmps121
  go_wp2_with fail
  go_loopw[7,8] (fun av bv wr=>av= .int .i64 0∧bv= .int .i64 20∧wr=W) (fun _ _ _=>0)
  case atStart=>exact⟨rfl,rfl,rfl⟩
  case round=>
   rename World=>wr
   obtain⟨rfl,rfl,rfl⟩:=hrel
   go_wp2_with fail
   refine Calls.mono (by with_reducible exact HI.out _) ?_;rintro e w2 ⟨rfl,rfl⟩
   go_wp2_with fail
   go_loopw[6,7,8,9] (fun sv _ _ _ wr2=>sv= .int .i64 20∧wr2=wr) (fun _ _ _ _ _=>0)
   case atStart=>exact⟨rfl,rfl⟩
   case round=>
    rename World=>wr2
    obtain⟨rfl,rfl⟩:=hrel;go_wp2
    go_end0
    exact⟨rfl,rfl⟩)
 go_enter Tryz.func88,Tryz.ntmps88
 go_wp2_with fail
 refine Calls.mono (by with_reducible exact HS.out _) ?_;rintro e w2 ⟨rfl,rfl⟩;go_wp2
 go_end0
 exact⟨rfl,rfl⟩
theorem own_irow {w:World}{base:Nat}{v:Value}{l:List Int}(h:w.ownsRow base 3 1 v l.length (intCells l)):(v= .slice none 0 0∧l=[])∨ ∃g cap sp,v= .slice (some ⟨g,0,none⟩) l.length cap∧base≤g∧IRow w g l sp∧l.length≤cap∧cap≤maxLen:=by
 obtain⟨-,⟨rfl,h0⟩|⟨g,cap,cur,rfl,hb,hg,hn,hc,hsz,ht⟩⟩:=h
 ·exact .inl ⟨rfl,List.eq_nil_of_length_eq_zero h0⟩
 ·refine .inr ⟨g,cap,cur.toList.drop l.length,rfl,hb,⟨3,?_⟩,hn,hc⟩
  rw[Nat.mul_one]at ht
  have e:(intCells l++cur.toList.drop l.length).toArray=cur:=by
   rw[←ht,List.take_append_drop,Array.toArray_toList]
  rw[e];exact hg
theorem irow_one {w:World}{g cap k:Nat}{M:List Int}{sp:List Value}{z:Int}(h:IRow w g M sp)(hz:M[k]?=some z)(hc:k+1≤cap)(hm:cap≤maxLen):Sl w (.slice (some ⟨g,k,none⟩) 1 (cap-k)) 1 (intCells [z]):=
 ⟨_,_,rfl,by omega,by omega,nofun,fun _=>⟨g,k,rfl,fun j u hj=>by
   cases j with
   |zero=>
    have:u= .int .i64 z:=by simpa[intCells]using hj.symm
    rw[this];exact h.cell hz
   |succ j=>simp[intCells]at hj⟩⟩
def withD (p:Pl) (R:List Cg) (t:Int) (D:List Int):List Int:=
 if p.kind=3 then(bestI R t D).toList else D.filter fun i=>meetT p.kind p.low p.high p.size t (timeAt R i)
theorem best_fst {T:Int→Int}{t:Int}{l:List Int}: ∀ {a b:Option Int},BestOf T t l a→BestOf T t l b→a=b
 |none,none,_,_=>rfl
 |none,some b,h,k=>by have:=h b k.1;have:=k.2.1;omega
 |some a,none,h,k=>by have:=k a h.1;have:=h.2.1;omega
 |some a,some b,h,k=>by
  rcases h.2.2 b k.1 k.2.1 with e|e
  ·rw[e]
  ·rcases k.2.2 a h.1 h.2.1 with e2|e2
   ·rw[e2]
   ·unfold ltT at e e2;omega
theorem best_search {R:List Cg}{t:Int}{D M:List Int}(hu:D.Pairwise (· < ·))(hp:M.Perm D)(hs:Srt (timeAt R) M){n:Nat}(hn:n≤M.length)(F:Nat→Bool)(hF: ∀k z,M[k]?=some z→F k=decide (t<timeAt R z))
 (h1:n=0∨F (n-1)=false) (h2:n=M.length∨F n=true):bestI R t D=if n=0 then none else M[n-1]?:=by
 have hb:BestOf (timeAt R) t D (bestI R t D):=by
  have h:=best_fold (R:=R) (t:=t) (l:=D) (m:=[]) (b:=none) (fun _ hc=>by cases hc) (by simpa using hu);simpa[bestI]using h
 have le_of: ∀(i j:Nat) (x y:Int),i≤j→M[i]?=some x→M[j]?=some y→timeAt R x≤timeAt R y:=by
  intro i j x y hij hx hy;rcases Nat.lt_or_ge i j with h|h
  ·obtain⟨a1,e1⟩:=List.getElem?_eq_some_iff.1 hx
   obtain⟨a2,e2⟩:=List.getElem?_eq_some_iff.1 hy;have:=List.pairwise_iff_getElem.1 hs i j a1 a2 h;rw[e1,e2]at this;exact ltT_le this
  ·obtain rfl:i=j:=by omega
   rw[hx]at hy;injection hy with hy;rw[hy];exact Int.le_refl _
 refine best_fst hb (best_sorted hp hs hn (fun i x hi hx=> ?_) (fun i x hi hx=> ?_))
 ·rcases h1 with h1|h1
  ·omega
  ·obtain⟨z,hz⟩: ∃z,M[n-1]?=some z:=⟨_,List.getElem?_eq_getElem (by omega)⟩
   have h3:=hF _ _ hz;rw[h1]at h3;have h4:=le_of i (n-1) x z (by omega) hx hz;have: ¬t<timeAt R z:=of_decide_eq_false h3.symm;omega
 ·have hil:=(List.getElem?_eq_some_iff.1 hx).1
  rcases h2 with h2|h2
  ·omega
  ·obtain⟨z,hz⟩: ∃z,M[n]?=some z:=⟨_,List.getElem?_eq_getElem (by omega)⟩
   have h3:=hF _ _ hz;rw[h2]at h3;have h4:=le_of n i z x hi hz hx;have:t<timeAt R z:=of_decide_eq_true h3.symm;omega
end Go.Proofs.YtjhbeecmdgglgaaGreatDoor
namespace Go.Proofs.YtjhbeecmdgglgaaGreatDoor
open Go.RowKit Go.Maps
open tm (fitsB)
set_option maxHeartbeats 8000000 in
set_option maxRecDepth 10000 in
theorem partners_any (p:Pl)(t:Int)(vX vR vD:Value)(nX:Nat)(csX:List Value)(R:List Chn)(D:List Int)(w:World)(h:p.ok w)(hp:MeetP p)(hX:Sl w vX nX csX)(hR:Chs w vR R)(hD:Sl w vD D.length (intCells D))(ht:fitsB t=true)(hft: ∀x∈R,fitsB x.k=true)
 (hu:D.Pairwise (· < ·)) (hi: ∀i∈D,0≤i∧i<R.length) (hl:R.length≤4096) (hDl:D.length≤4096):
 Calls Tryz.prog 38 #[.agg #[.int .i64 p.kind,.int .i64 p.mode,.int .i64 p.low,.int .i64 p.high,.int .i64 p.size,.int .i64 p.limit,p.vl,p.vr,p.vk,p.vq,.bool p.grouped,p.vg,p.va],.agg #[.int .i64 t,vX],vR,vD] w fun e w'=> ∃v',e= .returned v'∧Sl w' v' (withD p (ac R) t D).length (intCells (withD p (ac R) t D))∧(∀k,v'.ownBlock=some k→w.heap.size≤k∧k<w'.heap.size)∧Below w.heap.size w w':=by
 have HR:=Lib.hid hR;have HD:=Lib.hid hD;have HU:=Lib.hid hu;have HIN:=Lib.hid hi;have HFT:=Lib.hid hft;have HMT:=Lib.hid (fun(W:World) (hb:Below w.heap.size w W) (hk:p.kind≠3) (r:Int) (hr:fitsB r=true)=>bmeets_any p t r W (h.below hb) hp hk ht hr);obtain⟨Wd,hWd⟩: ∃y,withD p (ac R) t D=y:=⟨_,rfl⟩;rw[hWd];have HWD:=Lib.hid hWd;obtain⟨A0,c0,h0,n0,m0,-⟩:=id h.l;obtain⟨A1,c1,h1,n1,m1,-⟩:=id h.r;obtain⟨A2,c2,h2,n2,m2,-⟩:=id h.k;obtain⟨A3,c3,h3,n3,m3,-⟩:=id h.q;obtain⟨A4,c4,h4,n4,m4,-⟩:=id h.g;obtain⟨A5,c5,h5,n5,m5,-⟩:=id h.a;obtain⟨AR,cR,rfl,nR,mR,-⟩:=id hR.sl;obtain⟨AX,cX,rfl,-⟩:=id hX;obtain⟨AD,cD,rfl,nD,mD,-⟩:=id hD;unfold maxLen at mR mD;rw[h0,h1,h2,h3,h4,h5]at HMT⊢;have hb1:=below_alloc w (.cells #[.int .i64 p.kind,.int .i64 p.mode,.int .i64 p.low,.int .i64 p.high,.int .i64 p.size,.int .i64 p.limit,.slice A0 p.left.length c0,.slice A1 p.right.length c1,.slice A2 p.lkeys.length c2,.slice A3 p.rkeys.length c3,.bool p.grouped,.slice A4 p.group.length c4,.slice A5 p.aggs.length c5] 25);have hb2:=hb1.alloc hb1.size (.cells #[.int .i64 t,.slice AX nX cX] 53);have hb3:=hb2.alloc hb2.size (.cells #[.slice AR R.length cR] 26);have hb4:=hb3.alloc hb3.size (.cells #[.slice AD D.length cD] 22);have hk1:=(((Blk.new w 25 #[.int .i64 p.kind,.int .i64 p.mode,.int .i64 p.low,.int .i64 p.high,.int .i64 p.size,.int .i64 p.limit,.slice A0 p.left.length c0,.slice A1 p.right.length c1,.slice A2 p.lkeys.length c2,.slice A3 p.rkeys.length c3,.bool p.grouped,.slice A4 p.group.length c4,.slice A5 p.aggs.length c5]).alloc (.cells #[.int .i64 t,.slice AX nX cX] 53)).alloc (.cells #[.slice AR R.length cR] 26)).alloc (.cells #[.slice AD D.length cD] 22);have hk2:=((new_second w 53 #[.int .i64 t,.slice AX nX cX] (.cells #[.int .i64 p.kind,.int .i64 p.mode,.int .i64 p.low,.int .i64 p.high,.int .i64 p.size,.int .i64 p.limit,.slice A0 p.left.length c0,.slice A1 p.right.length c1,.slice A2 p.lkeys.length c2,.slice A3 p.rkeys.length c3,.bool p.grouped,.slice A4 p.group.length c4,.slice A5 p.aggs.length c5] 25)).alloc (.cells #[.slice AR R.length cR] 26)).alloc (.cells #[.slice AD D.length cD] 22);have hk3:=(Blk.new ((w.alloc (.cells #[.int .i64 p.kind,.int .i64 p.mode,.int .i64 p.low,.int .i64 p.high,.int .i64 p.size,.int .i64 p.limit,.slice A0 p.left.length c0,.slice A1 p.right.length c1,.slice A2 p.lkeys.length c2,.slice A3 p.rkeys.length c3,.bool p.grouped,.slice A4 p.group.length c4,.slice A5 p.aggs.length c5] 25)).alloc (.cells #[.int .i64 t,.slice AX nX cX] 53)) 26 #[.slice AR R.length cR]).alloc (.cells #[.slice AD D.length cD] 22);have hk4:=Blk.new (((w.alloc (.cells #[.int .i64 p.kind,.int .i64 p.mode,.int .i64 p.low,.int .i64 p.high,.int .i64 p.size,.int .i64 p.limit,.slice A0 p.left.length c0,.slice A1 p.right.length c1,.slice A2 p.lkeys.length c2,.slice A3 p.rkeys.length c3,.bool p.grouped,.slice A4 p.group.length c4,.slice A5 p.aggs.length c5] 25)).alloc (.cells #[.int .i64 t,.slice AX nX cX] 53)).alloc (.cells #[.slice AR R.length cR] 26)) 22 #[.slice AD D.length cD];obtain⟨W4,hW4⟩: ∃V,(((w.alloc (.cells #[.int .i64 p.kind,.int .i64 p.mode,.int .i64 p.low,.int .i64 p.high,.int .i64 p.size,.int .i64 p.limit,.slice A0 p.left.length c0,.slice A1 p.right.length c1,.slice A2 p.lkeys.length c2,.slice A3 p.rkeys.length c3,.bool p.grouped,.slice A4 p.group.length c4,.slice A5 p.aggs.length c5] 25)).alloc (.cells #[.int .i64 t,.slice AX nX cX] 53)).alloc (.cells #[.slice AR R.length cR] 26)).alloc (.cells #[.slice AD D.length cD] 22)=V:=⟨_,rfl⟩;have hsz:W4.heap.size=w.heap.size+4:=by rw[←hW4];simp
 rw[hW4]at hb4 hk1 hk2 hk3 hk4;simp only[World.size_alloc]at hk2 hk3 hk4;have HB:=Lib.hid hb4;have HK1:=Lib.hid hk1;have HK2:=Lib.hid hk2;have HK3:=Lib.hid hk3;have HK4:=Lib.hid hk4;have HSZ:=Lib.hid hsz;have z0:=HK1.out.cell 0 _ rfl;clear h h0 h1 h2 h3 h4 h5 n0 n1 n2 n3 n4 n5 m0 m1 m2 m3 m4 m5 hR hX hD hp hft hu hi hWd hb1 hb2 hb3 hb4 hk1 hk2 hk3 hk4 hsz;by_cases hk:p.kind=3
 ·have hkb:=beqT hk
  have HWE:Hid ((bestI (ac R) t D).toList=Wd):=Lib.hid (by rw[←HWD.out];exact(if_pos hk).symm);have HCL:=Lib.hid (fun(W:World) (hb:Below w.heap.size w W)=>cloneI_any (.slice AD D.length cD) D W (HD.out.below hb) hDl);have y4:=HK4.out.cell 0 _ rfl;clear hk HMT;go_enter Tryz.func38,Tryz.ntmps38
  go_upto_region 1 with fail
  clear hW4
  go_wp2_with fail
  refine Calls.mono (by with_reducible exact HCL.out _ HB.out) ?_;rintro e w5 ⟨v5,rfl,ho5,hb5⟩;obtain⟨A5',n5',c5',e5⟩: ∃A n c,v5= .slice A n c:=by obtain⟨A,c,e,-⟩:=Sl.of_own ho5;exact⟨A,_,c,e⟩
  have hbw5:=below_trans HB.out hb5;have K4:=HK4.out.below hb5;have y4':=K4.cell 0 _ rfl;have f4:=K4.free 0;have HT5:=Lib.hid (turned_set w5 ⟨w.heap.size+1+1+1,0,none⟩ v5);have HB6:=Lib.hid (below_turned hbw5 HT5.out (fun k hk=>by rw[hk];show w.heap.size≤w.heap.size+1+1+1;omega));have HK46:=Lib.hid (K4.set_ 0 v5);have HK36:=Lib.hid (blk_turned (HK3.out.below hb5) HT5.out (fun e=>by have e:w.heap.size+1+1=w.heap.size+1+1+1:=e;omega));have HK26:=Lib.hid (blk_turned (HK2.out.below hb5) HT5.out (fun e=>by have e:w.heap.size+1=w.heap.size+1+1+1:=e;omega));have HS5:Hid (W4.heap.size≤w5.heap.size):=Lib.hid hb5.size;rcases own_irow ho5 with⟨hv,hd0⟩|⟨g,cap,sp,hv,hg,hI,hc1,hc2⟩
  ·rw[hv]at HK46 HB6 HT5
   subst hd0;have HWN:Hid (Wd=[]):=Lib.hid (by rw[←HWE.out];rfl);have HSR:=Lib.hid (sortStable_nil (.func (.func 89) #[] #[.pointer (some ⟨w.heap.size+1+1,0,none⟩)]) (w5.setCell ⟨w.heap.size+1+1+1,0,none⟩ (.slice none 0 0)));have HSE:=Lib.hid (search_any 0 #[.pointer (some ⟨w.heap.size+1+1,0,none⟩),.pointer (some ⟨w.heap.size+1+1+1,0,none⟩),.pointer (some ⟨w.heap.size+1,0,none⟩)] (fun _=>false) (w5.setCell ⟨w.heap.size+1+1+1,0,none⟩ (.slice none 0 0)) (by omega) (fun _ _ _ h=>absurd h (Nat.not_lt_zero _)));have y6:=HK46.out.cell 0 _ rfl;subst hv;clear e5 ho5 hb5 K4 hbw5
   go_wp2_with fail
   refine Calls.mono (by with_reducible exact HSR.out) ?_;rintro e w6 ⟨rfl,rfl⟩
   go_wp2_with fail
   refine Calls.mono (by exact HSE.out) ?_;rintro e w7 ⟨i,rfl,hi0,-,-,hb7⟩;obtain rfl:i=0:=by omega
   have HB7:=Lib.hid (below_trans HB6.out hb7);have y7:=(HK46.out.below hb7).cell 0 _ rfl;clear hb7 y6;go_wp2;go_ret;exact⟨_,rfl,by rw[HWN.out];exact Sl.nil_ _,nofun,HB7.out⟩
  ·rw[hv]at HK46 HB6 HT5
   unfold maxLen at hc2
   have HIW:=Lib.hid (show IRow (w5.setCell ⟨w.heap.size+1+1+1,0,none⟩ (.slice (some ⟨g,0,none⟩) D.length cap)) g D sp from by
    obtain⟨ty,hI⟩:=hI;exact⟨ty,blk_turned hI HT5.out (fun e=>by have e:g=w.heap.size+1+1+1:=e;have:=HSZ.out;omega)⟩)
   have HG:=Lib.hid hg;obtain⟨w6,hw6⟩: ∃V,w5.setCell ⟨w.heap.size+1+1+1,0,none⟩ (.slice (some ⟨g,0,none⟩) D.length cap)=V:=⟨_,rfl⟩;subst hv;rw[hw6]at HK46 HB6 HIW HK36 HK26;have HGN:Hid (w.heap.size+1+1+1<g):=Lib.hid (by have:=HSZ.out;have:=HG.out;omega)
   have hcmp:CmpI (timeAt (ac R)) (fun i=>0≤i∧i<R.length) g (w.heap.size+1+1) w6:=by
    intro W x y hT hx hy;obtain⟨i,rfl⟩: ∃i:Nat,(i:Int)=x:=⟨x.toNat,by omega⟩;obtain⟨j,rfl⟩: ∃j:Nat,(j:Int)=y:=⟨y.toNat,by omega⟩;exact part1_any _ _ R i j w W HR.out (below_turned HB6.out hT (fun k hk=>by rw[hk];have:=HGN.out;omega)) (blk_turned HK36.out hT (fun e=>by have e:w.heap.size+1+1=g:=e;have:=HGN.out;omega)) HFT.out (by omega) (by omega)
   have HSR:=Lib.hid (sortStable_any (timeAt (ac R)) (fun i=>0≤i∧i<R.length) g cap (w.heap.size+1+1) D.length D sp w6 HIW.out rfl (by omega) ⟨hc1,by unfold maxLen;exact hc2⟩ HU.out HIN.out hcmp);have y6:=HK46.out.cell 0 _ rfl;clear e5 ho5 hb5 K4 hbw5 hcmp hI
   go_wp2_with (rw[hw6];clear hw6;skip)
   refine Calls.mono (by with_reducible exact HSR.out) ?_;rintro e w7 ⟨rfl,⟨M,hM,hS,hI7⟩,hT7⟩;have HT7:=Lib.hid hT7;have HI7:=Lib.hid hI7;have HM:=Lib.hid hM;have HS7:=Lib.hid hS;have HB7:=Lib.hid (below_turned HB6.out hT7 (fun k hk=>by rw[hk];have:=HGN.out;omega));have HK47:=Lib.hid (blk_turned HK46.out hT7 (fun e=>by have e:w.heap.size+1+1+1=g:=e;have:=HGN.out;omega));have HK37:=Lib.hid (blk_turned HK36.out hT7 (fun e=>by have e:w.heap.size+1+1=g:=e;have:=HGN.out;omega));have HK27:=Lib.hid (blk_turned HK26.out hT7 (fun e=>by have e:w.heap.size+1=g:=e;have:=HGN.out;omega));have hml:M.length=D.length:=hM.length_eq;have HML:=Lib.hid hml
   have HSE:=Lib.hid (search_any D.length #[.pointer (some ⟨w.heap.size+1+1,0,none⟩),.pointer (some ⟨w.heap.size+1+1+1,0,none⟩),.pointer (some ⟨w.heap.size+1,0,none⟩)] (fun k=>decide (t<timeAt (ac R) (M.getD k 0))) w7 (by omega) (fun W k hbW hk=>by
    obtain⟨z,hz⟩: ∃z,M[k]?=some z:=⟨_,List.getElem?_eq_getElem (by omega)⟩;have hzr:=HIN.out z (HM.out.mem_iff.1 (List.mem_of_getElem? hz));have e:M.getD k 0=z:=by rw[List.getD_eq_getElem?_getD,hz];rfl
    rw[e];exact part2_any _ _ _ g cap k z _ R M sp t _ w W HR.out (below_trans HB7.out hbW) (HK37.out.below hbW) (by rw[HML.out];exact HK47.out.below hbW) (HK27.out.below hbW) (HI7.out.below hbW) hz hzr (by omega)))
   have y7:=HK47.out.cell 0 _ rfl;clear hT7 hI7 hM hS hml y6
   go_wp2_with fail
   refine Calls.mono (by with_reducible exact HSE.out) ?_;rintro e w8 ⟨i,rfl,hi0,hi1,hi2,hb8⟩;have HB8:=Lib.hid (below_trans HB7.out hb8);have y8:=(HK47.out.below hb8).cell 0 _ rfl;have HI8:=Lib.hid (HI7.out.below hb8);have HBS:=Lib.hid (best_search (R:=ac R) (t:=t) HU.out HM.out HS7.out (n:=i) (by rw[HML.out];exact hi0) (fun k=>decide (t<timeAt (ac R) (M.getD k 0))) (fun k z hz=>by rw[List.getD_eq_getElem?_getD,hz];rfl) hi1 (by rw[HML.out];exact hi2));have HGL:Hid (g<w8.heap.size):=Lib.hid (by have h:=HI8.out.lt;exact h);clear hb8 hi1 hi2 y7;by_cases hz:i=0
   ·subst hz
    have HWN:Hid (Wd=[]):=Lib.hid (by rw[←HWE.out,HBS.out];rfl);have i1:IntKind.i64.wrap (((0:Nat):Int)-1)= -1:=by decide
    have i2:max (0:Int) (-1)=0:=by decide
    have HOWN:Hid (∀k,(Value.slice (some ⟨g,0,none⟩) 0 cap).ownBlock=some k→w.heap.size≤k∧k<w8.heap.size):=Lib.hid (fun k hk=>by
     injection hk with hk;have hk:g=k:=hk;have h1:=HGN.out;have h2:=HGL.out;omega)
    go_wp2;go_ret;exact⟨_,rfl,by rw[HWN.out];exact⟨_,_,rfl,Nat.zero_le _,by unfold maxLen;omega,nofun,fun h=>absurd rfl h⟩,HOWN.out,HB8.out⟩
   ·obtain⟨j,rfl⟩: ∃j,i=j+1:=⟨i-1,by omega⟩
    obtain⟨z,hzz⟩: ∃z,M[j]?=some z:=⟨_,List.getElem?_eq_getElem (by have:=HML.out;omega)⟩;have HWN:Hid (Wd=[z]):=Lib.hid (by rw[←HWE.out,HBS.out,if_neg hz,Nat.add_sub_cancel,hzz];rfl);have HSL:=Lib.hid (irow_one (cap:=cap) HI8.out hzz (by omega) (by unfold maxLen;exact hc2));obtain⟨i,hij⟩: ∃i,j+1=i:=⟨_,rfl⟩;rw[hij]at hi0;have i1:IntKind.i64.wrap ((i:Int)-1)=(j:Int):=by rw[IntKind.wrap_i64];omega
    have j0:(0:Int)≤(j:Int):=by omega
    have j1:(j:Int)≤(i:Int):=by omega
    have j2:(i:Int)≤(cap:Int):=by omega
    have j3:((i:Int)-(j:Int)).toNat=1:=by omega
    have j4:max (0:Int) (j:Int)=(j:Int):=by omega
    have j5:i-j=1:=by omega
    have HOWN:Hid (∀n c k,(Value.slice (some ⟨g,j,none⟩) n c).ownBlock=some k→w.heap.size≤k∧k<w8.heap.size):=Lib.hid (fun n c k hk=>by
     injection hk with hk;have hk:g=k:=hk;have h1:=HGN.out;have h2:=HGL.out;omega)
    have HIJ:=Lib.hid hij;clear hz hzz;rw[hij];clear hij;go_wp2;go_ret;exact⟨_,rfl,by rw[HWN.out];exact HSL.out,HOWN.out _ _,HB8.out⟩
 ·have hkb:=beqF hk
  have HWE:Hid ((D.filter fun i=>meetT p.kind p.low p.high p.size t (timeAt (ac R) i))=Wd):=Lib.hid (by rw[←HWD.out];exact(if_neg hk).symm);have HMK:=Lib.hid (fun(W:World) (hb:Below w.heap.size w W) (r:Int) (hr:fitsB r=true)=>HMT.out W hb hk r hr);have y4:=HK4.out.cell 0 _ rfl;have hyW:Below W4.heap.size W4 W4:=Below.refl _ _;clear hk HMT;go_enter Tryz.func38,Tryz.ntmps38
  go_upto_region 1 with fail
  clear hW4
  go_wp2_with fail
  go_loopw[10,12,33] (fun ov _ iv wr=> ∃(k:Nat) (u:Value),u=ov∧k≤D.length∧iv= .int .i64 k∧Hid (wr.ownsRow W4.heap.size 3 1 u ((D.take k).filter fun i=>meetT p.kind p.low p.high p.size t (timeAt (ac R) i)).length (intCells ((D.take k).filter fun i=>meetT p.kind p.low p.high p.size t (timeAt (ac R) i))))∧Below W4.heap.size W4 wr) (fun _ _ iv _=>D.length-(intOf iv).toNat)
  case atStart=>exact⟨0,_,rfl,by omega,rfl,Lib.hid ⟨rfl,.inl ⟨rfl,rfl⟩⟩,hyW⟩
  case round=>
   clear hyW y4;rename World=>wr
   obtain⟨k,u,rfl,hk,rfl,HO,hyr⟩:=hrel;have hbr:=below_trans HB.out hyr;by_cases hlt:k<D.length
   ·obtain⟨bD,oD,hAD,-,hcD⟩:=int_at HD.out rfl hlt
    subst hAD;have gz:D[k]?=some (D.getD k 0):=by simp[hlt]
    have d0:=hcD _ hbr;generalize D.getD k 0=z at gz d0;have hzr:=HIN.out z (List.mem_of_getElem? gz);obtain⟨n,rfl⟩: ∃n:Nat,(n:Int)=z:=⟨z.toNat,by omega⟩;have hn:n<R.length:=by omega
    have hx:=List.getElem?_eq_getElem (l:=R) hn;generalize R[n]=x at hx;have hxf:=HFT.out x (List.mem_of_getElem? hx);obtain⟨bR,oR,hAR,-,hcR⟩:=chn_at HR.out.sl rfl hx;subst hAR;have htm:=timeAt_ac hx;have HMX:=Lib.hid (fun(W:World) (hb:Below w.heap.size w W)=>HMK.out W hb x.k hxf)
    have HSS:=Lib.hid (show ∀w',Below W4.heap.size W4 w'→w'.cell? ⟨w.heap.size,0,none⟩=some (.int .i64 p.kind)∧w'.cell? ⟨w.heap.size,1,none⟩=some (.int .i64 p.mode)∧w'.cell? ⟨w.heap.size,2,none⟩=some (.int .i64 p.low)∧w'.cell? ⟨w.heap.size,3,none⟩=some (.int .i64 p.high)∧w'.cell? ⟨w.heap.size,4,none⟩=some (.int .i64 p.size)∧w'.cell? ⟨w.heap.size,5,none⟩=some (.int .i64 p.limit)∧w'.cell? ⟨w.heap.size,6,none⟩=some (.slice A0 p.left.length c0)∧w'.cell? ⟨w.heap.size,7,none⟩=some (.slice A1 p.right.length c1)∧w'.cell? ⟨w.heap.size,8,none⟩=some (.slice A2 p.lkeys.length c2)∧w'.cell? ⟨w.heap.size,9,none⟩=some (.slice A3 p.rkeys.length c3)∧w'.cell? ⟨w.heap.size,10,none⟩=some (.bool p.grouped)∧w'.cell? ⟨w.heap.size,11,none⟩=some (.slice A4 p.group.length c4)∧w'.cell? ⟨w.heap.size,12,none⟩=some (.slice A5 p.aggs.length c5)∧w'.cell? ⟨w.heap.size+1,0,none⟩=some (.int .i64 t)∧w'.cell? ⟨w.heap.size+1+1,0,none⟩=some (.slice (some ⟨bR,oR,none⟩) R.length cR)∧w'.cell? ⟨bR,oR+n*2,none⟩=some (.int .i64 x.k)from fun w' hb=>by
     obtain⟨z0,z1,z2,z3,z4,z5,z6,z7,z8,z9,z10,z11,z12⟩:=pl_cells (HK1.out.below hb);exact⟨z0,z1,z2,z3,z4,z5,z6,z7,z8,z9,z10,z11,z12,(HK2.out.below hb).cell 0 _ rfl,(HK3.out.below hb).cell 0 _ rfl,(hcR _ (below_trans HB.out hb)).1⟩)
    have k0:(0:Int)≤(k:Int):=by omega
    have k1:(k:Int)<(D.length:Int):=by omega
    have n0:(0:Int)≤(n:Int):=by omega
    have n1:(n:Int)<(R.length:Int):=by omega
    have hyd:=hyr.drew
    have hst:(D.take (k+1)).filter (fun i=>meetT p.kind p.low p.high p.size t (timeAt (ac R) i))=(D.take k).filter (fun i=>meetT p.kind p.low p.high p.size t (timeAt (ac R) i))++(if meetT p.kind p.low p.high p.size t x.k then[(n:Int)]else[]):=by
     rw[List.take_add_one,gz,Option.toList_some,List.filter_append,List.filter_cons,List.filter_nil,htm]
    have HST:=Lib.hid hst;obtain⟨FK,hFK⟩: ∃y,(D.take k).filter (fun i=>meetT p.kind p.low p.high p.size t (timeAt (ac R) i))=y:=⟨_,rfl⟩;rw[hFK]at HO HST;have HFL:Hid (FK.length≤D.length):=Lib.hid (by rw[←hFK];exact Nat.le_trans (List.length_filter_le _ _) (by rw[List.length_take];omega));obtain⟨Ao,no,co,hov⟩: ∃A n c,u= .slice A n c:=by obtain⟨A,c,e,-⟩:=Sl.of_own HO.out;exact⟨A,_,c,e⟩
    subst hov;clear hcD gz hzr hn hx hxf hcR htm hst hFK
    go_wp2_with fail
    cases hq:meetT p.kind p.low p.high p.size t x.k with
    |true=>
     rw[hq]at HMX HST;clear hq
     go_region_held3 (fun w'=>w'.cell? ⟨w.heap.size,0,none⟩=some (.int .i64 p.kind)∧w'.cell? ⟨w.heap.size,1,none⟩=some (.int .i64 p.mode)∧w'.cell? ⟨w.heap.size,2,none⟩=some (.int .i64 p.low)∧w'.cell? ⟨w.heap.size,3,none⟩=some (.int .i64 p.high)∧w'.cell? ⟨w.heap.size,4,none⟩=some (.int .i64 p.size)∧w'.cell? ⟨w.heap.size,5,none⟩=some (.int .i64 p.limit)∧w'.cell? ⟨w.heap.size,6,none⟩=some (.slice A0 p.left.length c0)∧w'.cell? ⟨w.heap.size,7,none⟩=some (.slice A1 p.right.length c1)∧w'.cell? ⟨w.heap.size,8,none⟩=some (.slice A2 p.lkeys.length c2)∧w'.cell? ⟨w.heap.size,9,none⟩=some (.slice A3 p.rkeys.length c3)∧w'.cell? ⟨w.heap.size,10,none⟩=some (.bool p.grouped)∧w'.cell? ⟨w.heap.size,11,none⟩=some (.slice A4 p.group.length c4)∧w'.cell? ⟨w.heap.size,12,none⟩=some (.slice A5 p.aggs.length c5)∧w'.cell? ⟨w.heap.size+1,0,none⟩=some (.int .i64 t)∧w'.cell? ⟨w.heap.size+1+1,0,none⟩=some (.slice (some ⟨bR,oR,none⟩) R.length cR)∧w'.cell? ⟨bR,oR+n*2,none⟩=some (.int .i64 x.k))
      (first|exact HSS.out _ hyd|exact HSS.out _ hy6|go_keep)
      ((go_at_call 92;refine(HMX.out _ (below_trans HB.out hyd)).mono ?_;rintro e w6 ⟨rfl,hb6⟩;have hy6:=hyd.trans (hb6.mono hyd.size)))
     all_goals
      have HOA:=Lib.hid ((own_below (w:=wr.drew) HO.out hb6).alloc (.cells #[.int .i64 n] 3));have HCN:=Lib.hid (Sl.block (Blk.new w6 3 #[.int .i64 n]) 1 1 (Nat.le_refl _) (by decide));have HYA:=Lib.hid (hy6.alloc hy6.size (.cells #[.int .i64 n] 3));clear hy6 hyd hb6
      go_wp2_with (first
       |(at_builtin;refine wpList_app rfl (.tmp 46) (.tmp 48) 22 rfl W4.heap.size 3 1 8 Tryz.underlying22 intI _ FK.length _ rfl HOA.out _ 1 [.int .i64 n] rfl HCN.out rfl (by simp[Value.oneCell']) ?_ ?_ ?_ ?_)
       |go_in)
      ·unfold maxLen;have:=HFL.out;omega
      ·have:=HFL.out;omega
      ·have:=HYA.out.size;rw[World.size_alloc]at this;exact this
      ·intro v7 w7 hown7 hg7 hat7
       have hy7:=below_grown HYA.out hg7 (own_ge HOA.out)
       have H7:Hid (w7.ownsRow W4.heap.size 3 1 v7 ((D.take (k+1)).filter fun i=>meetT p.kind p.low p.high p.size t (timeAt (ac R) i)).length (intCells ((D.take (k+1)).filter fun i=>meetT p.kind p.low p.high p.size t (timeAt (ac R) i)))):=Lib.hid (by
        rw[HST.out,List.length_append,intCells_app];exact hown7)
       clear hown7 hg7 hat7;go_wp2;go_roundw
       case rel=>exact⟨k+1,_,rfl,by omega,by go_num,H7,hy7⟩
       case measure=>simp[intOf];omega
    |false=>
     rw[hq]at HMX HST;clear hq
     go_region_held3 (fun w'=>w'.cell? ⟨w.heap.size,0,none⟩=some (.int .i64 p.kind)∧w'.cell? ⟨w.heap.size,1,none⟩=some (.int .i64 p.mode)∧w'.cell? ⟨w.heap.size,2,none⟩=some (.int .i64 p.low)∧w'.cell? ⟨w.heap.size,3,none⟩=some (.int .i64 p.high)∧w'.cell? ⟨w.heap.size,4,none⟩=some (.int .i64 p.size)∧w'.cell? ⟨w.heap.size,5,none⟩=some (.int .i64 p.limit)∧w'.cell? ⟨w.heap.size,6,none⟩=some (.slice A0 p.left.length c0)∧w'.cell? ⟨w.heap.size,7,none⟩=some (.slice A1 p.right.length c1)∧w'.cell? ⟨w.heap.size,8,none⟩=some (.slice A2 p.lkeys.length c2)∧w'.cell? ⟨w.heap.size,9,none⟩=some (.slice A3 p.rkeys.length c3)∧w'.cell? ⟨w.heap.size,10,none⟩=some (.bool p.grouped)∧w'.cell? ⟨w.heap.size,11,none⟩=some (.slice A4 p.group.length c4)∧w'.cell? ⟨w.heap.size,12,none⟩=some (.slice A5 p.aggs.length c5)∧w'.cell? ⟨w.heap.size+1,0,none⟩=some (.int .i64 t)∧w'.cell? ⟨w.heap.size+1+1,0,none⟩=some (.slice (some ⟨bR,oR,none⟩) R.length cR)∧w'.cell? ⟨bR,oR+n*2,none⟩=some (.int .i64 x.k))
      (first|exact HSS.out _ hyd|exact HSS.out _ hy6|go_keep)
      ((go_at_call 92;refine(HMX.out _ (below_trans HB.out hyd)).mono ?_;rintro e w6 ⟨rfl,hb6⟩;have hy6:=hyd.trans (hb6.mono hyd.size)))
     all_goals
      have H7:Hid (w6.ownsRow W4.heap.size 3 1 (.slice Ao no co) ((D.take (k+1)).filter fun i=>meetT p.kind p.low p.high p.size t (timeAt (ac R) i)).length (intCells ((D.take (k+1)).filter fun i=>meetT p.kind p.low p.high p.size t (timeAt (ac R) i)))):=Lib.hid (by
       rw[HST.out,if_neg (by simp),List.append_nil];exact own_below (w:=wr.drew) HO.out hb6)
      clear hyd hb6;go_wp2;go_roundw
      case rel=>exact⟨k+1,_,rfl,by omega,by go_num,H7,hy6⟩
      case measure=>simp[intOf];omega
   ·obtain rfl:k=D.length:=by omega
    rw[List.take_length,HWE.out]at HO;have HFR:=Lib.hid (fun j hj=>And.intro (own_ge HO.out j hj) (own_lt HO.out j hj));go_wp2;go_ret;exact⟨_,rfl,Sl.of_own HO.out,fun j hj=>⟨by have:=(HFR.out j hj).1;have:=HSZ.out;omega,(HFR.out j hj).2⟩,hbr⟩
end Go.Proofs.YtjhbeecmdgglgaaGreatDoor
namespace Go.Proofs.YtjhbeecmdgglgaaGreatDoor
open Go.RowKit Go.Maps
theorem stpI:EInfo Tryz.prog 53 2 32:=by
 have h:(Tryz.prog.info? 53).map (fun i=>(i.zero,i.size,i.bytes))=some (some (.agg #[.int .i64 0,.slice none 0 0]),2,32):=by kernel_rfl
 obtain⟨i,hi,h1,h2,h3⟩:=info_parts h;exact⟨i,_,hi,h1,h2,h3,rfl,by omega⟩
theorem catS_len (a:List Chn):(chnCells a).length=a.length*2:=by unfold chnCells;rw[flat_len Chn.cells_len]
theorem catS_app (a b:List Chn):chnCells (a++b)=chnCells a++chnCells b:=List.flatMap_append
theorem catV_len (a:List Val):(rowCells a).length=a.length*3:=rowCells_len a
theorem catV_app (a b:List Val):rowCells (a++b)=rowCells a++rowCells b:=List.flatMap_append
theorem chns_oneC {w:World}{l:List Chn}(h: ∀c∈l,Sl w c.v c.r.length (rowCells c.r)): ∀u∈chnCells l,u.oneCell'=true:=by
 intro u hu;obtain⟨c,hc,hu⟩:=List.mem_flatMap.1 hu;exact chn_one (h c hc) u hu
def catToS (a b:List Chn):Nat→List Chn
 |0=>[]
 |1=>a
 |_=>a++b
set_option maxHeartbeats 4000000 in
set_option maxRecDepth 100000 in
theorem grow_nilS (n:Nat)(w:World)(h1:1≤n)(hn:n≤1000):
 Calls Tryz.prog 120 #[.slice none 0 0,.int .i64 n] w fun e w'=> ∃u,e= .returned u∧w'.ownsRow w.heap.size 53 2 u 0 []∧Below w.heap.size w w':=by
 have hinfo:(Tryz.prog.info? 53).map (fun i=>(i.zero,i.size,i.bytes))=some (some (.agg #[.int .i64 0,.slice none 0 0]),2,32):=by kernel_rfl
 obtain⟨i0,hi0,hz0,hs0,hb0⟩:=info_parts hinfo
 have hold:(Builtin.firstCells i0.size 0 (.slice none 0 0)).run Tryz.prog w.drew= .ok ([]:List Value).toArray w.drew:=by
  exact run_firstCells_none w.drew i0.size 0 0 0
 have hrz: ∀ty,(Builtin.append_ #[26,3] ty #[.slice none 0 0,.int .i64 (n:Int)]).run Tryz.prog w=
  .ok (.slice (some ⟨w.heap.size,0,none⟩) (0+n) (grownCap w (0+n) 0 53)) (w.drew.alloc (.cells (([]:List Value).toArray++Builtin.zeroCells (Value.cells (Value.agg #[.int .i64 0,.slice none 0 0])) n++Builtin.zeroCells (Value.cells (Value.agg #[.int .i64 0,.slice none 0 0])) (grownCap w (0+n) 0 53-(0+n))) 53)):=fun ty=>by
  exact Lib.run_append_grow_zeros w 26 3 ty 53 i0 (.agg #[.int .i64 0,.slice none 0 0]) .i64 .i64 Tryz.underlying26 Tryz.underlying3 hi0 hz0 none 0 0 [] hold n (by omega) (by omega) (by omega) (by omega)
   (by rw[hb0];omega)
   (growslice_fits (by omega) (by rw[hb0];omega))
 have hGn:0+n≤grownCap w (0+n) 0 53:=grownCap_ge w _ _ _;have hG63:=grownCap_le_maxLen w (0+n) 0 53 (by unfold maxLen;omega);rw[Nat.zero_add]at hrz hGn hG63;generalize grownCap w n 0 53=G at hrz hGn hG63;have HG:=Lib.hid hG63
 have hsz:(([]:List Value).toArray++Builtin.zeroCells (Value.cells (Value.agg #[.int .i64 0,.slice none 0 0])) n++Builtin.zeroCells (Value.cells (Value.agg #[.int .i64 0,.slice none 0 0])) (G-n)).size=G*2:=by
  simp[Builtin.zeroCells,Value.cells];omega
 generalize ([]:List Value).toArray++Builtin.zeroCells (Value.cells (Value.agg #[.int .i64 0,.slice none 0 0])) n++Builtin.zeroCells (Value.cells (Value.agg #[.int .i64 0,.slice none 0 0])) (G-n)=cur at hrz hsz;have HZ:=Lib.hid hsz;clear hsz hold hinfo hi0 hz0 hs0 hb0;unfold maxLen at hG63;go_enter Tryz.func120,Tryz.ntmps120
 go_wp2_with (at_builtin;refine Lib.wpList_append_run _ rfl _ _ _ _ rfl _ _ rfl rfl _ _ (hrz _) ?_)
 all_goals
  go_ret;refine⟨_,rfl,⟨rfl,.inr ⟨_,G,cur,rfl,Nat.le_refl _,?_,Nat.zero_le _,HG.out,by rw[HZ.out],by simp⟩⟩,?_⟩
  ·exact heap_alloc_new w.drew _
  ·exact(Below.refl _ _).drew.alloc (Nat.le_refl _) _
set_option maxHeartbeats 1000000 in
set_option maxRecDepth 10000 in
theorem grow_zeroS (w:World):Calls Tryz.prog 120 #[.slice none 0 0,.int .i64 0] w fun e w'=>e= .returned (.slice none 0 0)∧w=w':=by
 go_enter Tryz.func120,Tryz.ntmps120
 go_wp2;go_ret;exact⟨rfl,rfl⟩
theorem grow_allS (n:Nat)(w:World)(hn:n≤1000):Calls Tryz.prog 120 #[.slice none 0 0,.int .i64 n] w fun e w'=> ∃u,e= .returned u∧w'.ownsRow w.heap.size 53 2 u 0 []∧Below w.heap.size w w':=by
 by_cases h:1≤n
 ·exact grow_nilS n w h hn
 ·obtain rfl:n=0:=by omega
  refine(grow_zeroS w).mono ?_;rintro e w' ⟨rfl,rfl⟩;exact⟨_,rfl,⟨rfl,.inl ⟨rfl,rfl⟩⟩,Below.refl _ _⟩
set_option maxHeartbeats 4000000 in
set_option maxRecDepth 10000 in
theorem concat_anyS (v va vb:Value)(a b:List Chn)(w:World)(hv:Sl w v 2 [va,vb])(ha:Sl w va a.length (chnCells a))(hb:Sl w vb b.length (chnCells b))(ho:(∀u∈chnCells a,u.oneCell'=true)∧(∀u∈chnCells b,u.oneCell'=true))(h2:a.length+b.length≤1000):
 Calls Tryz.prog 83 #[v] w fun e w'=> ∃v',e= .returned v'∧w'.ownsRow w.heap.size 53 2 v' (a++b).length (chnCells (a++b))∧Below w.heap.size w w':=by
 have HA:=Lib.hid ha;have HB:=Lib.hid hb;have HOa:=Lib.hid ho.1;have HOb:=Lib.hid ho.2;clear ho;obtain⟨A,c,rfl,q1,q2,-,q3⟩:=hv;obtain⟨g,off,rfl,hc⟩:=q3 (by simp);have z0:w.cell? ⟨g,off,none⟩=some va:=hc 0 va rfl;have z1:w.cell? ⟨g,off+1,none⟩=some vb:=hc 1 vb rfl;obtain⟨A0,c0,rfl,n0,m0,-⟩:=ha;obtain⟨A1,c1,rfl,n1,m1,-⟩:=hb;have ZB:=Lib.hid (fun(W:World) (h:Below w.heap.size w W)=>And.intro (cell_below h z0) (cell_below h z1));unfold maxLen at m0 m1 q2;clear hc;go_enter Tryz.func83,Tryz.ntmps83
 go_wp2
 go_loop [3,5,11] (fun s _ i=> ∃k:Nat,k≤2∧i= .int .i64 k∧s= .int .i64 ((catToS a b k).length:Nat)) (fun _ _ i=>2-(intOf i).toNat)
 case atStart=>exact⟨0,by omega,rfl,rfl⟩
 case round=>
  obtain⟨k,hk,rfl,rfl⟩:=hrel;have hk3:k=0∨k=1∨k=2:=by omega
  rcases hk3 with rfl|rfl|rfl
  ·have e:((catToS a b 0).length:Int)=0:=rfl
   rw[e];clear e;go_wp2
   go_round
   case rel=>exact⟨1,by omega,by go_num,by simp[catToS]⟩
   case measure=>simp[intOf]
  ·have e:(catToS a b 1).length=a.length:=rfl
   rw[e];go_wp2
   go_round
   case rel=>exact⟨2,by omega,by go_num,by simp[catToS]⟩
   case measure=>simp[intOf]
  ·have e:(catToS a b 2).length=a.length+b.length:=by simp[catToS]
   rw[e];clear e;generalize hn:a.length+b.length=n at h2;have HN:=Lib.hid hn;clear hn
   go_wp2_with fail
   refine(grow_allS n _ h2).mono ?_;rintro e w1 ⟨u0,rfl,hown1,hb1⟩;obtain⟨Au0,cu0,hu0,-⟩:=Sl.of_own hown1;rw[hu0]at hown1;rw[hu0];clear hu0;have HO:=Lib.hid hown1;clear hown1 z0 z1
   go_wp2_with fail
   go_loopw[6,8,27] (fun t _ i wr=> ∃(k:Nat) (u:Value),u=t∧k≤2∧i= .int .i64 k∧wr.ownsRow w.heap.size 53 2 u (catToS a b k).length (chnCells (catToS a b k))∧Below w.heap.size w wr) (fun _ _ i _=>2-(intOf i).toNat)
   case atStart=>exact⟨0,_,rfl,by omega,rfl,HO.out,hb1⟩
   case round=>
    obtain⟨k,u,rfl,hk,rfl,hown,hbw⟩:=hrel;obtain⟨z0,z1⟩:=ZB.out _ hbw;obtain⟨Au,cu,hu,-⟩:=Sl.of_own hown;have hk3:k=0∨k=1∨k=2:=by omega
    rcases hk3 with rfl|rfl|rfl
    ·subst hu
     go_wp2_with (at_builtin;refine wpList_app rfl (.tmp 31) (.tmp 32) 26 rfl w.heap.size 53 2 32 Tryz.underlying26 stpI _ (catToS a b 0).length _ rfl hown _ a.length (chnCells a) rfl (HA.out.below hbw) (catS_len a) (HOa.out) ?_ ?_ ?_ ?_)
     ·have:=HN.out;unfold maxLen;simp[catToS];omega
     ·have:=HN.out;simp[catToS];omega
     ·exact hbw.size
     ·intro v2 w3 hown3 hg3 hat3
      have hbw3:=below_grown hbw hg3 (own_ge hown)
      have O3:Hid (w3.ownsRow w.heap.size 53 2 v2 (catToS a b 1).length (chnCells (catToS a b 1))):=by
       have e:(catToS a b 0).length+a.length=(catToS a b 1).length:=by simp[catToS]
       rw[e]at hown3;exact hown3
      clear hown3 hg3 hat3 hown;go_wp2;go_roundw
      case rel=>exact⟨1,_,rfl,by omega,by go_num,O3.out,hbw3⟩
      case measure=>simp[intOf]
    ·subst hu
     go_wp2_with (at_builtin;refine wpList_app rfl (.tmp 31) (.tmp 32) 26 rfl w.heap.size 53 2 32 Tryz.underlying26 stpI _ (catToS a b 1).length _ rfl hown _ b.length (chnCells b) rfl (HB.out.below hbw) (catS_len b) (HOb.out) ?_ ?_ ?_ ?_)
     ·have:=HN.out;unfold maxLen;simp[catToS];omega
     ·have:=HN.out;simp[catToS];omega
     ·exact hbw.size
     ·intro v2 w3 hown3 hg3 hat3
      have hbw3:=below_grown hbw hg3 (own_ge hown)
      have O3:Hid (w3.ownsRow w.heap.size 53 2 v2 (catToS a b 2).length (chnCells (catToS a b 2))):=by
       have e:(catToS a b 1).length+b.length=(catToS a b 2).length:=by simp[catToS]
       rw[e,←catS_app]at hown3;exact hown3
      clear hown3 hg3 hat3 hown;go_wp2;go_roundw
      case rel=>exact⟨2,_,rfl,by omega,by go_num,O3.out,hbw3⟩
      case measure=>simp[intOf]
    ·have HO2:=Lib.hid hown
     clear hown hu;go_wp2;go_ret;exact⟨_,rfl,HO2.out,hbw⟩
def catToV (a b:List Val):Nat→List Val
 |0=>[]
 |1=>a
 |_=>a++b
set_option maxHeartbeats 4000000 in
set_option maxRecDepth 100000 in
theorem grow_nilV (n:Nat)(w:World)(h1:1≤n)(hn:n≤1000):
 Calls Tryz.prog 86 #[.slice none 0 0,.int .i64 n] w fun e w'=> ∃u,e= .returned u∧w'.ownsRow w.heap.size 68 3 u 0 []∧Below w.heap.size w w':=by
 have hinfo:(Tryz.prog.info? 68).map (fun i=>(i.zero,i.size,i.bytes))=some (some (.agg #[.int .i64 0,.int .i64 0,.string ⟨#[]⟩]),3,32):=by kernel_rfl
 obtain⟨i0,hi0,hz0,hs0,hb0⟩:=info_parts hinfo
 have hold:(Builtin.firstCells i0.size 0 (.slice none 0 0)).run Tryz.prog w.drew= .ok ([]:List Value).toArray w.drew:=by
  exact run_firstCells_none w.drew i0.size 0 0 0
 have hrz: ∀ty,(Builtin.append_ #[43,3] ty #[.slice none 0 0,.int .i64 (n:Int)]).run Tryz.prog w=
  .ok (.slice (some ⟨w.heap.size,0,none⟩) (0+n) (grownCap w (0+n) 0 68)) (w.drew.alloc (.cells (([]:List Value).toArray++Builtin.zeroCells (Value.cells (Value.agg #[.int .i64 0,.int .i64 0,.string ⟨#[]⟩])) n++Builtin.zeroCells (Value.cells (Value.agg #[.int .i64 0,.int .i64 0,.string ⟨#[]⟩])) (grownCap w (0+n) 0 68-(0+n))) 68)):=fun ty=>by
  exact Lib.run_append_grow_zeros w 43 3 ty 68 i0 (.agg #[.int .i64 0,.int .i64 0,.string ⟨#[]⟩]) .i64 .i64 Tryz.underlying43 Tryz.underlying3 hi0 hz0 none 0 0 [] hold n (by omega) (by omega) (by omega) (by omega)
   (by rw[hb0];omega)
   (growslice_fits (by omega) (by rw[hb0];omega))
 have hGn:0+n≤grownCap w (0+n) 0 68:=grownCap_ge w _ _ _;have hG63:=grownCap_le_maxLen w (0+n) 0 68 (by unfold maxLen;omega);rw[Nat.zero_add]at hrz hGn hG63;generalize grownCap w n 0 68=G at hrz hGn hG63;have HG:=Lib.hid hG63
 have hsz:(([]:List Value).toArray++Builtin.zeroCells (Value.cells (Value.agg #[.int .i64 0,.int .i64 0,.string ⟨#[]⟩])) n++Builtin.zeroCells (Value.cells (Value.agg #[.int .i64 0,.int .i64 0,.string ⟨#[]⟩])) (G-n)).size=G*3:=by
  simp[Builtin.zeroCells,Value.cells];omega
 generalize ([]:List Value).toArray++Builtin.zeroCells (Value.cells (Value.agg #[.int .i64 0,.int .i64 0,.string ⟨#[]⟩])) n++Builtin.zeroCells (Value.cells (Value.agg #[.int .i64 0,.int .i64 0,.string ⟨#[]⟩])) (G-n)=cur at hrz hsz;have HZ:=Lib.hid hsz;clear hsz hold hinfo hi0 hz0 hs0 hb0;unfold maxLen at hG63;go_enter Tryz.func86,Tryz.ntmps86
 go_wp2_with (at_builtin;refine Lib.wpList_append_run _ rfl _ _ _ _ rfl _ _ rfl rfl _ _ (hrz _) ?_)
 all_goals
  go_ret;refine⟨_,rfl,⟨rfl,.inr ⟨_,G,cur,rfl,Nat.le_refl _,?_,Nat.zero_le _,HG.out,by rw[HZ.out],by simp⟩⟩,?_⟩
  ·exact heap_alloc_new w.drew _
  ·exact(Below.refl _ _).drew.alloc (Nat.le_refl _) _
set_option maxHeartbeats 1000000 in
set_option maxRecDepth 10000 in
theorem grow_zeroV (w:World):Calls Tryz.prog 86 #[.slice none 0 0,.int .i64 0] w fun e w'=>e= .returned (.slice none 0 0)∧w=w':=by
 go_enter Tryz.func86,Tryz.ntmps86
 go_wp2;go_ret;exact⟨rfl,rfl⟩
theorem grow_allV (n:Nat)(w:World)(hn:n≤1000):Calls Tryz.prog 86 #[.slice none 0 0,.int .i64 n] w fun e w'=> ∃u,e= .returned u∧w'.ownsRow w.heap.size 68 3 u 0 []∧Below w.heap.size w w':=by
 by_cases h:1≤n
 ·exact grow_nilV n w h hn
 ·obtain rfl:n=0:=by omega
  refine(grow_zeroV w).mono ?_;rintro e w' ⟨rfl,rfl⟩;exact⟨_,rfl,⟨rfl,.inl ⟨rfl,rfl⟩⟩,Below.refl _ _⟩
set_option maxHeartbeats 4000000 in
set_option maxRecDepth 10000 in
theorem concat_anyV (v va vb:Value)(a b:List Val)(w:World)(hv:Sl w v 2 [va,vb])(ha:Sl w va a.length (rowCells a))(hb:Sl w vb b.length (rowCells b))(h2:a.length+b.length≤1000):
 Calls Tryz.prog 35 #[v] w fun e w'=> ∃v',e= .returned v'∧w'.ownsRow w.heap.size 68 3 v' (a++b).length (rowCells (a++b))∧Below w.heap.size w w':=by
 have HA:=Lib.hid ha;have HB:=Lib.hid hb;obtain⟨A,c,rfl,q1,q2,-,q3⟩:=hv;obtain⟨g,off,rfl,hc⟩:=q3 (by simp);have z0:w.cell? ⟨g,off,none⟩=some va:=hc 0 va rfl;have z1:w.cell? ⟨g,off+1,none⟩=some vb:=hc 1 vb rfl;obtain⟨A0,c0,rfl,n0,m0,-⟩:=ha;obtain⟨A1,c1,rfl,n1,m1,-⟩:=hb;have ZB:=Lib.hid (fun(W:World) (h:Below w.heap.size w W)=>And.intro (cell_below h z0) (cell_below h z1));unfold maxLen at m0 m1 q2;clear hc;go_enter Tryz.func35,Tryz.ntmps35
 go_wp2
 go_loop [3,5,11] (fun s _ i=> ∃k:Nat,k≤2∧i= .int .i64 k∧s= .int .i64 ((catToV a b k).length:Nat)) (fun _ _ i=>2-(intOf i).toNat)
 case atStart=>exact⟨0,by omega,rfl,rfl⟩
 case round=>
  obtain⟨k,hk,rfl,rfl⟩:=hrel;have hk3:k=0∨k=1∨k=2:=by omega
  rcases hk3 with rfl|rfl|rfl
  ·have e:((catToV a b 0).length:Int)=0:=rfl
   rw[e];clear e;go_wp2
   go_round
   case rel=>exact⟨1,by omega,by go_num,by simp[catToV]⟩
   case measure=>simp[intOf]
  ·have e:(catToV a b 1).length=a.length:=rfl
   rw[e];go_wp2
   go_round
   case rel=>exact⟨2,by omega,by go_num,by simp[catToV]⟩
   case measure=>simp[intOf]
  ·have e:(catToV a b 2).length=a.length+b.length:=by simp[catToV]
   rw[e];clear e;generalize hn:a.length+b.length=n at h2;have HN:=Lib.hid hn;clear hn
   go_wp2_with fail
   refine(grow_allV n _ h2).mono ?_;rintro e w1 ⟨u0,rfl,hown1,hb1⟩;obtain⟨Au0,cu0,hu0,-⟩:=Sl.of_own hown1;rw[hu0]at hown1;rw[hu0];clear hu0;have HO:=Lib.hid hown1;clear hown1 z0 z1
   go_wp2_with fail
   go_loopw[6,8,27] (fun t _ i wr=> ∃(k:Nat) (u:Value),u=t∧k≤2∧i= .int .i64 k∧wr.ownsRow w.heap.size 68 3 u (catToV a b k).length (rowCells (catToV a b k))∧Below w.heap.size w wr) (fun _ _ i _=>2-(intOf i).toNat)
   case atStart=>exact⟨0,_,rfl,by omega,rfl,HO.out,hb1⟩
   case round=>
    obtain⟨k,u,rfl,hk,rfl,hown,hbw⟩:=hrel;obtain⟨z0,z1⟩:=ZB.out _ hbw;obtain⟨Au,cu,hu,-⟩:=Sl.of_own hown;have hk3:k=0∨k=1∨k=2:=by omega
    rcases hk3 with rfl|rfl|rfl
    ·subst hu
     go_wp2_with (at_builtin;refine wpList_app rfl (.tmp 31) (.tmp 32) 43 rfl w.heap.size 68 3 32 Tryz.underlying43 valJ _ (catToV a b 0).length _ rfl hown _ a.length (rowCells a) rfl (HA.out.below hbw) (catV_len a) (rowCells_one a) ?_ ?_ ?_ ?_)
     ·have:=HN.out;unfold maxLen;simp[catToV];omega
     ·have:=HN.out;simp[catToV];omega
     ·exact hbw.size
     ·intro v2 w3 hown3 hg3 hat3
      have hbw3:=below_grown hbw hg3 (own_ge hown)
      have O3:Hid (w3.ownsRow w.heap.size 68 3 v2 (catToV a b 1).length (rowCells (catToV a b 1))):=by
       have e:(catToV a b 0).length+a.length=(catToV a b 1).length:=by simp[catToV]
       rw[e]at hown3;exact hown3
      clear hown3 hg3 hat3 hown;go_wp2;go_roundw
      case rel=>exact⟨1,_,rfl,by omega,by go_num,O3.out,hbw3⟩
      case measure=>simp[intOf]
    ·subst hu
     go_wp2_with (at_builtin;refine wpList_app rfl (.tmp 31) (.tmp 32) 43 rfl w.heap.size 68 3 32 Tryz.underlying43 valJ _ (catToV a b 1).length _ rfl hown _ b.length (rowCells b) rfl (HB.out.below hbw) (catV_len b) (rowCells_one b) ?_ ?_ ?_ ?_)
     ·have:=HN.out;unfold maxLen;simp[catToV];omega
     ·have:=HN.out;simp[catToV];omega
     ·exact hbw.size
     ·intro v2 w3 hown3 hg3 hat3
      have hbw3:=below_grown hbw hg3 (own_ge hown)
      have O3:Hid (w3.ownsRow w.heap.size 68 3 v2 (catToV a b 2).length (rowCells (catToV a b 2))):=by
       have e:(catToV a b 1).length+b.length=(catToV a b 2).length:=by simp[catToV]
       rw[e,←catV_app]at hown3;exact hown3
      clear hown3 hg3 hat3 hown;go_wp2;go_roundw
      case rel=>exact⟨2,_,rfl,by omega,by go_num,O3.out,hbw3⟩
      case measure=>simp[intOf]
    ·have HO2:=Lib.hid hown
     clear hown hu;go_wp2;go_ret;exact⟨_,rfl,HO2.out,hbw⟩
end Go.Proofs.YtjhbeecmdgglgaaGreatDoor
