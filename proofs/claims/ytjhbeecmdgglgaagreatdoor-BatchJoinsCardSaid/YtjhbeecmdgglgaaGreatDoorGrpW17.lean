/-Batches: do two times meet (the program's and the reference's way); which sides stay; rows of Nulls. Plain law of groups: what is wrong with groups; t -/
import Derived.Test.YtjhbeecmdgglgaaGreatDoorGrpW1
import Derived.Test.YtjhbeecmdgglgaaGreatDoorGrpW13
import Derived.Test.YtjhbeecmdgglgaaGreatDoorGrpW16
import Derived.Test.YtjhbeecmdgglgaaGreatDoorGrpW11
import Derived.Test.YtjhbeecmdgglgaaGreatDoorGrpW12
import Derived.Test.YtjhbeecmdgglgaaGreatDoorGrpW9
import Derived.Test.YtjhbeecmdgglgaaGreatDoorGrpW4
import Derived.SizedLaws
import Derived.Deep.Fields
import Derived.Test.YtjhbeecmdgglgaaGreatDoorGrpW7
set_option linter.unusedSimpArgs false
set_option linter.unusedVariables false
namespace Go.Proofs.YtjhbeecmdgglgaaGreatDoor
open Go.RowKit
open tm (fitsB fits_of fits_any winF window_any meetsF meets_any meets_ok start_any)
theorem start_q {t size:Int}{w:World}{n:Nat}{v:Value}(h:Calls Tryz.prog 126 #[.int .i64 t,.int .i64 size] (w.drewN n) fun e w'=>e= .returned v∧w.drewN n=w'):Calls Tryz.prog 126 #[.int .i64 t,.int .i64 size] (w.drewN n) fun e w'=>e= .returned v∧ ∃k,w'=w.drewN k:=
 h.mono fun e w' h'=>⟨h'.1,n,h'.2.symm⟩
structure MeetP (p:Pl):Prop where
 one:p.kind=1→fitsB p.low=true∧fitsB p.high=true∧p.low≤p.high
 two:p.kind≠1→p.kind≠3→1≤p.size∧p.size≤1099511627776
set_option maxHeartbeats 2000000 in
set_option maxRecDepth 10000 in
theorem bmeets_any (p:Pl)(l r:Int)(w:World)(h:p.ok w)(hp:MeetP p)(hk:p.kind≠3)(hl:fitsB l=true)(hr:fitsB r=true):
 Calls Tryz.prog 92 #[.agg #[.int .i64 p.kind,.int .i64 p.mode,.int .i64 p.low,.int .i64 p.high,.int .i64 p.size,.int .i64 p.limit,p.vl,p.vr,p.vk,p.vq,.bool p.grouped,p.vg,p.va],.int .i64 l,.int .i64 r] w fun e w'=>e= .returned (.bool (meetT p.kind p.low p.high p.size l r))∧Below w.heap.size w w':=by
 obtain⟨A0,c0,h0,n0,m0,-⟩:=id h.l;obtain⟨A1,c1,h1,n1,m1,-⟩:=id h.r;obtain⟨A2,c2,h2,n2,m2,-⟩:=id h.k;obtain⟨A3,c3,h3,n3,m3,-⟩:=id h.q;obtain⟨A4,c4,h4,n4,m4,-⟩:=id h.g;obtain⟨A5,c5,h5,n5,m5,-⟩:=id h.a;rw[h0,h1,h2,h3,h4,h5];have hb1:=below_alloc w (.cells #[.int .i64 p.kind,.int .i64 p.mode,.int .i64 p.low,.int .i64 p.high,.int .i64 p.size,.int .i64 p.limit,.slice A0 p.left.length c0,.slice A1 p.right.length c1,.slice A2 p.lkeys.length c2,.slice A3 p.rkeys.length c3,.bool p.grouped,.slice A4 p.group.length c4,.slice A5 p.aggs.length c5] 25);have HK0:=Lib.hid (Blk.new w 25 #[.int .i64 p.kind,.int .i64 p.mode,.int .i64 p.low,.int .i64 p.high,.int .i64 p.size,.int .i64 p.limit,.slice A0 p.left.length c0,.slice A1 p.right.length c1,.slice A2 p.lkeys.length c2,.slice A3 p.rkeys.length c3,.bool p.grouped,.slice A4 p.group.length c4,.slice A5 p.aggs.length c5]);obtain⟨z0,z1,z2,z3,z4,z5,z6,z7,z8,z9,z10,z11,z12⟩:=pl_cells HK0.out;clear h h0 h1 h2 h3 h4 h5 n0 n1 n2 n3 n4 n5 m0 m1 m2 m3 m4 m5;have HP:=Lib.hid hp;have fl:=fits_of hl;have fr:=fits_of hr;clear hp;by_cases hk1:p.kind=1
 ·have hb:=beqT hk1
  obtain⟨f1,f2,f3⟩:=HP.out.one hk1;have hme:=meets_ok hl hr f1 f2 f3;have HMT:=Lib.hid (fun W=>meets_any l r p.low p.high W);rw[hme]at HMT
  have HE:Hid (meetT p.kind p.low p.high p.size l r=(decide (l+p.low≤r)&&decide (r≤l+p.high))):=Lib.hid (by
   unfold meetT;rw[if_pos hk1,Bool.eq_iff_iff];simp only[Bool.and_eq_true,decide_eq_true_eq];omega)
  clear hme hk1 hk f1 f2 f3;go_enter Tryz.func92,Tryz.ntmps92
  go_wp2_with fail
  refine Calls.mono (by with_reducible exact HMT.out _) ?_;rintro e w2 ⟨rfl,rfl⟩;go_wp2;go_ret;exact⟨by rw[HE.out];rfl,hb1⟩
 ·have hb:=beqF hk1
  obtain⟨s1,s2⟩:=HP.out.two hk1 hk;have HW1:=Lib.hid (fun W=>window_any l p.size W fl.1 fl.2 s1 s2);have HW2:=Lib.hid (fun W=>window_any r p.size W fr.1 fr.2 s1 s2)
  have HE:Hid (meetT p.kind p.low p.high p.size l r=(winF l p.size==winF r p.size)):=Lib.hid (by
   unfold meetT;rw[if_neg hk1])
  clear hk1 hk;go_enter Tryz.func92,Tryz.ntmps92
  go_wp2_with fail
  refine Calls.mono (by with_reducible exact HW1.out _) ?_;rintro e w2 ⟨rfl,rfl⟩
  go_wp2_with fail
  refine Calls.mono (by with_reducible exact HW2.out _) ?_;rintro e w2 ⟨rfl,rfl⟩;go_wp2;go_ret;exact⟨by rw[HE.out];rfl,hb1⟩
set_option maxHeartbeats 2000000 in
set_option maxRecDepth 10000 in
theorem rmeet_any (p:Pl)(l r:Int)(w:World)(h:p.ok w)(hp:MeetP p)(hk:p.kind≠3)(hl:fitsB l=true)(hr:fitsB r=true):
 Calls Tryz.prog 95 #[.agg #[.int .i64 p.kind,.int .i64 p.mode,.int .i64 p.low,.int .i64 p.high,.int .i64 p.size,.int .i64 p.limit,p.vl,p.vr,p.vk,p.vq,.bool p.grouped,p.vg,p.va],.int .i64 l,.int .i64 r] w fun e w'=>e= .returned (.bool (meetT p.kind p.low p.high p.size l r))∧Below w.heap.size w w':=by
 obtain⟨A0,c0,h0,n0,m0,-⟩:=id h.l;obtain⟨A1,c1,h1,n1,m1,-⟩:=id h.r;obtain⟨A2,c2,h2,n2,m2,-⟩:=id h.k;obtain⟨A3,c3,h3,n3,m3,-⟩:=id h.q;obtain⟨A4,c4,h4,n4,m4,-⟩:=id h.g;obtain⟨A5,c5,h5,n5,m5,-⟩:=id h.a;rw[h0,h1,h2,h3,h4,h5];have hb1:=below_alloc w (.cells #[.int .i64 p.kind,.int .i64 p.mode,.int .i64 p.low,.int .i64 p.high,.int .i64 p.size,.int .i64 p.limit,.slice A0 p.left.length c0,.slice A1 p.right.length c1,.slice A2 p.lkeys.length c2,.slice A3 p.rkeys.length c3,.bool p.grouped,.slice A4 p.group.length c4,.slice A5 p.aggs.length c5] 25);have HK0:=Lib.hid (Blk.new w 25 #[.int .i64 p.kind,.int .i64 p.mode,.int .i64 p.low,.int .i64 p.high,.int .i64 p.size,.int .i64 p.limit,.slice A0 p.left.length c0,.slice A1 p.right.length c1,.slice A2 p.lkeys.length c2,.slice A3 p.rkeys.length c3,.bool p.grouped,.slice A4 p.group.length c4,.slice A5 p.aggs.length c5]);obtain⟨z0,z1,z2,z3,z4,z5,z6,z7,z8,z9,z10,z11,z12⟩:=pl_cells HK0.out;clear h h0 h1 h2 h3 h4 h5 n0 n1 n2 n3 n4 n5 m0 m1 m2 m3 m4 m5;have HP:=Lib.hid hp;have fl:=fits_of hl;have fr:=fits_of hr;clear hp;by_cases hk1:p.kind=1
 ·have hb:=beqT hk1
  have hw:IntKind.i64.wrap (r-l)=r-l:=by rw[IntKind.wrap_i64];omega
  have HE:Hid (meetT p.kind p.low p.high p.size l r=(decide (p.low≤r-l)&&decide (r-l≤p.high))):=Lib.hid (by
   unfold meetT;rw[if_pos hk1,Bool.eq_iff_iff];simp only[Bool.and_eq_true,decide_eq_true_eq])
  clear hk1 hk;by_cases g1:p.low≤r-l
  ·by_cases g2:r-l≤p.high
   ·have HE2:Hid (meetT p.kind p.low p.high p.size l r=true):=Lib.hid (by rw[HE.out,decide_eq_true g1,decide_eq_true g2];rfl)
    go_enter Tryz.func95,Tryz.ntmps95
    go_wp2;go_ret;exact⟨by rw[HE2.out];rfl,hb1⟩
   ·have HE2:Hid (meetT p.kind p.low p.high p.size l r=false):=Lib.hid (by rw[HE.out,decide_eq_false g2,Bool.and_false])
    have g3:decide (r-l≤p.high)=false:=decide_eq_false g2;go_enter Tryz.func95,Tryz.ntmps95
    go_wp2;go_ret;exact⟨by rw[HE2.out];rfl,hb1⟩
  ·have HE2:Hid (meetT p.kind p.low p.high p.size l r=false):=Lib.hid (by rw[HE.out,decide_eq_false g1];rfl)
   have g3:decide (p.low≤r-l)=false:=decide_eq_false g1;go_enter Tryz.func95,Tryz.ntmps95
   go_wp2;go_ret;exact⟨by rw[HE2.out];rfl,hb1⟩
 ·have hb:=beqF hk1
  obtain⟨s1,s2⟩:=HP.out.two hk1 hk;have HW1:=Lib.hid (fun W=>start_any l p.size W fl.1 fl.2 s1 s2);have HW2:=Lib.hid (fun W=>start_any r p.size W fr.1 fr.2 s1 s2)
  have HE:Hid (meetT p.kind p.low p.high p.size l r=(winF l p.size==winF r p.size)):=Lib.hid (by
   unfold meetT;rw[if_neg hk1])
  generalize winF l p.size=wl at HW1 HE;generalize winF r p.size=wr at HW2 HE;clear hk1 hk;go_enter Tryz.func95,Tryz.ntmps95
  go_wp2_with fail
  go_quiet ((go_at_call 126;first|with_reducible exact start_q (HW1.out _)|with_reducible exact start_q (HW2.out _)))
  go_wp2;go_ret;exact⟨by rw[HE.out];rfl,⟨hb1.os,hb1.tape,hb1.output,hb1.size,hb1.block⟩⟩
set_option maxHeartbeats 1000000 in
set_option maxRecDepth 10000 in
theorem keepsLeft_any (p:Pl)(w:World)(h:p.ok w):
 Calls Tryz.prog 49 #[.agg #[.int .i64 p.kind,.int .i64 p.mode,.int .i64 p.low,.int .i64 p.high,.int .i64 p.size,.int .i64 p.limit,p.vl,p.vr,p.vk,p.vq,.bool p.grouped,p.vg,p.va]] w fun e w'=>e= .returned (.bool (keepsB p 1))∧Below w.heap.size w w':=by
 obtain⟨A0,c0,h0,n0,m0,-⟩:=id h.l;obtain⟨A1,c1,h1,n1,m1,-⟩:=id h.r;obtain⟨A2,c2,h2,n2,m2,-⟩:=id h.k;obtain⟨A3,c3,h3,n3,m3,-⟩:=id h.q;obtain⟨A4,c4,h4,n4,m4,-⟩:=id h.g;obtain⟨A5,c5,h5,n5,m5,-⟩:=id h.a;rw[h0,h1,h2,h3,h4,h5];have hb1:=below_alloc w (.cells #[.int .i64 p.kind,.int .i64 p.mode,.int .i64 p.low,.int .i64 p.high,.int .i64 p.size,.int .i64 p.limit,.slice A0 p.left.length c0,.slice A1 p.right.length c1,.slice A2 p.lkeys.length c2,.slice A3 p.rkeys.length c3,.bool p.grouped,.slice A4 p.group.length c4,.slice A5 p.aggs.length c5] 25);clear h h0 h1 h2 h3 h4 h5 n0 n1 n2 n3 n4 n5 m0 m1 m2 m3 m4 m5;have HE:Hid (keepsB p 1=(p.mode==2||p.mode==4)):=Lib.hid rfl;cases hq:(p.mode==2)with
 |true=>
  rw[hq]at HE;go_enter Tryz.func49,Tryz.ntmps49
  go_wp2;go_ret;exact⟨by rw[HE.out];rfl,hb1⟩
 |false=>
  cases hq4:(p.mode==4)<;>rw[hq,hq4]at HE
  all_goals
   go_enter Tryz.func49,Tryz.ntmps49
   go_wp2;go_ret;exact⟨by rw[HE.out];rfl,hb1⟩
set_option maxHeartbeats 1000000 in
set_option maxRecDepth 10000 in
theorem keepsRight_any (p:Pl)(w:World)(h:p.ok w):
 Calls Tryz.prog 51 #[.agg #[.int .i64 p.kind,.int .i64 p.mode,.int .i64 p.low,.int .i64 p.high,.int .i64 p.size,.int .i64 p.limit,p.vl,p.vr,p.vk,p.vq,.bool p.grouped,p.vg,p.va]] w fun e w'=>e= .returned (.bool (keepsB p 2))∧Below w.heap.size w w':=by
 obtain⟨A0,c0,h0,n0,m0,-⟩:=id h.l;obtain⟨A1,c1,h1,n1,m1,-⟩:=id h.r;obtain⟨A2,c2,h2,n2,m2,-⟩:=id h.k;obtain⟨A3,c3,h3,n3,m3,-⟩:=id h.q;obtain⟨A4,c4,h4,n4,m4,-⟩:=id h.g;obtain⟨A5,c5,h5,n5,m5,-⟩:=id h.a;rw[h0,h1,h2,h3,h4,h5];have hb1:=below_alloc w (.cells #[.int .i64 p.kind,.int .i64 p.mode,.int .i64 p.low,.int .i64 p.high,.int .i64 p.size,.int .i64 p.limit,.slice A0 p.left.length c0,.slice A1 p.right.length c1,.slice A2 p.lkeys.length c2,.slice A3 p.rkeys.length c3,.bool p.grouped,.slice A4 p.group.length c4,.slice A5 p.aggs.length c5] 25);clear h h0 h1 h2 h3 h4 h5 n0 n1 n2 n3 n4 n5 m0 m1 m2 m3 m4 m5;have HE:Hid (keepsB p 2=(p.mode==3||p.mode==4)):=Lib.hid rfl;cases hq:(p.mode==3)with
 |true=>
  rw[hq]at HE;go_enter Tryz.func51,Tryz.ntmps51
  go_wp2;go_ret;exact⟨by rw[HE.out];rfl,hb1⟩
 |false=>
  cases hq4:(p.mode==4)<;>rw[hq,hq4]at HE
  all_goals
   go_enter Tryz.func51,Tryz.ntmps51
   go_wp2;go_ret;exact⟨by rw[HE.out];rfl,hb1⟩
end Go.Proofs.YtjhbeecmdgglgaaGreatDoor
namespace Go.Proofs.YtjhbeecmdgglgaaGreatDoor
structure Tl where
 v:Val
 n:Int
structure Gp where
 r:List Val
 n:Int
 bags:List (List Tl)
def allT (p:Pl):List Int:=p.left++p.right
def ownT (p:Pl):List Int:=p.group.map fun c=>(allT p).getD c.toNat 0
def nullG:Val:=⟨0,0,⟨#[]⟩⟩
def wrapI (n:Int):Int:=IntKind.i64.wrap n
end Go.Proofs.YtjhbeecmdgglgaaGreatDoor
namespace Go.Proofs.YtjhbeecmdgglgaaGreatDoor
open Go.RowKit
end Go.Proofs.YtjhbeecmdgglgaaGreatDoor
namespace Go.Proofs.YtjhbeecmdgglgaaGreatDoor
open Go.RowKit Go.Maps
def stepI (k:Int):Int:=if k=1∨k=4 then 1 else-1
theorem stepI_two (k:Int):stepI k=1∨stepI k= -1:=by unfold stepI;split<;>simp
set_option maxHeartbeats 1000000 in
theorem cstep_any (k:Int)(v:Value)(w:World)(h1:1≤k)(h4:k≤4):
 Calls Tryz.prog 72 #[.agg #[.int .i64 k,v]] w fun e w'=>e= .returned (.int .i64 (stepI k))∧Below w.heap.size w w':=by
 have hq:k=1∨k=2∨k=3∨k=4:=by omega
 have hB:=below_alloc w (.cells #[.int .i64 k,v] 48);rcases hq with rfl|rfl|rfl|rfl<;>
 ·go_enter Tryz.func72,Tryz.ntmps72
  go_wp2;go_ret;exact⟨rfl,hB⟩
structure GoodC (l:List Chn):Prop where
 few:l.length≤4096
 good: ∀c∈l,GoodR c.r∧1≤c.k∧c.k≤4
theorem err_zero {l:List Chn}{i:Nat}{c:Chn}(h:l[i]?=some c)(he:errAt l i=0):keyErr c.r=0∧1≤c.k∧c.k≤4:=by
 by_cases h1:c.k<1∨4<c.k
 ·rw[err_one h h1]at he;omega
 ·by_cases hy:keyErr c.r=0
  ·exact⟨hy,by omega,by omega⟩
  ·rw[err_two h (by omega) (by omega) hy]at he;exact absurd he hy
theorem form_errs {l:List Chn}(h:formC l=0):l.length≤4096∧ ∀i,i<l.length→errAt l i=0:=by
 have h0: ¬4096<l.length:=by
  intro h0;unfold formC at h;rw[if_pos h0]at h;omega
 refine⟨by omega,fun i=> ?_⟩
 induction i using Nat.strongRecOn with
 |ind i ih=>
  intro hi;by_cases e:errAt l i=0
  ·exact e
  ·have:=form_bad h0 hi (fun j hj=>ih j hj (by omega)) rfl e
   rw[h]at this;exact absurd this.symm e
theorem form_zero {l:List Chn}(hf:FineC l)(h:formC l=0):GoodC l:=by
 obtain⟨h1,h2⟩:=form_errs h;refine⟨h1,fun c hc=> ?_⟩;obtain⟨i,hi,rfl⟩:=List.mem_iff_getElem.1 hc;have:=err_zero (List.getElem?_eq_getElem hi) (h2 i hi);exact⟨goodR_of (hf.rows _ hc) this.1,this.2⟩
end Go.Proofs.YtjhbeecmdgglgaaGreatDoor
namespace Go.Proofs.YtjhbeecmdgglgaaGreatDoor
open Go.Lib (compareBytes)
structure GoodT (t:Int) (bag:List Tl):Prop where
 vals: ∀x∈bag,GoodR [x.v]∧(x.v.k=0∨x.v.k=t)∧1≤x.n
 rise:bag.Pairwise fun a b=>cmpV a.v b.v<0
def sumT (bag:List Tl):Int:=(bag.map (·.n)).sum
def BagOk (p:Pl) (a:Int×Int) (n:Int) (bag:List Tl):Prop:=(a.1=1∧bag=[])∨(a.1≠1∧GoodT ((allT p).getD a.2.toNat 0) bag∧sumT bag=n)
structure FineG (g:Gp):Prop where
 row:Fine g.r
 num: -9223372036854775808≤g.n∧g.n≤9223372036854775807
 bags: ∀b∈g.bags,∀x∈b,Fine [x.v]∧(-9223372036854775808≤x.n∧x.n≤9223372036854775807)
structure GoodG1 (p:Pl) (g:Gp):Prop where
 row:GoodR g.r
 len:g.r.length=(ownT p).length
 fit:((ownT p).zip g.r).all fitOne=true
 num:1≤g.n∧g.n≤1073741824
 bl:g.bags.length=p.aggs.length
 bags: ∀q∈p.aggs.zip g.bags,BagOk p q.1 g.n q.2
structure GoodGs (p:Pl) (G:List Gp):Prop where
 few:G.length≤4096
 each: ∀g∈G,GoodG1 p g
 rise:G.Pairwise fun a b=>rowsF a.r b.r<0
def cellsG (p:Pl) (r:List Val):List Val:=p.group.map fun c=>r.getD c.toNat nullG
def tallyG:List Tl→Val→Int→List Tl×Bool
 |[],v,n=>([⟨v,n⟩],decide (0<n))
 |x::l,v,n=>if cmpV x.v v<0 then(x::(tallyG l v n).1,(tallyG l v n).2)else if cmpV x.v v=0 then(if x.n+n=0 then l else⟨x.v,x.n+n⟩::l,true)else(⟨v,n⟩::x::l,decide (0<n))
def bagsG (r:List Val) (n:Int):List (Int×Int)→List (List Tl)→List (List Tl)×Bool
 |a::al,b::bs=>if a.1=1 then(b::(bagsG r n al bs).1,(bagsG r n al bs).2)
  else if(tallyG b (r.getD a.2.toNat nullG) n).2=true then((tallyG b (r.getD a.2.toNat nullG) n).1::(bagsG r n al bs).1,(bagsG r n al bs).2)else([],false)
 |_,_=>([],true)
structure TypedG (p:Pl) (r:List Val):Prop where
 good:GoodR r
 len:r.length=(allT p).length
 fit:allB fitOne ((allT p).zip r)=true
theorem typed_at {p:Pl}{r:List Val}(h:TypedG p r){c:Int}(h0:0≤c)(h1:c<(allT p).length): ∃x,r[c.toNat]?=some x∧(x.k=0∨x.k=(allT p).getD c.toNat 0):=by
 have hl:c.toNat<r.length:=by have:=h.len;omega
 have hl2:c.toNat<(allT p).length:=by omega
 refine⟨r[c.toNat],List.getElem?_eq_getElem hl,?_⟩;have h2:=List.all_eq_true.1 h.fit ((allT p)[c.toNat],r[c.toNat]) (List.mem_iff_getElem?.2 ⟨c.toNat,by rw[List.getElem?_zip_eq_some];exact⟨List.getElem?_eq_getElem hl2,List.getElem?_eq_getElem hl⟩⟩);unfold fitOne at h2;rw[Bool.or_eq_true,beq_iff_eq,beq_iff_eq]at h2;simpa[List.getD,hl2]using h2
theorem group_few {p:Pl}(hp:checkP p=0)(hg:p.grouped=true):p.group.length+p.aggs.length≤8∧1≤p.aggs.length∧p.aggs.length≤4:=by
 have h:=(check_ok hp).2.2.1;unfold countsB at h;rw[Bool.and_eq_true,if_pos hg,Bool.and_eq_true]at h;have h1:=btw_of h.2.1;have h2:=of_decide_eq_true h.2.2;omega
theorem cells_good {p:Pl}{r:List Val}(hp:checkP p=0)(hg:p.grouped=true)(h:TypedG p r):GoodR (cellsG p r)∧(cellsG p r).length=(ownT p).length∧((ownT p).zip (cellsG p r)).all fitOne=true:=by
 have hgr:=form_group (check_ok hp).2.2.2.2
 have hx: ∀c∈p.group,∃x,r[c.toNat]?=some x∧r.getD c.toNat nullG=x∧(x.k=0∨x.k=(allT p).getD c.toNat 0):=fun c hc=>by
  obtain⟨x,h1,h2⟩:=typed_at h (hgr c hc).1 (hgr c hc).2;exact⟨x,h1,by simp[List.getD,h1],h2⟩
 refine⟨⟨fun y hy=> ?_,?_⟩,by simp[cellsG,ownT],?_⟩
 ·obtain⟨c,hc,rfl⟩:=List.mem_map.1 hy
  obtain⟨x,h1,h2,-⟩:=hx c hc;rw[h2];exact h.good.good x (List.mem_of_getElem? h1)
 ·have:=group_few hp hg
  simp only[cellsG,List.length_map];omega
 ·rw[List.all_eq_true]
  intro q hq;unfold cellsG ownT at hq;rw[List.zip_map']at hq;obtain⟨c,hc,rfl⟩:=List.mem_map.1 hq;obtain⟨x,-,h2,h3⟩:=hx c hc;unfold fitOne;rw[h2,Bool.or_eq_true,beq_iff_eq,beq_iff_eq];exact h3
end Go.Proofs.YtjhbeecmdgglgaaGreatDoor
namespace Go.Proofs.YtjhbeecmdgglgaaGreatDoor
open Go.Lib (compareBytes)
def stepF (fn:Int) (out:Val) (q:Val×Int):Val:=
 if q.1.k=0 then out else if fn=2 then⟨2,wrapI (out.n+wrapI (q.1.n*q.2)),⟨#[]⟩⟩else if out.k=0∨(fn=3∧cmpV q.1 out<0)∨(fn=4∧0<cmpV q.1 out)then q.1 else out
def cntF (n:Int) (q:Val×Int):Int:=wrapI (n+q.2)
def figF (fn:Int) (l:List (Val×Int)):Val:=if fn=1 then⟨2,l.foldl cntF 0,⟨#[]⟩⟩else l.foldl (stepF fn) nullG
structure RowsG (G:List Gp):Prop where
 good: ∀g∈G,GoodR g.r
 rise:G.Pairwise fun a b=>rowsF a.r b.r<0
theorem RowsG.tail {g:Gp}{G:List Gp}(h:RowsG (g::G)):RowsG G:=⟨fun x hx=>h.good x (by simp[hx]),(List.pairwise_cons.1 h.rise).2⟩
theorem RowsG.less {g:Gp}{G:List Gp}(h:RowsG (g::G)){x:Gp}(hx:x∈G):rowsF g.r x.r<0:=(List.pairwise_cons.1 h.rise).1 x hx
structure Union (G H:List Gp) (U:List (List Val)):Prop where
 rise:U.Pairwise fun a b=>rowsF a b<0
 mem: ∀r,r∈U↔(∃g∈G,g.r=r)∨ ∃g∈H,g.r=r
theorem Union.good {G H:List Gp}{U:List (List Val)}(h:Union G H U)(hG:RowsG G)(hH:RowsG H){r:List Val}(hr:r∈U):GoodR r:=by
 rcases(h.mem r).1 hr with⟨g,hg,rfl⟩|⟨g,hg,rfl⟩
 ·exact hG.good g hg
 ·exact hH.good g hg
end Go.Proofs.YtjhbeecmdgglgaaGreatDoor
namespace Go.Proofs.YtjhbeecmdgglgaaGreatDoor
open Go.ChangeShapes Go.WideShapes Go.RowKit Go.Deep
section
variable {H:Type} {enc:TypeId×Value→H} {P:Program} {w:World} {base:Nat} {spare:Nat→Bool} {held:Bool}
end
end Go.Proofs.YtjhbeecmdgglgaaGreatDoor
namespace Go.Proofs.YtjhbeecmdgglgaaGreatDoor
open Go.RowKit
def Tl.cells (x:Tl):List Value:=[.int .i64 x.v.k,.int .i64 x.v.n,.string x.v.s,.int .i64 x.n]
theorem Tl.cells_len (x:Tl):x.cells.length=4:=rfl
def tlCells (l:List Tl):List Value:=l.flatMap Tl.cells
def Tl.agg (x:Tl):Value:= .agg #[.int .i64 x.v.k,.int .i64 x.v.n,.string x.v.s,.int .i64 x.n]
theorem tlCells_app (a b:List Tl):tlCells (a++b)=tlCells a++tlCells b:=List.flatMap_append
structure Gm where
 v:Value
 r:List Val
 n:Int
 vb:Value
 bags:List (Value×List Tl)
def Gm.gp (x:Gm):Gp:=⟨x.r,x.n,x.bags.map (·.2)⟩
def Gm.cells (x:Gm):List Value:=[x.v,.int .i64 x.n,x.vb]
theorem Gm.cells_len (x:Gm):x.cells.length=3:=rfl
def gmCells (l:List Gm):List Value:=l.flatMap Gm.cells
theorem gmCells_app (a b:List Gm):gmCells (a++b)=gmCells a++gmCells b:=List.flatMap_append
def Gm.agg (x:Gm):Value:= .agg #[x.v,.int .i64 x.n,x.vb]
structure Gm.ok (w:World) (x:Gm):Prop where
 row:Sl w x.v x.r.length (rowCells x.r)
 sl:Sl w x.vb x.bags.length (x.bags.map (·.1))
 bags: ∀q∈x.bags,Sl w q.1 q.2.length (tlCells q.2)
theorem Gm.ok.below {w w':World}{x:Gm}(h:x.ok w)(hb:Below w.heap.size w w'):x.ok w':=⟨h.row.below hb,h.sl.below hb,fun q hq=>(h.bags q hq).below hb⟩
theorem Gm.ok.drew {w:World}{x:Gm}(h:x.ok w):x.ok w.drew:=⟨h.row,h.sl,h.bags⟩
structure Gms (w:World) (v:Value) (l:List Gm):Prop where
 sl:Sl w v l.length (gmCells l)
 each: ∀x∈l,x.ok w
theorem Gms.below {w w':World}{v:Value}{l:List Gm}(h:Gms w v l)(hb:Below w.heap.size w w'):Gms w' v l:=⟨h.sl.below hb,fun x hx=>(h.each x hx).below hb⟩
theorem Gms.drew {w:World}{v:Value}{l:List Gm}(h:Gms w v l):Gms w.drew v l:=⟨h.sl,fun x hx=>(h.each x hx).drew⟩
theorem Gms.nil (w:World):Gms w (.slice none 0 0) []:=⟨Sl.nil_ w,nofun⟩
structure Gm.fit (x:Gm):Prop where
 fine:FineG x.gp
 lbag: ∀q∈x.bags,q.2.length≤4398046511104
 lbags:x.bags.length≤5864062014806
 len:x.r.length≤4398046511104
section
open Go.ChangeShapes Go.WideShapes Go.Deep
variable {H:Type} {enc:TypeId×Value→H} {w:World} {base:Nat} {spare:Nat→Bool} {held:Bool}
end
end Go.Proofs.YtjhbeecmdgglgaaGreatDoor
namespace Go.Proofs.YtjhbeecmdgglgaaGreatDoor
open Go.RowKit Go.Maps
end Go.Proofs.YtjhbeecmdgglgaaGreatDoor
