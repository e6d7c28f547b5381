/-The arguments of the laws on plans: a plan, a row. The arguments of the laws on changes: a view, changes (apart from the laws). The arguments of the l -/
import Derived.Test.YtjhbeecmdgglgaaGreatDoorGrpX17
import Derived.Test.YtjhbeecmdgglgaaGreatDoorGrpX42
import Derived.SizedLaws
import Derived.Deep.Fields
import Derived.Test.YtjhbeecmdgglgaaGreatDoorGrpX14
import Derived.Test.YtjhbeecmdgglgaaGreatDoorGrpX8
import Derived.Test.YtjhbeecmdgglgaaGreatDoorGrpX23
import Derived.Test.YtjhbeecmdgglgaaGreatDoorGrpX18
import Derived.Test.YtjhbeecmdgglgaaGreatDoorGrpX37
set_option linter.unusedSimpArgs false
set_option linter.unusedVariables false
namespace Go.Proofs.YtjhbeecmdgglgaaGreatDoor
open Go.ChangeShapes Go.WideShapes Go.RowKit Go.Deep
section
variable {H:Type} {enc:TypeId×Value→H} {P:Program} {w:World} {base:Nat} {spare:Nat→Bool} {held:Bool}
end
section
variable {H:Type} {enc:TypeId×Value→H} {w:World} {base:Nat} {spare:Nat→Bool} {held:Bool}
end
section
variable {H:Type} {enc:TypeId×Value→H} {P:Program} {w:World} {base:Nat} {spare:Nat→Bool} {held:Bool}
theorem flat_ints (l:List Int):l.flatMap (fun n=>[Value.int .i64 n])=intCells l:=by
 induction l with
 |nil=>rfl
 |cons a l ih=>rw[List.flatMap_cons,ih];rfl
end
section
variable {H:Type} {enc:TypeId×Value→H} {w:World} {base:Nat} {spare:Nat→Bool} {held:Bool}
set_option maxRecDepth 100000 in
theorem ints_trod {fuel:Nat}{cs:List Value}{x:DataW H×List MemPlace}(h:DataW.trod enc Tryz.prog w base spare held fuel 22 cs=some x): ∃(v:Value) (l:List Int),cs=[v]∧Sl w v l.length (intCells l)∧I64 l:=by
 obtain⟨v,l,e,hs,hq⟩:=open_flatQ (f:=fun n:Int=>[Value.int .i64 n]) (Q:=fun n=> -9223372036854775808≤n∧n≤9223372036854775807) (size:=1) (fun _=>rfl) (by omega) Tryz.underlying22 (by kernel_rfl)
  (fun fuel cs x h=>by obtain⟨s,e,-,q⟩:=DataW.trod_int Tryz.underlying3 h;exact⟨s,e,wf_i64 q⟩) h
 rw[flat_ints]at hs;exact⟨v,l,e,hs,hq⟩
set_option maxRecDepth 100000 in
theorem agg_trod (fuel:Nat)(cs:List Value)(x:DataW H×List MemPlace)(h:DataW.trod enc Tryz.prog w base spare held fuel 94 cs=some x): ∃a:Int×Int,cs=aggCell a∧(-9223372036854775808≤a.1∧a.1≤9223372036854775807)∧(-9223372036854775808≤a.2∧a.2≤9223372036854775807):=by
 obtain⟨n,hl,hf⟩:=struct_one Tryz.underlying94 (hone_of (by kernel_rfl)) (by kernel_rfl) h;obtain⟨y0,h0⟩:=hf 0 _ rfl;obtain⟨y1,h1⟩:=hf 1 _ rfl;obtain⟨s0,e0,-,q0⟩:=DataW.trod_int Tryz.underlying3 h0;obtain⟨s1,e1,-,q1⟩:=DataW.trod_int Tryz.underlying3 h1
 match cs,hl with
 |[a,b],_=>
  simp at e0 e1;subst e0 e1;exact⟨(s0,s1),rfl,wf_i64 q0,wf_i64 q1⟩
set_option maxRecDepth 100000 in
theorem plan_trod (fuel:Nat)(cs:List Value)(x:DataW H×List MemPlace)(h:DataW.trod enc Tryz.prog w base spare held fuel 25 cs=some x):
 ∃p:Pl,cs=[.int .i64 p.kind,.int .i64 p.mode,.int .i64 p.low,.int .i64 p.high,.int .i64 p.size,.int .i64 p.limit,p.vl,p.vr,p.vk,p.vq,.bool p.grouped,p.vg,p.va]∧p.ok w∧p.fit:=by
 obtain⟨n,hl,hf⟩:=struct_one Tryz.underlying25 (hone_of (by kernel_rfl)) (by kernel_rfl) h;obtain⟨y0,h0⟩:=hf 0 _ rfl;obtain⟨y1,h1⟩:=hf 1 _ rfl;obtain⟨y2,h2⟩:=hf 2 _ rfl;obtain⟨y3,h3⟩:=hf 3 _ rfl;obtain⟨y4,h4⟩:=hf 4 _ rfl;obtain⟨y5,h5⟩:=hf 5 _ rfl;obtain⟨y6,h6⟩:=hf 6 _ rfl;obtain⟨y7,h7⟩:=hf 7 _ rfl;obtain⟨y8,h8⟩:=hf 8 _ rfl;obtain⟨y9,h9⟩:=hf 9 _ rfl;obtain⟨y10,h10⟩:=hf 10 _ rfl;obtain⟨y11,h11⟩:=hf 11 _ rfl;obtain⟨y12,h12⟩:=hf 12 _ rfl;obtain⟨s0,e0,-,q0⟩:=DataW.trod_int Tryz.underlying3 h0;obtain⟨s1,e1,-,q1⟩:=DataW.trod_int Tryz.underlying3 h1;obtain⟨s2,e2,-,q2⟩:=DataW.trod_int Tryz.underlying3 h2;obtain⟨s3,e3,-,q3⟩:=DataW.trod_int Tryz.underlying3 h3;obtain⟨s4,e4,-,q4⟩:=DataW.trod_int Tryz.underlying3 h4;obtain⟨s5,e5,-,q5⟩:=DataW.trod_int Tryz.underlying3 h5;obtain⟨v6,l6,e6,hs6,q6⟩:=ints_trod h6;obtain⟨v7,l7,e7,hs7,q7⟩:=ints_trod h7;obtain⟨v8,l8,e8,hs8,q8⟩:=ints_trod h8;obtain⟨v9,l9,e9,hs9,q9⟩:=ints_trod h9;obtain⟨s10,e10,-⟩:=DataW.trod_bool Tryz.underlying4 h10;obtain⟨v11,l11,e11,hs11,q11⟩:=ints_trod h11;obtain⟨v12,l12,e12,hs12,q12⟩:=open_flatQ (f:=aggCell) (size:=2) aggCell_len (by omega) Tryz.underlying23 (by kernel_rfl) agg_trod h12
 match cs,hl with
 |[a0,a1,a2,a3,a4,a5,a6,a7,a8,a9,a10,a11,a12],_=>
  simp at e0 e1 e2 e3 e4 e5 e6 e7 e8 e9 e10 e11 e12;subst e0 e1 e2 e3 e4 e5 e6 e7 e8 e9 e10 e11 e12;exact⟨⟨s0,s1,s2,s3,s4,s5,a6,a7,a8,a9,s10,a11,a12,l6,l7,l8,l9,l11,l12⟩,rfl,⟨hs6,hs7,hs8,hs9,hs11,hs12⟩,⟨q6,q7,q8,q9,q11,q12⟩⟩
set_option maxRecDepth 100000 in
theorem open_plan {r:Reach}{b0:Nat}{v:Value}{d:DataW H}{p:List MemPlace}(hv:Value.okWide Tryz.prog w r b0 25 v)(h:DataW.Trod enc Tryz.prog w base spare held 25 v d p):
 ∃x:Pl,v= .agg #[.int .i64 x.kind,.int .i64 x.mode,.int .i64 x.low,.int .i64 x.high,.int .i64 x.size,.int .i64 x.limit,x.vl,x.vr,x.vk,x.vq,.bool x.grouped,x.vg,x.va]∧x.ok w∧x.fit:=by
 obtain⟨cs,rfl,-⟩:=okWide_struct Tryz.underlying25 hv;obtain⟨fuel,hf⟩:=h;obtain⟨x,e,hx⟩:=plan_trod _ _ _ hf;refine⟨x,?_,hx⟩;have:cs.toList=[.int .i64 x.kind,.int .i64 x.mode,.int .i64 x.low,.int .i64 x.high,.int .i64 x.size,.int .i64 x.limit,x.vl,x.vr,x.vk,x.vq,.bool x.grouped,x.vg,x.va]:=e;rw[←Array.toArray_toList (xs:=cs),this]
end
end Go.Proofs.YtjhbeecmdgglgaaGreatDoor
namespace Go.Proofs.YtjhbeecmdgglgaaGreatDoor
open Go.ChangeShapes Go.WideShapes Go.RowKit Go.Deep
section
variable {H:Type} {enc:TypeId×Value→H} {w:World} {base:Nat} {spare:Nat→Bool} {held:Bool}
set_option maxRecDepth 100000 in
theorem row_trod {fuel:Nat}{cs:List Value}{x:DataW H×List MemPlace}(h:DataW.trod enc Tryz.prog w base spare held fuel 43 cs=some x): ∃(v:Value) (l:List Val),cs=[v]∧Sl w v l.length (rowCells l)∧Fine l:=by
 obtain⟨v,l,e,hs,hq⟩:=open_flatQ (f:=Val.cells) (Q:=Val.ok) (size:=3) Val.cells_len (by omega) Tryz.underlying43 (by kernel_rfl) val_trod h;exact⟨v,l,e,hs,⟨fun x hx=>(hq x hx).2.2.2.2,fun x hx=>⟨(hq x hx).2.2.1,(hq x hx).2.2.2.1⟩⟩⟩
set_option maxRecDepth 100000 in
theorem count_trod (fuel:Nat)(cs:List Value)(x:DataW H×List MemPlace)(h:DataW.trod enc Tryz.prog w base spare held fuel 45 cs=some x): ∃c:Cnt,cs=c.cells∧Sl w c.v c.r.length (rowCells c.r)∧Fine c.r∧(-9223372036854775808≤c.n∧c.n≤9223372036854775807):=by
 obtain⟨n,hl,hf⟩:=struct_one Tryz.underlying45 (hone_of (by kernel_rfl)) (by kernel_rfl) h;obtain⟨y0,h0⟩:=hf 0 _ rfl;obtain⟨y1,h1⟩:=hf 1 _ rfl;obtain⟨v,l,e0,hs,hfi⟩:=row_trod h0;obtain⟨s1,e1,-,q1⟩:=DataW.trod_int Tryz.underlying3 h1
 match cs,hl with
 |[a,b],_=>
  simp at e0 e1;subst e0 e1;exact⟨⟨a,l,s1⟩,rfl,hs,hfi,wf_i64 q1⟩
set_option maxRecDepth 100000 in
theorem open_view {r:Reach}{b0:Nat}{v:Value}{d:DataW H}{p:List MemPlace}(hv:Value.okWide Tryz.prog w r b0 27 v)(h:DataW.Trod enc Tryz.prog w base spare held 27 v d p):
 ∃l:List Cnt,View w v l∧FineV l:=by
 obtain⟨a,len,cap,rfl⟩:=okWide_slice Tryz.underlying27 hv;obtain⟨fuel,hf⟩:=h;obtain⟨u,l,e,hsl,hq⟩:=open_flatQ (f:=Cnt.cells) (Q:=fun c=>Sl w c.v c.r.length (rowCells c.r)∧Fine c.r∧(-9223372036854775808≤c.n∧c.n≤9223372036854775807)) (size:=2) Cnt.cells_len (by omega) Tryz.underlying27 (by kernel_rfl) count_trod hf;have:(Value.slice a len cap)=u:=by simpa[Value.cells]using e
 rw[this];exact⟨l,⟨hsl,fun c hc=>(hq c hc).1⟩,⟨fun c hc=>(hq c hc).2.1,fun c hc=>(hq c hc).2.2⟩⟩
end
end Go.Proofs.YtjhbeecmdgglgaaGreatDoor
namespace Go.Proofs.YtjhbeecmdgglgaaGreatDoor
open Go.ChangeShapes Go.WideShapes Go.RowKit Go.Deep
section
variable {H:Type} {enc:TypeId×Value→H} {w:World} {base:Nat} {spare:Nat→Bool} {held:Bool}
set_option maxRecDepth 100000 in
theorem stamp_trod (fuel:Nat)(cs:List Value)(x:DataW H×List MemPlace)(h:DataW.trod enc Tryz.prog w base spare held fuel 53 cs=some x): ∃c:Chn,cs=c.cells∧Sl w c.v c.r.length (rowCells c.r)∧Fine c.r∧(-9223372036854775808≤c.k∧c.k≤9223372036854775807):=by
 obtain⟨n,hl,hf⟩:=struct_one Tryz.underlying53 (hone_of (by kernel_rfl)) (by kernel_rfl) h;obtain⟨y0,h0⟩:=hf 0 _ rfl;obtain⟨y1,h1⟩:=hf 1 _ rfl;obtain⟨v,l,e1,hs,hfi⟩:=row_trod h1;obtain⟨s0,e0,-,q0⟩:=DataW.trod_int Tryz.underlying3 h0
 match cs,hl with
 |[a,b],_=>
  simp at e0 e1;subst e0 e1;exact⟨⟨b,l,s0⟩,rfl,hs,hfi,wf_i64 q0⟩
set_option maxRecDepth 100000 in
theorem open_stamps {r:Reach}{b0:Nat}{v:Value}{d:DataW H}{p:List MemPlace}(hv:Value.okWide Tryz.prog w r b0 26 v)(h:DataW.Trod enc Tryz.prog w base spare held 26 v d p):
 ∃l:List Chn,Chs w v l∧FineC l:=by
 obtain⟨a,len,cap,rfl⟩:=okWide_slice Tryz.underlying26 hv;obtain⟨fuel,hf⟩:=h;obtain⟨u,l,e,hsl,hq⟩:=open_flatQ (f:=Chn.cells) (Q:=fun c=>Sl w c.v c.r.length (rowCells c.r)∧Fine c.r∧(-9223372036854775808≤c.k∧c.k≤9223372036854775807)) (size:=2) Chn.cells_len (by omega) Tryz.underlying26 (by kernel_rfl) stamp_trod hf;have:(Value.slice a len cap)=u:=by simpa[Value.cells]using e
 rw[this];exact⟨l,⟨hsl,fun c hc=>(hq c hc).1⟩,⟨fun c hc=>(hq c hc).2.1,fun c hc=>(hq c hc).2.2⟩⟩
end
end Go.Proofs.YtjhbeecmdgglgaaGreatDoor
namespace Go.Proofs.YtjhbeecmdgglgaaGreatDoor
open Go.RowKit Go.Maps
end Go.Proofs.YtjhbeecmdgglgaaGreatDoor
namespace Go.Proofs.YtjhbeecmdgglgaaGreatDoor
open Go.RowKit Go.Maps
theorem InForm.rows {m:List Chn}(h:InForm m): ∀c∈ac m,GoodR c.2:=fun c hc=>by obtain⟨d,hd,rfl⟩:=List.mem_map.1 hc;exact(h.good d hd).1
theorem fold_good0 {l:List Cnt}{m:List Chn}(h:GoodA (av l))(hm:InForm m):foldS l m=foldR (av l) 0 (ac m):=by
 unfold foldS;rw[if_neg (fun h'=>h' (chk_of h)),if_neg (fun h'=>h' hm.form)]
theorem foldS_ok {l:List Cnt}{m:List Chn}(hf:FineV l)(hm:FineC m)(h:(foldS l m).2.2=0):GoodA (av l)∧InForm m∧foldS l m=foldR (av l) 0 (ac m):=by
 unfold foldS at h;by_cases h1:chkV l=0
 ·rw[if_neg (fun h=>h h1)]at h
  by_cases h2:formC m=0
  ·exact⟨(chk_zero hf h1).a,inForm hm h2,fold_good0 (chk_zero hf h1).a (inForm hm h2)⟩
  ·rw[if_pos h2]at h;exact absurd h h2
 ·rw[if_pos h1]at h;exact absurd h h1
set_option maxHeartbeats 4000000 in
set_option maxRecDepth 10000 in
theorem choose_any (cut n:Int)(w:World)(hc: -9223372036854775808≤cut∧cut≤9223372036854775807)(hn: -9223372036854775808≤n∧n≤9223372036854775807)(h0:n≠0):
 Calls Tryz.prog 28 #[.int .i64 cut,.int .i64 n] w fun e w'=> ∃k,e= .returned (.int .i64 k)∧(1≤n→0≤k∧k<n)∧Below w.heap.size w w':=by
 have hz:=bneT h0;have hz':=beqF h0
 have key: ∀x:Int,0≤x→x≤9223372036854775807→(1≤n→0≤x.tmod n∧x.tmod n<n)∧IntKind.i64.wrap (x.tmod n)=x.tmod n:=by
  intro x h1 h2;have e1:0≤x.tmod n:=Int.tmod_nonneg n h1
  have e2:x.tmod n≤x:=by
   have:=Int.natAbs_tmod x n;have h3:(x.natAbs%n.natAbs)≤x.natAbs:=Nat.mod_le _ _;omega
  refine⟨fun hn=>⟨e1,Int.tmod_lt_of_pos x (by omega)⟩,?_⟩;rw[IntKind.wrap_i64];omega
 by_cases hneg:cut<0
 ·have hw1:IntKind.i64.wrap (cut+1)=cut+1:=by rw[IntKind.wrap_i64];omega
  have hw2:IntKind.i64.wrap (-(cut+1))= -(cut+1):=by rw[IntKind.wrap_i64];omega
  obtain⟨k1,k2⟩:=key (-(cut+1)) (by omega) (by omega);have K1:=Lib.hid k1;clear k1 key;go_enter Tryz.func28,Tryz.ntmps28
  go_wp2;go_ret;exact⟨_,rfl,fun h=>by have:=K1.out h;rwa[Int.neg_tmod]at this,Below.refl _ _⟩
 ·obtain⟨k1,k2⟩:=key cut (by omega) (by omega)
  have K1:=Lib.hid k1;clear k1 key;go_enter Tryz.func28,Tryz.ntmps28
  go_wp2;go_ret;exact⟨_,rfl,fun h=>⟨Int.emod_nonneg _ (by omega),Int.emod_lt_of_pos _ (by omega)⟩,Below.refl _ _⟩
theorem Chs.take {w:World}{A:Option Addr}{c:Nat}{m:List Chn}(h:Chs w (.slice A m.length c) m){k:Nat}(hk:k≤m.length):Chs w (.slice A k c) (m.take k):=by
 have h1:=h.sl.take (size:=2) hk;rw[show(chnCells m).take (k*2)=chnCells (m.take k)from flat_take Chn.cells_len m k]at h1;exact⟨by rw[List.length_take,Nat.min_eq_left hk];exact h1,fun d hd=>h.rows d (List.mem_of_mem_take hd)⟩
theorem Chs.drop {w:World}{A:Option Addr}{c:Nat}{m:List Chn}(h:Chs w (.slice A m.length c) m){k:Nat}(hk:k≤m.length):
 Chs w (.slice (if c=k then A else A.map (·.add (k*2))) (m.length-k) (c-k)) (m.drop k):=by
 have h1:=h.sl.drop (size:=2) (flat_len Chn.cells_len m) hk;rw[show(chnCells m).drop (k*2)=chnCells (m.drop k)from flat_drop Chn.cells_len m k]at h1;exact⟨by rw[List.length_drop];exact h1,fun d hd=>h.rows d (List.mem_of_mem_drop hd)⟩
theorem fine_take {m:List Chn}(h:FineC m)(k:Nat):FineC (m.take k):=⟨fun c hc=>h.rows c (List.mem_of_mem_take hc),fun c hc=>h.nums c (List.mem_of_mem_take hc)⟩
theorem fine_drop {m:List Chn}(h:FineC m)(k:Nat):FineC (m.drop k):=⟨fun c hc=>h.rows c (List.mem_of_mem_drop hc),fun c hc=>h.nums c (List.mem_of_mem_drop hc)⟩
theorem ac_take (m:List Chn)(k:Nat):ac (m.take k)=(ac m).take k:=by unfold ac;rw[List.map_take]
theorem ac_drop (m:List Chn)(k:Nat):ac (m.drop k)=(ac m).drop k:=by unfold ac;rw[List.map_drop]
theorem fold_cut {A:AV}{L:KL}(hg: ∀c∈L,GoodR c.2)(hA:GoodA A)(h:(foldR A 0 L).2.2=0)(k:Nat):
 (foldR A 0 (L.take k)).2.2=0∧GoodA (foldR A 0 (L.take k)).1∧foldR (foldR A 0 (L.take k)).1 0 (L.drop k)=((foldR A 0 L).1,0,0):=by
 have h1:L.take k++L.drop k=L:=List.take_append_drop k L;have h2:(foldR A 0 (L.take k)).2.2=0:=fold_head (M:=L.drop k) (by rw[h1];exact h);have h3:=fold_app (L.take k) (L.drop k) A 0 h2;rw[h1]at h3;refine⟨h2,fold_good _ A 0 hA (fun c hc=>hg c (List.mem_of_mem_take hc)) h2,?_⟩;have h4:(foldR (foldR A 0 (L.take k)).1 (0+(L.take k).length) (L.drop k)).2.2=0:=by rw[←h3];exact h
 rw[fold_any_place _ _ _ 0 h4,←h3];have h5:=fold_place L A 0 h;generalize foldR A 0 L=S at h h5;obtain⟨a,b,c⟩:=S;simp only at h h5;rw[h,h5]
end Go.Proofs.YtjhbeecmdgglgaaGreatDoor
