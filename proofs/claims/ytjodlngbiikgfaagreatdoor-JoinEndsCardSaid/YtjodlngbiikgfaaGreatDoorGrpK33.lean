/-The arguments of the laws on plans: a plan, a row. The arguments of the laws on joins: events. -/
import Derived.Test.YtjodlngbiikgfaaGreatDoorGrpK10
import Derived.Test.YtjodlngbiikgfaaGreatDoorGrpK32
import Derived.SizedLaws
import Derived.Deep.Fields
import Derived.Test.YtjodlngbiikgfaaGreatDoorGrpK31
set_option linter.unusedSimpArgs false
set_option linter.unusedVariables false
namespace Go.Proofs.YtjodlngbiikgfaaGreatDoor
open Go.ChangeShapes Go.WideShapes Go.RowKit Go.Deep
section
variable {H:Type} {enc:TypeId×Value→H} {P:Program} {w:World} {base:Nat} {spare:Nat→Bool} {held:Bool}
end
section
variable {H:Type} {enc:TypeId×Value→H} {w:World} {base:Nat} {spare:Nat→Bool} {held:Bool}
end
section
variable {H:Type} {enc:TypeId×Value→H} {P:Program} {w:World} {base:Nat} {spare:Nat→Bool} {held:Bool}
theorem flat_ints (l:List Int):l.flatMap (fun n=>[Value.int .i64 n])=intCells l:=by
 induction l with
 |nil=>rfl
 |cons a l ih=>rw[List.flatMap_cons,ih];rfl
end
section
variable {H:Type} {enc:TypeId×Value→H} {w:World} {base:Nat} {spare:Nat→Bool} {held:Bool}
set_option maxRecDepth 100000 in
theorem ints_trod {fuel:Nat}{cs:List Value}{x:DataW H×List MemPlace}(h:DataW.trod enc Tryz.prog w base spare held fuel 22 cs=some x): ∃(v:Value) (l:List Int),cs=[v]∧Sl w v l.length (intCells l)∧I64 l:=by
 obtain⟨v,l,e,hs,hq⟩:=open_flatQ (f:=fun n:Int=>[Value.int .i64 n]) (Q:=fun n=> -9223372036854775808≤n∧n≤9223372036854775807) (size:=1) (fun _=>rfl) (by omega) Tryz.underlying22 (by kernel_rfl)
  (fun fuel cs x h=>by obtain⟨s,e,-,q⟩:=DataW.trod_int Tryz.underlying3 h;exact⟨s,e,wf_i64 q⟩) h
 rw[flat_ints]at hs;exact⟨v,l,e,hs,hq⟩
set_option maxRecDepth 100000 in
theorem agg_trod (fuel:Nat)(cs:List Value)(x:DataW H×List MemPlace)(h:DataW.trod enc Tryz.prog w base spare held fuel 78 cs=some x): ∃a:Int×Int,cs=aggCell a∧(-9223372036854775808≤a.1∧a.1≤9223372036854775807)∧(-9223372036854775808≤a.2∧a.2≤9223372036854775807):=by
 obtain⟨n,hl,hf⟩:=struct_one Tryz.underlying78 (hone_of (by kernel_rfl)) (by kernel_rfl) h;obtain⟨y0,h0⟩:=hf 0 _ rfl;obtain⟨y1,h1⟩:=hf 1 _ rfl;obtain⟨s0,e0,-,q0⟩:=DataW.trod_int Tryz.underlying3 h0;obtain⟨s1,e1,-,q1⟩:=DataW.trod_int Tryz.underlying3 h1
 match cs,hl with
 |[a,b],_=>
  simp at e0 e1;subst e0 e1;exact⟨(s0,s1),rfl,wf_i64 q0,wf_i64 q1⟩
set_option maxRecDepth 100000 in
theorem plan_trod (fuel:Nat)(cs:List Value)(x:DataW H×List MemPlace)(h:DataW.trod enc Tryz.prog w base spare held fuel 25 cs=some x):
 ∃p:Pl,cs=[.int .i64 p.kind,.int .i64 p.mode,.int .i64 p.low,.int .i64 p.high,.int .i64 p.size,.int .i64 p.limit,p.vl,p.vr,p.vk,p.vq,.bool p.grouped,p.vg,p.va]∧p.ok w∧p.fit:=by
 obtain⟨n,hl,hf⟩:=struct_one Tryz.underlying25 (hone_of (by kernel_rfl)) (by kernel_rfl) h;obtain⟨y0,h0⟩:=hf 0 _ rfl;obtain⟨y1,h1⟩:=hf 1 _ rfl;obtain⟨y2,h2⟩:=hf 2 _ rfl;obtain⟨y3,h3⟩:=hf 3 _ rfl;obtain⟨y4,h4⟩:=hf 4 _ rfl;obtain⟨y5,h5⟩:=hf 5 _ rfl;obtain⟨y6,h6⟩:=hf 6 _ rfl;obtain⟨y7,h7⟩:=hf 7 _ rfl;obtain⟨y8,h8⟩:=hf 8 _ rfl;obtain⟨y9,h9⟩:=hf 9 _ rfl;obtain⟨y10,h10⟩:=hf 10 _ rfl;obtain⟨y11,h11⟩:=hf 11 _ rfl;obtain⟨y12,h12⟩:=hf 12 _ rfl;obtain⟨s0,e0,-,q0⟩:=DataW.trod_int Tryz.underlying3 h0;obtain⟨s1,e1,-,q1⟩:=DataW.trod_int Tryz.underlying3 h1;obtain⟨s2,e2,-,q2⟩:=DataW.trod_int Tryz.underlying3 h2;obtain⟨s3,e3,-,q3⟩:=DataW.trod_int Tryz.underlying3 h3;obtain⟨s4,e4,-,q4⟩:=DataW.trod_int Tryz.underlying3 h4;obtain⟨s5,e5,-,q5⟩:=DataW.trod_int Tryz.underlying3 h5;obtain⟨v6,l6,e6,hs6,q6⟩:=ints_trod h6;obtain⟨v7,l7,e7,hs7,q7⟩:=ints_trod h7;obtain⟨v8,l8,e8,hs8,q8⟩:=ints_trod h8;obtain⟨v9,l9,e9,hs9,q9⟩:=ints_trod h9;obtain⟨s10,e10,-⟩:=DataW.trod_bool Tryz.underlying4 h10;obtain⟨v11,l11,e11,hs11,q11⟩:=ints_trod h11;obtain⟨v12,l12,e12,hs12,q12⟩:=open_flatQ (f:=aggCell) (size:=2) aggCell_len (by omega) Tryz.underlying23 (by kernel_rfl) agg_trod h12
 match cs,hl with
 |[a0,a1,a2,a3,a4,a5,a6,a7,a8,a9,a10,a11,a12],_=>
  simp at e0 e1 e2 e3 e4 e5 e6 e7 e8 e9 e10 e11 e12;subst e0 e1 e2 e3 e4 e5 e6 e7 e8 e9 e10 e11 e12;exact⟨⟨s0,s1,s2,s3,s4,s5,a6,a7,a8,a9,s10,a11,a12,l6,l7,l8,l9,l11,l12⟩,rfl,⟨hs6,hs7,hs8,hs9,hs11,hs12⟩,⟨q6,q7,q8,q9,q11,q12⟩⟩
set_option maxRecDepth 100000 in
theorem open_plan {r:Reach}{b0:Nat}{v:Value}{d:DataW H}{p:List MemPlace}(hv:Value.okWide Tryz.prog w r b0 25 v)(h:DataW.Trod enc Tryz.prog w base spare held 25 v d p):
 ∃x:Pl,v= .agg #[.int .i64 x.kind,.int .i64 x.mode,.int .i64 x.low,.int .i64 x.high,.int .i64 x.size,.int .i64 x.limit,x.vl,x.vr,x.vk,x.vq,.bool x.grouped,x.vg,x.va]∧x.ok w∧x.fit:=by
 obtain⟨cs,rfl,-⟩:=okWide_struct Tryz.underlying25 hv;obtain⟨fuel,hf⟩:=h;obtain⟨x,e,hx⟩:=plan_trod _ _ _ hf;refine⟨x,?_,hx⟩;have:cs.toList=[.int .i64 x.kind,.int .i64 x.mode,.int .i64 x.low,.int .i64 x.high,.int .i64 x.size,.int .i64 x.limit,x.vl,x.vr,x.vk,x.vq,.bool x.grouped,x.vg,x.va]:=e;rw[←Array.toArray_toList (xs:=cs),this]
end
end Go.Proofs.YtjodlngbiikgfaaGreatDoor
namespace Go.Proofs.YtjodlngbiikgfaaGreatDoor
open Go.ChangeShapes Go.WideShapes Go.RowKit Go.Deep
section
variable {H:Type} {enc:TypeId×Value→H} {w:World} {base:Nat} {spare:Nat→Bool} {held:Bool}
set_option maxRecDepth 100000 in
theorem row_trodE {fuel:Nat}{cs:List Value}{x:DataW H×List MemPlace}(h:DataW.trod enc Tryz.prog w base spare held fuel 41 cs=some x): ∃(v:Value) (l:List Val),cs=[v]∧Sl w v l.length (rowCells l)∧Fine l:=by
 obtain⟨v,l,e,hs,hq⟩:=open_flatQ (f:=Val.cells) (Q:=Val.ok) (size:=3) Val.cells_len (by omega) Tryz.underlying41 (by kernel_rfl) val_trod h;exact⟨v,l,e,hs,⟨fun x hx=>(hq x hx).2.2.2.2,fun x hx=>⟨(hq x hx).2.2.1,(hq x hx).2.2.2.1⟩⟩⟩
set_option maxRecDepth 100000 in
theorem event_trod (fuel:Nat)(cs:List Value)(x:DataW H×List MemPlace)(h:DataW.trod enc Tryz.prog w base spare held fuel 43 cs=some x): ∃e:Evv,cs=e.cells∧e.ok w∧e.fit:=by
 obtain⟨n,hl,hf⟩:=struct_one Tryz.underlying43 (hone_of (by kernel_rfl)) (by kernel_rfl) h;obtain⟨y0,h0⟩:=hf 0 _ rfl;obtain⟨y1,h1⟩:=hf 1 _ rfl;obtain⟨y2,h2⟩:=hf 2 _ rfl;obtain⟨y3,h3⟩:=hf 3 _ rfl;obtain⟨s0,e0,-,q0⟩:=DataW.trod_int Tryz.underlying3 h0;obtain⟨s1,e1,-,q1⟩:=DataW.trod_int Tryz.underlying3 h1;obtain⟨s2,e2,-,q2⟩:=DataW.trod_int Tryz.underlying3 h2;obtain⟨v,l,e3,hs,hfi⟩:=row_trodE h3
 match cs,hl with
 |[a,b,c,d],_=>
  simp at e0 e1 e2 e3;subst e0 e1 e2 e3;exact⟨⟨s0,s1,s2,d,l⟩,rfl,⟨hs⟩,⟨wf_i64 q0,wf_i64 q1,wf_i64 q2,hfi⟩⟩
set_option maxRecDepth 100000 in
theorem open_events {r:Reach}{b0:Nat}{v:Value}{d:DataW H}{p:List MemPlace}(hv:Value.okWide Tryz.prog w r b0 49 v)(h:DataW.Trod enc Tryz.prog w base spare held 49 v d p):
 ∃l:List Evv,Evs w v l∧ ∀e∈l,e.fit:=by
 obtain⟨a,len,cap,rfl⟩:=okWide_slice Tryz.underlying49 hv;obtain⟨fuel,hf⟩:=h;obtain⟨u,l,e,hsl,hq⟩:=open_flatQ (f:=Evv.cells) (Q:=fun e=>e.ok w∧e.fit) (size:=4) Evv.cells_len (by omega) Tryz.underlying49 (by kernel_rfl) event_trod hf;have:(Value.slice a len cap)=u:=by simpa[Value.cells]using e
 rw[this];exact⟨l,⟨hsl,fun c hc=>(hq c hc).1⟩,fun c hc=>(hq c hc).2⟩
end
end Go.Proofs.YtjodlngbiikgfaaGreatDoor
