/-Entries of one's own, sorted by the library. merged: all entries, rising. A drawn region inside a round, walked as a plain one. -/
import Derived.Test.YtjodlngbiikgfaaGreatDoorGrpK6
import Derived.Test.YtjodlngbiikgfaaGreatDoorSortE
import Derived.Shelf.SlSortCmp.WholeK
import Derived.Shelf.SlSortCmp.NoneTotal
import Derived.Test.YtjodlngbiikgfaaGreatDoorGrpK12
import Derived.OrdersHeld
set_option linter.unusedSimpArgs false
set_option linter.unusedVariables false
namespace Go.Proofs.YtjodlngbiikgfaaGreatDoor
open Go.RowKit Go.Shelf Go.Sort
def EntC:Type:= {x:Ent// x.v.oneCell'=true}
instance:Inhabited EntC:=⟨⟨⟨.slice none 0 0,⟨[],0,0,[],false⟩⟩,rfl⟩⟩
def EntC.cells (x:EntC):List Value:=x.1.cells
theorem EntC.cells_len (x:EntC):x.cells.length=5:=rfl
theorem EntC.one (x:EntC): ∀u∈x.cells,u.oneCell'=true:=by
 obtain⟨x,hx⟩:=x;intro u hu;simp[EntC.cells,Ent.cells]at hu;rcases hu with rfl|rfl|rfl|rfl|rfl
 ·rfl
 ·rfl
 ·rfl
 ·exact hx
 ·rfl
def ofC (l:List EntC):List Ent:=l.map fun x=>x.1
theorem toC: ∀(l:List Ent),(∀x∈l,x.v.oneCell'=true)→ ∃m:List EntC,ofC m=l
 |[],_=>⟨[],rfl⟩
 |x::t,h=>by
  obtain⟨m,hm⟩:=toC t fun y hy=>h y (List.mem_cons_of_mem _ hy)
  exact⟨⟨x,h x (by simp)⟩::m,by show x::ofC m=_;rw[hm]⟩
theorem ofC_len (l:List EntC):(ofC l).length=l.length:=List.length_map _
theorem cellsC (l:List EntC):entCells (ofC l)=l.flatMap EntC.cells:=by unfold entCells ofC;rw[List.flatMap_map];rfl
def cfE (x y:EntC):Int:=cmpE x.1.e y.1.e
theorem lt_cfE (x y:EntC):ltOf cfE x y=decide (cmpE x.1.e y.1.e<0):=rfl
theorem swoE:SWO (ltOf cfE) where
 irrefl x:=by rw[lt_cfE,show cmpE x.1.e x.1.e=0 from cmpE_zero.2 ⟨rfl,rfl,rfl⟩];rfl
 trans x y z h1 h2:=by
  rw[lt_cfE,decide_eq_true_eq]at h1 h2⊢;exact cmpE_trans h1 h2
 ntrans x y z h1 h2:=by
  rw[lt_cfE,decide_eq_false_iff_not]at h1 h2⊢;intro h;by_cases h0:cmpE x.1.e y.1.e=0
  ·rw[cmpE_same h0]at h
   exact h2 h
  ·exact h2 (cmpE_trans (cmpE_gt h0 h1) h)
theorem flat_ents (l:List EntC):(flatK EntC.cells 5 l.toArray).toList=entCells (ofC l):=by
 rw[cellsC];apply List.ext_getElem?;intro t;have e:t/ 5*5+t%5=t:=by omega
 have h1:=flat_at EntC.cells_len l (t/ 5) (t%5) (by omega);rw[e]at h1;rw[h1];by_cases hlt:t/ 5<l.length
 ·have hs:t<(flatK EntC.cells 5 l.toArray).size:=by simp;omega
  have h2:=get_flatK EntC.cells 5 l.toArray t (by simp;omega);rw[getElem!_pos _ t hs]at h2;rw[Array.getElem?_toList,Array.getElem?_eq_getElem hs,h2,List.getElem?_eq_getElem hlt];simp only[Option.bind_some];have h3:(l.toArray)[t/ 5]! =l[t/ 5]:=by rw[getElem!_pos l.toArray _ (by simpa using hlt)];simp
  rw[h3];have h4:t%5<(l[t/ 5]).cells.length:=by rw[EntC.cells_len];omega
  rw[List.getElem?_eq_getElem h4,getElem!_pos (l[t/ 5]).cells _ h4]
 ·rw[List.getElem?_eq_none (l:=l) (by omega),Array.getElem?_toList,Array.getElem?_eq_none (by simp;omega)]
  rfl
theorem holds_ents {w:World}{base g cap n:Nat}{l:List EntC}(hl:n=l.length)(h:w.ownsRow base 63 5 (.slice (some ⟨g,0,none⟩) n cap) n (entCells (ofC l))):HoldsK EntC.cells 5 w g 0 l.toArray:=by
 subst hl;rcases h.2 with⟨h',-⟩|⟨g',cap',cur,h',hb,hg,hn,hc,hsz,ht⟩
 ·cases h'
 ·injection h' with e1 e2 e3
  injection e1 with e1;injection e1 with e1;subst e1 e3;intro j hj;have hj':j<l.length*5:=by simpa using hj
  have hF:=flat_ents l;generalize flatK EntC.cells 5 l.toArray=F at hj hF⊢;refine⟨?_,by simp[World.frozen?,hg]⟩;have h1:(cur.toList.take (l.length*5))[j]?=F.toList[j]?:=by rw[ht,hF]
  rw[List.getElem?_take_of_lt hj',Array.getElem?_toList,Array.getElem?_toList]at h1;simp only[World.cell?,hg,Nat.zero_add,Option.isSome_none,Bool.false_eq_true,if_false];rw[h1,getElem!_pos F j hj];simp[hj]
theorem heap_sortedK {w:World}{g n:Nat}{os:Array Obj}{cur:Array Value}{e:TypeId}{fr:Nat×Nat}(d:Array EntC)(hb:w.heap[g]?=some (.cells cur e fr)):
 (sortWorldK EntC.cells 5 w g 0 n d os).heap[g]?=some (.cells (putCells id 0 (flatK EntC.cells 5 d) cur) e fr):=by
 have hg:g<w.heap.size:=(Array.getElem?_eq_some_iff.1 hb).1;unfold sortWorldK putRowK;rw[heap_grow_old _ _ (by simpa using hg)];simp[putRow,mapBlock,Sort.ahead,Array.getElem?_modify,hb,onCells]
theorem grownBy_sortedK {w:World}{g n:Nat}{os:Array Obj}(d:Array EntC):w.grownBy (sortWorldK EntC.cells 5 w g 0 n d os) (some g):=by
 unfold sortWorldK putRowK;refine⟨rfl,rfl,rfl,by simp,fun k hk hne=> ?_⟩;rw[heap_grow_old _ _ (by simpa using hk)];have:g≠k:=fun e=>hne (by rw[e]);simp[putRow,mapBlock,Sort.ahead,Array.getElem?_modify,this]
theorem take_putK (cur F:Array Value)(h:F.size≤cur.size):(putCells id 0 F cur).toList.take F.size=F.toList:=by
 apply List.ext_getElem?;intro j;by_cases hj:j<F.size
 ·rw[List.getElem?_take_of_lt hj,Array.getElem?_toList,Array.getElem?_toList]
  simp[putCells,hj,show j<cur.size by omega]
 ·rw[List.getElem?_take_eq_none (by omega),List.getElem?_eq_none (by simp;omega)]
theorem ownsRow_sortedK {w:World}{base g cap n m:Nat}{os:Array Obj}{xs:List Value}{l:List EntC}(hl:m=l.length)(h:w.ownsRow base 63 5 (.slice (some ⟨g,0,none⟩) m cap) m xs):
 (sortWorldK EntC.cells 5 w g 0 n l.toArray os).ownsRow base 63 5 (.slice (some ⟨g,0,none⟩) m cap) m (entCells (ofC l)):=by
 subst hl;rcases h.2 with⟨h',-⟩|⟨g',cap',cur,h',hb,hg,hn,hc,hsz,ht⟩
 ·cases h'
 ·injection h' with e1 e2 e3
  injection e1 with e1;injection e1 with e1;subst e1 e3;refine⟨by rw[cellsC];exact flat_len EntC.cells_len l,.inr ⟨g,cap,_,rfl,hb,heap_sortedK _ hg,hn,hc,by simp[putCells,hsz],?_⟩⟩;have h1:=take_putK cur (flatK EntC.cells 5 l.toArray) (by simp;omega);rw[flat_ents,size_flatK,List.size_toArray]at h1;exact h1
set_option maxHeartbeats 1000000 in
set_option maxRecDepth 100000 in
theorem sortEnts_any (v:Value)(l:List Ent)(base:Nat)(w:World)(h:OwnE w base v l)(hl:l.length≤1000000):
 Calls Tryz.prog 113 #[v,.func (.func 85) #[] #[]] w fun e w'=>e= .returned (.tuple #[])∧ ∃l',l'.Perm l∧((ens l').Pairwise fun a b=> ¬cmpE b a<0)∧OwnE w' base v l'∧w.grownBy w' v.ownBlock:=by
 have eg: ∀args w,(callFunc 85 args).run Tryz.prog w= .ok (.enter 85 args) w:=enters_of Tryz.func85 (by kernel_rfl) rfl;rcases h.own.2 with⟨h',hn⟩|⟨g,cap,cur,h',hb,hg,hn,hc,hsz,ht⟩
 ·subst h'
  have hl0:l=[]:=List.length_eq_zero_iff.1 hn;subst hl0;have hcon:=AnyF.slices_SortFunc_none Tryz.sortEnt none 0 (.func (.func 85) #[] #[]) w;change Calls Tryz.prog 113 _ _ _ at hcon;refine hcon.mono ?_;rintro e w' ⟨rfl,rfl⟩;exact⟨rfl,[],.refl _,.nil,h,grown_of_below (Below.refl _ _) _⟩
 ·subst h'
  have hblk:g<w.heap.size:=(Array.getElem?_eq_some_iff.1 hg).1
  obtain⟨m,hm⟩:=toC l fun x hx=>by
   obtain⟨A,k,hv,-⟩:=h.rows x hx;rw[hv];rfl
  subst hm;rw[ofC_len]at hl;have hcmp:CmpLays Tryz.prog 85 #[] EntC.cells 5 cfE g 0 m.toArray.size w:=fun _ _ _ _ x y=>order_grow x.1 y.1 _;have hown:=h.own;have hcon:=AnyQ.slices_SortFunc Tryz.sortEnt 5 (fun _=>rfl) (fun _=>rfl) EntC.cells EntC.cells_len EntC.one cfE swoE 85 #[] g 0 cap m.toArray w eg hcmp (holds_ents (ofC_len m) hown) hblk (by simp;omega);change Calls Tryz.prog 113 _ _ _ at hcon;rw[List.size_toArray]at hcon;rw[ofC_len];refine hcon.mono ?_;rintro e w' ⟨rfl,d',n,os,⟨hs,-,hp⟩,hso,rfl⟩;obtain⟨m'⟩:=d';rw[List.size_toArray,List.size_toArray]at hs
  have hp':m'.Perm m:=by
   rw[show m.length=m'.toArray.size by simp[hs],Array.extract_size]at hp
   have e2:m.toArray.extract 0 m'.toArray.size=m.toArray:=by
    rw[show m'.toArray.size=m.toArray.size by simp[hs],Array.extract_size]
   rw[e2]at hp;exact hp
  have hpo:(ofC m').Perm (ofC m):=hp'.map _;refine⟨rfl,ofC m',hpo,?_,⟨?_,fun c hc=> ?_,fun c hc k hk=> ?_⟩,grownBy_sortedK _⟩
  ·refine List.pairwise_iff_getElem.2 fun i j hi hj hij=> ?_
   have hi':i<m'.length:=by simpa[ens,ofC]using hi
   have hj':j<m'.length:=by simpa[ens,ofC]using hj
   have h1:=hso i j (Nat.zero_le _) hij (by show j<m.length;omega);rw[getElem!_pos (⟨m'⟩:Array EntC) j (by simpa using hj'),getElem!_pos (⟨m'⟩:Array EntC) i (by simpa using hi'),lt_cfE,decide_eq_false_iff_not]at h1;simpa[ens,ofC]using h1
  ·rw[ofC_len,hs]
   exact ownsRow_sortedK hs.symm (by rw[←ofC_len m];exact hown)
  ·exact sl_grown (h.rows c (hpo.subset hc)) (grownBy_sortedK _) fun k hk e=>by
    have h1:=(h.far c (hpo.subset hc) k hk).2.2;exact h1 e
  ·obtain⟨h0,h1,h2⟩:=h.far c (hpo.subset hc) k hk
   exact⟨h0,Nat.lt_of_lt_of_le h1 (grownBy_sortedK (w:=w) (g:=g) (n:=n) (os:=os) m'.toArray).size,h2⟩
end Go.Proofs.YtjodlngbiikgfaaGreatDoor
namespace Go.Proofs.YtjodlngbiikgfaaGreatDoor
open Go.RowKit Go.Shelf
attribute [local go_sem] Oper.semAt_some
attribute [-go_sem] Builtin.append_ in
set_option maxRecDepth 100000 in
set_option maxHeartbeats 8000000 in
theorem merged_any (b:Buf)(w:World)(hb:b.ok w)(hl: ∀k,(b.part k).2.length≤1000000)(hal:b.bu.all.length≤1000000)(hrl:b.runs.length≤1000000)(h8: ∀k,∀x∈(b.part k).2,x.e.r.length≤8):
 Calls Tryz.prog 61 #[b.agg] w fun e w'=> ∃v l,e= .returned v∧OwnE w' (w.heap.size+3) v l∧(ens l).Perm b.bu.all∧((ens l).Pairwise fun a b=> ¬cmpE b a<0)∧Below w.heap.size w w'∧w.heap.size+3≤w'.heap.size:=by
 have HO:=Lib.hid hb;have HL:=Lib.hid hl;have H8:=Lib.hid h8;have hmx:Tryz.prog.follows .mixedOrders=true:=by kernel_rfl
 have HALL:Hid (b.bu.all=(List.range (b.runs.length+1)).flatMap fun k=>ens (b.part k).2):=Lib.hid (pre_all b);have HAL:=Lib.hid hal;unfold Buf.agg;clear hb hl h8 hal;refine(callsIn_wide (n:=3)).1 ?_;refine callsIn_of_wp_marks Tryz.func61 rfl trivial ?_ rfl;simp only[Tryz.ntmps61,List.size_toArray,List.length_cons,List.length_nil,Nat.reduceAdd,Nat.reduceSub,Array.replicate_succ,Array.replicate_zero,List.push_toArray,List.append_toArray,List.nil_append,List.cons_append]
 gi_wp2_with (refine⟨trivial,?_⟩;gi_at_call 83;refine(callsIn_wide.2 (parts_any b _)).mono ?_;rintro e w' ⟨rfl,rfl⟩)
 have hB0:Below w.heap.size w (((w.alloc (.cells #[.int .i64 b.limit,b.vm,b.vr] 29)).alloc (.cells #[.slice none 0 0] 26)).alloc (.cells #[.int .i64 b.limit,b.vm,b.vr] 29)):=
  (((Below.refl _ w).alloc (Nat.le_refl _) _).alloc (by simp) _).alloc (by simp;omega) _
 have k1:=(Blk.new (w.alloc (.cells #[.int .i64 b.limit,b.vm,b.vr] 29)) 26 #[.slice none 0 0]).alloc (.cells #[.int .i64 b.limit,b.vm,b.vr] 29);have k2:=Blk.new ((w.alloc (.cells #[.int .i64 b.limit,b.vm,b.vr] 29)).alloc (.cells #[.slice none 0 0] 26)) 29 #[.int .i64 b.limit,b.vm,b.vr];simp only[World.size_alloc]at k1 k2;obtain⟨W0,hW0⟩: ∃W0,((w.alloc (.cells #[.int .i64 b.limit,b.vm,b.vr] 29)).alloc (.cells #[.slice none 0 0] 26)).alloc (.cells #[.int .i64 b.limit,b.vm,b.vr] 29)=W0:=⟨_,rfl⟩;have hsz:W0.heap.size=w.heap.size+3:=by rw[←hW0];simp
 rw[hW0]at hB0 k1 k2⊢
 refine wpIn_rangeFunc_ownF rfl (by omega) (gf:=135) (lb:= #[.pointer (some ⟨w.heap.size+1+1,0,none⟩)]) rfl trivial (enters_of Tryz.func135 (by kernel_rfl) rfl)
  (parts_stops Fence.wide _ trivial rfl (by omega) (w.heap.size+1+1) b W0 k2 w hB0 HO.out) KpB.trans (KpB.put (by omega) (by omega)) (Below.refl _ _) (fun _=>rfl)
  (fun pre W=>(∃v o,ens o=pre.flatMap (fun k=>ens (b.part k).2)∧o.length≤pre.length*1000000∧OwnE W (w.heap.size+3) v o∧Blk W (w.heap.size+1) 26 #[v]∧w.heap.size+3≤W.heap.size)∧Below w.heap.size w W)
  (fun _ _ _=>False)
  (OwnFrom.and (Own.from (fun s A B row hs hg hr=>by
   obtain⟨v,o,h1,h2,h3,h4,h7⟩:=hs;exact⟨v,o,h1,h2,h3.recd hg hr,blk_own h4 hg hr,Nat.le_trans h7 hg.size⟩) _) (ownFrom_below (Nat.le_refl _) (by omega)))
  (fun c=>(fun _ _ _ _ h _ _=>h))
  ⟨⟨.slice none 0 0,[],rfl,by simp,OwnE.nil _ _,k1,by omega⟩,hB0⟩
  (fun k=> {tmps:= #[.agg #[.int .i64 b.limit,b.vm,b.vr],.pointer (some ⟨w.heap.size,0,none⟩),.slice none 0 0,.pointer (some ⟨w.heap.size+1,0,none⟩),undef,(b.part k).1,undef,undef,
   .agg #[.int .i64 b.limit,b.vm,b.vr],.func (.func 135) #[] #[.pointer (some ⟨w.heap.size+1+1,0,none⟩)],.int .i64 (idxP k),(b.part k).1,
   undef,undef,undef,undef,undef,undef,undef,undef,undef,undef,undef,undef,undef,undef,undef],defers:=[]}) ?assign ?body ?done ?stop
 case assign=>
  intro l k W K hK;dsimp only[encP]
  gi_wp2
  exact hK
 case body=>
  rintro l pre k W ⟨⟨v0,o0,he0,hl0,hown0,hKO,hWs⟩,hB⟩ hpre;have HE0:=Lib.hid he0;have HL0:=Lib.hid hl0;have HOW0:=Lib.hid hown0;have HKO0:=Lib.hid hKO;have HPE:=Lib.hid (HO.out.part k);have HPL:=Lib.hid (H8.out k);have hpl:=HL.out k;have HST:Hid ((pre++[k]).flatMap (fun k=>ens (b.part k).2)=ens o0++ens (b.part k).2):=Lib.hid (by rw[List.flatMap_append,←he0];simp);have HPP:=Lib.hid hpre;clear he0 hl0 hown0 hKO;generalize idxP k=n;generalize b.part k=p at HPE HPL hpl HST⊢;obtain⟨pv,pl⟩:=p;simp only at HPE HPL hpl HST⊢;obtain⟨A5,c5,rfl,hq1,hq2,-⟩:=id HPE.out.sl;unfold maxLen at hq2
  gi_wp2
  gi_loopw [7,14] (fun _ i wr=> ∃(m:Nat) (v:Value) (o:List Ent),i= .int .i64 m∧m≤pl.length∧Hid (ens o=ens o0++(ens pl).take m)∧Hid (o.length≤o0.length+m)∧Hid (OwnE wr (w.heap.size+3) v o)∧Hid (Blk wr (w.heap.size+1) 26 #[v])∧Hid (KeepsOthers W wr)∧Hid (KpB w.heap.size (w.heap.size+1+1) W wr)∧Below w.heap.size w wr) (fun _ i _=>pl.length-(intOf i).toNat)
  case atStart=>exact⟨0,v0,o0,rfl,by omega,Lib.hid (by simp),Lib.hid (by simp),HOW0,HKO0,Lib.hid (KeepsOthers.refl _),Lib.hid (KpB.refl _ _ _),hB⟩
  case round=>
   obtain⟨m,v,o,rfl,hm,HE,HOL,HOW,HKO,HKO2,HKP,hbq⟩:=hrel;by_cases hml:m<pl.length
   ·have hx:=List.getElem?_eq_getElem (l:=pl) hml
    generalize pl[m]=x at hx;have hmem:=List.mem_of_getElem? hx;have HTK:=Lib.hid (ens_take hx);obtain⟨g5,off5,rfl,-,hc⟩:=ent_at HPE.out.sl rfl hx;obtain⟨Ax,cx,hvx,-⟩:=id (HPE.out.rows x hmem);have HSX:=Lib.hid (HPE.out.rows x hmem);have hxl:=HPL.out x hmem;rw[hvx]at HSX;simp only[hvx]at hc;clear hvx;obtain⟨d0,d1,d2,d3,d4⟩:=hc _ hbq;have K2:=Lib.hid (Blk.new wr 63 #[.string (str x.e.key),.int .i64 x.e.t,.int .i64 x.e.s,.slice Ax x.e.r.length cx,.bool x.e.met]);have KO:=Lib.hid (HKO.out.alloc (.cells #[.string (str x.e.key),.int .i64 x.e.t,.int .i64 x.e.s,.slice Ax x.e.r.length cx,.bool x.e.met] 63));have f0:=KO.out.cell 0 _ rfl;have z0:=K2.out.cell 0 _ rfl;have z1:=K2.out.cell 1 _ rfl;have z2:=K2.out.cell 2 _ rfl;have z3:=K2.out.cell 3 _ rfl;have z4:=K2.out.cell 4 _ rfl;clear hx hmem hc;have k0:(0:Int)≤(m:Int):=by omega
    have k1:(m:Int)<(pl.length:Int):=by omega
    have hwm:IntKind.i64.wrap ((m:Int)+1)=(m:Int)+1:=by rw[IntKind.wrap_i64];omega
    gi_wp2_with fail
    have hws:=HKO2.out.size;have HOB:Hid (o.length≤1000002000000):=Lib.hid (by have h1:=HOL.out;have h2:=HL0.out;have h3:=HPP.out;omega);have hb1:=below_trans hbq (below_alloc wr (.cells #[.string (str x.e.key),.int .i64 x.e.t,.int .i64 x.e.s,.slice Ax x.e.r.length cx,.bool x.e.met] 63));have HOE:=Lib.hid (own_ent ⟨.slice Ax x.e.r.length cx,⟨x.e.key,x.e.t,x.e.s,x.e.r,x.e.met⟩⟩ _ (HSX.out.below hb1.drew) hxl);unfold Ent.agg at HOE;dsimp only at HOE
    gi_region_with_o (first
     |(refine⟨trivial,(CallsIn.inRound l (callsIn_wide.2 HOE.out)).mono ?_⟩
       rintro e w4 ⟨cv,rfl,hcv,hcf,hb4⟩;obtain⟨Ac,cc,rfl,-⟩:=id hcv;have hbb:=below_trans hb1.drew hb4;have HOW4:=((HOW.out.alloc (.cells #[.string (str x.e.key),.int .i64 x.e.t,.int .i64 x.e.s,.slice Ax x.e.r.length cx,.bool x.e.met] 63)).drew.below hb4).alloc (.cells #[.string (str x.e.key),.int .i64 x.e.t,.int .i64 x.e.s,.slice Ac x.e.r.length cc,.bool x.e.met] 63);have HS1:=one_ent w4 ⟨.slice Ac x.e.r.length cc,x.e⟩;have HON:=ent_one (c:=⟨.slice Ac x.e.r.length cc,x.e⟩) hcv;have KO4:=Lib.hid ((KO.out.drew.below hb4).alloc (.cells #[.string (str x.e.key),.int .i64 x.e.t,.int .i64 x.e.s,.slice Ac x.e.r.length cc,.bool x.e.met] 63));have f1:=(KO.out.drew.below hb4).cell 0 _ rfl;have f2:=KO4.out.cell 0 _ rfl;have hs4:wr.heap.size+1≤w4.heap.size:=by have h:=hb4.size;simpa using h
       obtain⟨v7,w7,hrun,hown7,hg7,hat7⟩:=run_app (P:=Tryz.prog) (w.heap.size+3) 26 26 63 5 64 Tryz.underlying26 entI v o.length _ HOW4.own _ 1 (Ent.cells ⟨.slice Ac x.e.r.length cc,x.e⟩) HS1 rfl HON (by unfold maxLen;have:=HOB.out;omega) (by have:=HOB.out;omega) (by simp;omega);have q7:=(KO4.out.grown hg7 (fun e=>by have:=own_ge HOW4.own _ e;omega)).cell 0 _ rfl;have e7:=(KO4.out.grown hg7 (fun e=>by have:=own_ge HOW4.own _ e;omega)).free 0;obtain⟨A7,c7,rfl,-⟩:=Sl.of_own hown7)
     |(trace_state;fail))
    all_goals
     have hw4:=below_trans (below_trans (below_alloc wr (.cells #[.string (str x.e.key),.int .i64 x.e.t,.int .i64 x.e.s,.slice Ax x.e.r.length cx,.bool x.e.met] 63)).drew hb4) (below_alloc w4 (.cells #[.string (str x.e.key),.int .i64 x.e.t,.int .i64 x.e.s,.slice Ac x.e.r.length cc,.bool x.e.met] 63));have S4:=hcv.below (below_alloc w4 (.cells #[.string (str x.e.key),.int .i64 x.e.t,.int .i64 x.e.s,.slice Ac x.e.r.length cc,.bool x.e.met] 63))
     have H7:=HOW4.snoc (c:=⟨.slice Ac x.e.r.length cc,x.e⟩) hown7 hg7 hat7 S4 (fun k hk=>⟨by have:=(hcf k hk).1;simp at this;omega,by have:=(hcf k hk).2;simp;omega,fun e=>by
      have h1:=(HOW.out.range (.inl e)).2;have:=(hcf k hk).1;simp at this;omega⟩)
     have H8:=Lib.hid (H7.set (p:=⟨w.heap.size+1,0,none⟩) (by show w.heap.size+1<w.heap.size+3;omega) (.slice A7 (o.length+1) c7));have hge:=own_ge HOW4.own;have K8:=Lib.hid ((KO4.out.grown hg7 (fun e=>by have:=hge _ e;omega)).set_ 0 (.slice A7 (o.length+1) c7));have hb8:=(below_grown (below_trans hbq hw4) hg7 (fun k hk=>by have:=hge k hk;omega)).setCell (p:=⟨w.heap.size+1,0,none⟩) (by show w.heap.size≤w.heap.size+1;omega) (.slice A7 (o.length+1) c7);have KO8:=Lib.hid (((HKO2.out.trans (keeps_below hw4)).trans (ko_own HOW4.own hg7)).trans (KeepsOthers.setCell w7 ⟨w.heap.size+1,0,none⟩ (.slice A7 (o.length+1) c7)));have KP8:=Lib.hid (((HKP.out.trans (KpB.of_below (by omega) (by omega) hw4)).trans (kp_grown hg7 (by simp;omega) (by simp;omega) (fun k hk=>by have:=hge k hk;omega))).set (p:=⟨w.heap.size+1,0,none⟩) (by show w.heap.size≤w.heap.size+1;omega) (by show w.heap.size+1+1≠w.heap.size+1;omega) (.slice A7 (o.length+1) c7));have HE7:Hid (ens (o++[(⟨.slice Ac x.e.r.length cc,x.e⟩:Ent)])=ens o0++(ens pl).take (m+1)):=Lib.hid (by rw[ens_snoc,HE.out,HTK.out,List.append_assoc]);have HL7:Hid ((o++[(⟨.slice Ac x.e.r.length cc,x.e⟩:Ent)]).length≤o0.length+(m+1)):=Lib.hid (by have:=HOL.out;simp;omega);clear hw4 S4 H7 hge hown7 hg7 hat7 HOW4 HS1 HON hcv hcf hb4 hbb hb1 hrun
     gi_wp2
     go_roundw
     case rel=>exact⟨m+1,_,_,by go_num,by omega,HE7,HL7,H8,K8,KO8,KP8,hb8⟩
     case measure=>simp[intOf];omega
   ·obtain rfl:m=pl.length:=by omega
    have HE7:Hid (ens o=(pre++[k]).flatMap (fun k=>ens (b.part k).2)):=Lib.hid (by rw[HE.out,HST.out,List.take_of_length_le (by rw[ens_len];omega)]);have HL7:Hid (o.length≤(pre++[k]).length*1000000):=Lib.hid (by have h1:=HOL.out;have h2:=HL0.out;rw[List.length_append,List.length_singleton];omega);have hws:=HKO2.out.size
    gi_wp2
    exact⟨HKO2.out,HKP.out,⟨v,o,HE7.out,HL7.out,HOW.out,HKO.out,by omega⟩,hbq⟩
 case done=>
  rintro D ys W hD rfl ⟨⟨v,o,he,hl,hown,hKO,hWs⟩,hB⟩ hK;have HE:=Lib.hid (he.trans HALL.out.symm);have HLO:Hid (o.length≤1000000):=Lib.hid (by have h1:=HAL.out;rw[←HE.out,ens_len]at h1;exact h1);have HSO:=Lib.hid (sortEnts_any v o _ W hown HLO.out);have HOWN:=Lib.hid hown;have HKO:=Lib.hid hKO;have f0:=hKO.cell 0 _ rfl;clear he hl hown hKO
  gi_wp2_with fail
  refine⟨trivial,(callsIn_wide.2 HSO.out).mono ?_⟩;rintro e w2 ⟨rfl,l',hp,hpw,hown2,hg2⟩;have HO2:=Lib.hid hown2;have hK':=(ko_own HOWN.out.own hg2).same D _ hK rfl;have hge:=own_ge HOWN.out.own;have f2:=(HKO.out.grown hg2 (fun e=>by have:=hge _ e;omega)).cell 0 _ rfl;have hb2:=below_grown hB hg2 (fun k hk=>by have:=hge k hk;omega);have hs2:=hg2.size;have HPE:Hid ((ens l').Perm b.bu.all):=Lib.hid (HE.out▸hp.map _);have HPW:=Lib.hid hpw;clear f0 hown2 hp hpw hge HSO
  gi_wp2
  refine⟨by simp,.inl ⟨_,_,rfl,run_takeDeferred hK',?_⟩⟩;have hrow: ∀r,some D=some r→ ∃o:Obj,w2.heap[r]?=some o∧o.isCells=false:=fun r e=>by cases e;exact⟨_,hK',rfl⟩
  refine⟨v,by simp[results,Tryz.results61,go_sem],v,rfl,l',HO2.out.recd (grownBy_putObj' _ D (.deferred none)) hrow,HPE.out,HPW.out,hb2.trans (belowK_b (w:=W0) (by omega) _ D _ _ hD hK' rfl rfl),?_⟩;have:=(grownBy_putObj' w2 D (.deferred none)).size;omega
 case stop=>
  rintro D c pre W hD hpre ⟨⟩
end Go.Proofs.YtjodlngbiikgfaaGreatDoor
namespace Go.Proofs.YtjodlngbiikgfaaGreatDoor
open Go.RowKit
def noDefer (ops:Array Oper):Bool:=ops.toList.all fun o=>match o.op with| .defer _=>false|_=>true
theorem noDefer_spec {ops:Array Oper}(h:noDefer ops=true){i:Nat}{o:Oper}(hi:ops[i]?=some o): ∀c,o.op≠ .defer c:=fun c e=>by
 have h1:=List.all_eq_true.1 h o (by rw[←Array.getElem?_toList]at hi;exact List.mem_of_getElem? hi);rw[e]at h1;cases h1
theorem opIn_of {P:Program}{ops:Array Oper}{Q:Exit→Act→World→Prop}(l n:Nat)(hd:noDefer ops=true)(hL: ¬LetsOut Q)(i:Nat){K K':Act→World→Prop}(hK: ∀a w,K a w→K' a w){a:Act}{w:World}(h:wpOp P ops Q i K a w):
 wpOpIn (Fence.wide.inRound l) n P ops Q i K' a w:=by
 unfold wpOp at h;unfold wpOpIn;cases hi:ops[i]? with
 |none=>rw[hi]at h;exact hK _ _ h
 |some o=>
  rw[hi]at h;simp only at h⊢;split at h
  ·rename_i hw
   rw[if_pos hw];rcases h with h|⟨-,h⟩
   ·refine⟨fun f _=>trivial,?_⟩
    rw[Oper.semAt_plain _ _ _ (noDefer_spec hd hi)];unfold Oper.wp at h;generalize (execOp a.eval o).run P w=r at h⊢;cases r with
    |ok x w'=>
     cases x with
     |value v=>exact hK _ _ h
     |skip=>exact hK _ _ h
     |defer d=>exact hK _ _ h
     |enter f args=>
      refine⟨nofun,CallsIn.inRound l (callsIn_wide.2 (Calls.mono h fun e w'' he=> ?_))⟩;cases e with
      |returned u=>exact hK _ _ he
      |panicked c=>exact he
      |outgrown=>exact he
     |row row args=>exact⟨nofun,fun c cs _=>let ⟨v,w'',r,s⟩:=h c cs;⟨v,w'',hK _ _ r,stepsIn_wide.2 s⟩⟩
     |_=>exact h.elim
    |halt x w'=>cases x<;>first|exact h|exact h.elim
   ·exact absurd h hL
  ·rename_i hw
   rw[if_neg hw];exact⟨fun f _=>trivial,hK _ _ h⟩
theorem anyIn_of {P:Program}{md:Region.Mode}{ops:Array Oper}{Q:Exit→Act→World→Prop}(l n:Nat)(hd:noDefer ops=true)(hL: ¬LetsOut Q): ∀(fuel:Nat) (listed:Array Bool) (a:Act) (w:World),wpAny P md ops Q fuel listed a w→wpAnyIn (Fence.wide.inRound l) n P md ops Q fuel listed a w
 |0,_,_,_,h=>h
 |fuel+1,listed,a,w,h=>⟨h.1,fun i hi=>opIn_of l n hd hL i (fun _ _=>anyIn_of l n hd hL fuel _ _ _) (h.2 i hi)⟩
theorem regionIn_held {P:Program}{ops:Array Oper}{Q:Exit→Act→World→Prop}{S:World→Prop}{l n id:Nat}{a:Act}{w:World}(hm:P.follows .mixedOrders=true)(hd:noDefer ops=true)(hL: ¬LetsOut Q)(hS:S w.drew)
 (h:S w.drew→wpAnyH P .any ops Q S ops.size (Array.replicate ops.size false) a w.drew):(Code.region id ops true).wpIn (Fence.wide.inRound l) n P Q a w:=
 wpIn_region_any hm (anyIn_of l n hd hL _ _ _ _ (wpAny_of_held _ _ _ _ (h hS)))
end Go.Proofs.YtjodlngbiikgfaaGreatDoor
