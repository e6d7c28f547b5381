/-The reference's into: an entry laid in at its place: memory. The reference's rises, SameEntries and SameBuffers. The moves of a walk through a region  -/
import Derived.Test.YtjodlngbiikgfaaGreatDoorGrpK5
import Derived.Test.YtjodlngbiikgfaaGreatDoorGrpK1
import Derived.RangeFuncNested
import Derived.RangeFuncBound
import Derived.RangeFuncCalls
import Derived.RangeFuncLeaves
import Derived.Shelf.Abstract
import Derived.Shelf.RegionOpen
import Derived.WalkKit
import Derived.OwnWalkIn
import Derived.TacticsInMore
import Derived.LoopNIn
import Derived.LoopIn
import Derived.RangeFuncFrom
set_option linter.unusedSimpArgs false
set_option linter.unusedVariables false
namespace Go.Proofs.YtjodlngbiikgfaaGreatDoor
open Go.RowKit
theorem entSize:(Tryz.prog.info? 63).map (·.size)=some 5:=by kernel_rfl
theorem entCells_len (l:List Ent):(entCells l).length=l.length*5:=flat_len Ent.cells_len l
theorem ent_take (l:List Ent)(k:Nat):(entCells l).take (k*5)=entCells (l.take k):=flat_take Ent.cells_len l k
theorem ent_drop (l:List Ent)(k:Nat):(entCells l).drop (k*5)=entCells (l.drop k):=flat_drop Ent.cells_len l k
theorem OwnE.sub {w w':World}{base:Nat}{v v':Value}{l l':List Ent}(h:OwnE w base v l)(hown:w'.ownsRow base 63 5 v' l'.length (entCells l'))(hg:w.grownBy w' v.ownBlock)(hat:v'.ownBlock=v.ownBlock∨v'.ownBlock=some w.heap.size)(hsub: ∀c∈l',c∈l):OwnE w' base v' l':=by
 refine⟨hown,fun d hd=>sl_grown (h.rows d (hsub d hd)) hg (fun k hk=>(h.far d (hsub d hd) k hk).2.2),fun d hd k hk=> ?_⟩;obtain⟨h0,h1,h2⟩:=h.far d (hsub d hd) k hk;refine⟨h0,Nat.lt_of_lt_of_le h1 hg.size,?_⟩;rcases hat with hat|hat
 ·rw[hat];exact h2
 ·rw[hat];intro e;injection e with e;omega
def setE (w:World) (g i:Nat) (c:Ent):World:=
 ((((w.setCell ⟨g,i*5,none⟩ (.string (str c.e.key))).setCell ⟨g,i*5+1,none⟩ (.int .i64 c.e.t)).setCell ⟨g,i*5+2,none⟩ (.int .i64 c.e.s)).setCell ⟨g,i*5+3,none⟩ c.v).setCell ⟨g,i*5+4,none⟩ (.bool c.e.met)
theorem ent_lay (a b:List Ent)(x c:Ent):(((((entCells (a++x::b)).set (a.length*5) (.string (str c.e.key))).set (a.length*5+1) (.int .i64 c.e.t)).set (a.length*5+2) (.int .i64 c.e.s)).set (a.length*5+3) c.v).set (a.length*5+4) (.bool c.e.met)=entCells (a++c::b):=by
 induction a with
 |nil=>simp[entCells,Ent.cells]
 |cons y a ih=>
  have e1:(y::a).length*5=a.length*5+1+1+1+1+1:=by simp;omega
  rw[e1];unfold entCells at ih⊢;simp only[List.cons_append,List.flatMap_cons];rw[←ih];simp[Ent.cells]
theorem OwnE.lay {w:World}{base g n cap:Nat}{a b:List Ent}{x c:Ent}(h:OwnE w base (.slice (some ⟨g,0,none⟩) n cap) (a++x::b))(hn:n=(a++x::b).length)(hc:Sl w c.v c.e.r.length (rowCells c.e.r))(hf: ∀k,c.v.ownBlock=some k→base≤k∧k<w.heap.size∧k≠g):
 OwnE (setE w g a.length c) base (.slice (some ⟨g,0,none⟩) n cap) (a++c::b)∧w.grownBy (setE w g a.length c) (some g):=by
 unfold setE;have ho:=h.own;rw[←hn]at ho;obtain⟨h1,g1⟩:=ho.stored (a.length*5) (.string (str c.e.key));obtain⟨h2,g2⟩:=h1.stored (a.length*5+1) (.int .i64 c.e.t);obtain⟨h3,g3⟩:=h2.stored (a.length*5+2) (.int .i64 c.e.s);obtain⟨h4,g4⟩:=h3.stored (a.length*5+3) c.v;obtain⟨h5,g5⟩:=h4.stored (a.length*5+4) (.bool c.e.met);have hg:=grown_trans (grown_trans (grown_trans (grown_trans g1 g2) g3) g4) g5;rw[ent_lay]at h5;have hlen:(a++c::b).length=n:=by rw[hn];simp
 have hd: ∀d∈a++c::b,Sl w d.v d.e.r.length (rowCells d.e.r)∧ ∀k,d.v.ownBlock=some k→base≤k∧k<w.heap.size∧k≠g:=by
  intro d hd;rcases List.mem_append.1 hd with hd|hd
  ·exact⟨h.rows d (by simp[hd]),fun k hk=>by obtain⟨z,p,q⟩:=h.far d (by simp[hd]) k hk;exact⟨z,p,fun e=>q (by rw[e];rfl)⟩⟩
  ·rcases List.mem_cons.1 hd with rfl|hd
   ·exact⟨hc,hf⟩
   ·exact⟨h.rows d (by simp[hd]),fun k hk=>by obtain⟨z,p,q⟩:=h.far d (by simp[hd]) k hk;exact⟨z,p,fun e=>q (by rw[e];rfl)⟩⟩
 refine⟨⟨by rw[hlen];exact h5,fun d hd'=>sl_grown (hd d hd').1 hg (fun k hk e=>((hd d hd').2 k hk).2.2 (by injection e with e;exact e.symm)),fun d hd' k hk=> ?_⟩,hg⟩;obtain⟨z,p,q⟩:=(hd d hd').2 k hk;exact⟨z,Nat.lt_of_lt_of_le p hg.size,fun e=>q (by simp[Value.ownBlock]at e;exact e.symm)⟩
theorem ens_lay (l:List Ent)(i:Nat)(c:Ent):ens (l.take i++c::l.drop i)=(ens l).take i++c.e::(ens l).drop i:=by
 unfold ens;simp[List.map_take,List.map_drop]
end Go.Proofs.YtjodlngbiikgfaaGreatDoor
namespace Go.Proofs.YtjodlngbiikgfaaGreatDoor
open Go.RowKit
theorem up_bad {l:List En}{k:Nat}{x y:En}(hx:l[k]?=some x)(hy:l[k+1]?=some y)(h: ¬cmpE x y<0):upB l=false:=by
 cases hb:upB l with
 |false=>rfl
 |true=>
  have hU:=upB_iff.1 hb;obtain⟨h1,e1⟩:=List.getElem?_eq_some_iff.1 hx;obtain⟨h2,e2⟩:=List.getElem?_eq_some_iff.1 hy;have:=List.pairwise_iff_getElem.1 hU k (k+1) h1 h2 (by omega);rw[e1,e2]at this;exact absurd this h
theorem up_all {l:List En}(h: ∀j,j+1<l.length→upAt l j=true):upB l=true:=by
 unfold upB;rw[List.all_eq_true];intro k hk;by_cases h1:k+1<l.length
 ·exact h k h1
 ·unfold upAt
  rw[List.getElem?_eq_none (l:=l) (i:=k+1) (by omega)];cases l[k]?<;>rfl
end Go.Proofs.YtjodlngbiikgfaaGreatDoor
namespace Go.Proofs.YtjodlngbiikgfaaGreatDoor
open Go.RowKit
section
variable {P:Program} {ops:Array Oper} {Q:Exit→Act→World→Prop} {md:Region.Mode} {S:World→Prop}
theorem tk (i:Nat){oi:Oper}{v:Value}{fuel:Nat}{listed listed':Array Bool}{a a':Act}{w:World}
 (h:wpAnyH P md ops Q S fuel listed' a' w)
 (hi:ops[i]?=some oi:=by simp only[List.getElem?_toArray,List.getElem?_cons_succ,List.getElem?_cons_zero];rfl)
 (hs:Region.noSelect ops=true:=by kernel_rfl) (hf:Region.free md ops listed i=true:=by kernel_rfl) (hr:(Region.ready md ops listed).contains i=true:=by kernel_rfl)
 (hQ: ∀c a w,Q (.panic c) (a.put oi.dst v) w→Q (.panic c) a w:=by intro _ _ _ h;exact h)
 (hw:Region.wanted oi (yielded ops a.tmps)=true:=by kernel_rfl)
 (hy: ∀w,S w→(execOp a.eval oi).run P w= .ok (.value v) w:=by(intro w hSw;(try dsimp only at hSw);go_simp;try with_reducible rfl))
 (hS:S w:=by assumption)
 (hl:listed.setIfInBounds i true=listed':=by(try simp only[List.setIfInBounds_toArray,List.set_cons_zero,List.set_cons_succ]);exact rfl)
 (ha:a.put oi.dst v=a':=by(try simp only[Act.put,List.setIfInBounds_toArray,List.set_cons_zero,List.set_cons_succ]);exact rfl):wpAnyH P md ops Q S (fuel+1) listed a w:=
 wpAnyH_take hi hs hf hr hQ (.inl ⟨hw,hy⟩) hS (hl▸ha▸h)
theorem tn (i:Nat){oi:Oper}{fuel:Nat}{listed listed':Array Bool}{a a':Act}{w:World}
 (h:wpAnyH P md ops Q S fuel listed' a' w)
 (hi:ops[i]?=some oi:=by simp only[List.getElem?_toArray,List.getElem?_cons_succ,List.getElem?_cons_zero];rfl)
 (hs:Region.noSelect ops=true:=by kernel_rfl) (hf:Region.free md ops listed i=true:=by kernel_rfl) (hr:(Region.ready md ops listed).contains i=true:=by kernel_rfl)
 (hQ: ∀c a w,Q (.panic c) (a.put oi.dst undef) w→Q (.panic c) a w:=by intro _ _ _ h;exact h)
 (hw:Region.wanted oi (yielded ops a.tmps)=false:=by kernel_rfl)
 (hS:S w:=by assumption)
 (hl:listed.setIfInBounds i true=listed':=by(try simp only[List.setIfInBounds_toArray,List.set_cons_zero,List.set_cons_succ]);exact rfl)
 (ha:a.put oi.dst undef=a':=by(try simp only[Act.put,List.setIfInBounds_toArray,List.set_cons_zero,List.set_cons_succ]);exact rfl):wpAnyH P md ops Q S (fuel+1) listed a w:=
 wpAnyH_take hi hs hf hr hQ (.inr ⟨hw,rfl⟩) hS (hl▸ha▸h)
theorem tc (i:Nat){oi:Oper}{fuel:Nat}{listed listed':Array Bool}{a:Act}{w:World}
 (h: ∀K,Hid (∀a' w',S w'→(S w'→wpAnyH P md ops Q S fuel listed' a' w')→K a' w')→(if Region.wanted oi (yielded ops a.tmps)=true then oi.wp P a w K Q else K (a.put oi.dst undef) w))
 (hi:ops[i]?=some oi:=by simp only[List.getElem?_toArray,List.getElem?_cons_succ,List.getElem?_cons_zero];rfl)
 (hr:Region.ready md ops listed=[i]:=by kernel_rfl)
 (hl:listed.setIfInBounds i true=listed':=by(try simp only[List.setIfInBounds_toArray,List.set_cons_zero,List.set_cons_succ]);exact rfl):wpAnyH P md ops Q S (fuel+1) listed a w:=by
 refine wpAnyH_ready (rs:=[i]) hr (by simp) (AllReadyH.cons hi (fun K hK=> ?_) AllReadyH.nil);exact h K (Lib.hid fun a' w' h1 h2=>hK.out _ _ h1 (fun h3=>hl▸h2 h3))
theorem tc2 (i j:Nat){oi oj:Oper}{fuel:Nat}{listed l1 l2:Array Bool}{a:Act}{w:World}
 (h1: ∀K,Hid (∀a' w',S w'→(S w'→wpAnyH P md ops Q S fuel l1 a' w')→K a' w')→(if Region.wanted oi (yielded ops a.tmps)=true then oi.wp P a w K Q else K (a.put oi.dst undef) w))
 (h2: ∀K,Hid (∀a' w',S w'→(S w'→wpAnyH P md ops Q S fuel l2 a' w')→K a' w')→(if Region.wanted oj (yielded ops a.tmps)=true then oj.wp P a w K Q else K (a.put oj.dst undef) w))
 (hi:ops[i]?=some oi:=by simp only[List.getElem?_toArray,List.getElem?_cons_succ,List.getElem?_cons_zero];rfl)
 (hj:ops[j]?=some oj:=by simp only[List.getElem?_toArray,List.getElem?_cons_succ,List.getElem?_cons_zero];rfl)
 (hr:Region.ready md ops listed=[i,j]:=by kernel_rfl)
 (e1:listed.setIfInBounds i true=l1:=by(try simp only[List.setIfInBounds_toArray,List.set_cons_zero,List.set_cons_succ]);exact rfl)
 (e2:listed.setIfInBounds j true=l2:=by(try simp only[List.setIfInBounds_toArray,List.set_cons_zero,List.set_cons_succ]);exact rfl):wpAnyH P md ops Q S (fuel+1) listed a w:=by
 refine wpAnyH_ready (rs:=[i,j]) hr (by simp) (AllReadyH.cons hi (fun K hK=> ?_) (AllReadyH.cons hj (fun K hK=> ?_) AllReadyH.nil))
 ·exact h1 K (Lib.hid fun a' w' h1 h2=>hK.out _ _ h1 (fun h3=>e1▸h2 h3))
 ·exact h2 K (Lib.hid fun a' w' h1 h2=>hK.out _ _ h1 (fun h3=>e2▸h2 h3))
theorem td {fuel:Nat}{listed:Array Bool}{a:Act}{w:World}(h:Q .normal a w)(hr:Region.ready md ops listed=[]:=by kernel_rfl):wpAnyH P md ops Q S fuel listed a w:=wpAnyH_done hr h _
end
theorem tr {P:Program}{ops:Array Oper}{Q:Exit→Act→World→Prop}(S:World→Prop){id:Nat}{a:Act}{w:World}(hS:S w.drew)(h:S w.drew→wpAnyH P .any ops Q S ops.size (Array.replicate ops.size false) a w.drew)(hm:P.follows .mixedOrders=true:=by kernel_rfl):(Code.region id ops true).wp P Q a w:=
 wp_region_held_drew hm hS h
end Go.Proofs.YtjodlngbiikgfaaGreatDoor
namespace Go.Proofs.YtjodlngbiikgfaaGreatDoor
open Go.RowKit
theorem OwnE.setFar {w:World}{base:Nat}{v:Value}{l:List Ent}(h:OwnE w base v l){p:Addr}(hg: ∀k,v.ownBlock=some k→k≠p.block)(hr: ∀c∈l,∀k,c.v.ownBlock=some k→k≠p.block)(u:Value):OwnE (w.setCell p u) base v l:=
 ⟨own_set h.own hg u,fun c hc=>sl_set (h.rows c hc) (fun _ k hk=>hr c hc k hk) u,fun c hc k hk=>by have:=h.far c hc k hk;rw[World.size_setCell];exact this⟩
end Go.Proofs.YtjodlngbiikgfaaGreatDoor
namespace Go.Proofs.YtjodlngbiikgfaaGreatDoor
open Go.RowKit Go.Shelf
attribute [local go_sem] Oper.semAt_some
def Buf.part (b:Buf):Nat→Value×List Ent
 |0=>(b.vm,b.mem)
 |k+1=>(b.runs[k]?).getD (.slice none 0 0,[])
def idxP:Nat→Int
 |0=> -1
 |k+1=>(k:Int)
def encP (b:Buf) (k:Nat):Array Value:= #[.int .i64 (idxP k),(b.part k).1]
theorem Buf.ok.part {w:World}{b:Buf}(h:b.ok w)(k:Nat):Ents w (b.part k).1 (b.part k).2:=by
 cases k with
 |zero=>exact h.mem
 |succ k=>
  show Ents w ((b.runs[k]?).getD (.slice none 0 0,[])).1 ((b.runs[k]?).getD (.slice none 0 0,[])).2;cases hx:b.runs[k]? with
  |none=>exact Ents.nil w
  |some p=>exact h.runs p (List.mem_of_getElem? hx)
set_option maxHeartbeats 1000000 in
theorem parts_any (b:Buf)(w:World):Calls Tryz.prog 83 #[.agg #[.int .i64 b.limit,b.vm,b.vr]] w fun e w'=>e= .returned (.func (.func 135) #[] #[.pointer (some ⟨w.heap.size,0,none⟩)])∧w'=w.alloc (.cells #[.int .i64 b.limit,b.vm,b.vr] 29):=by
 go_enter Tryz.func83,Tryz.ntmps83
 go_wp2;go_ret;exact⟨rfl,rfl⟩
def KpB (m B:Nat) (W W':World):Prop:=Below m W W'∧W'.heap[B]?=W.heap[B]?
theorem KpB.trans {m B:Nat}{X Y Z:World}(h:KpB m B X Y)(k:KpB m B Y Z):KpB m B X Z:=⟨h.1.trans k.1,k.2.trans h.2⟩
theorem KpB.refl (m B:Nat)(W:World):KpB m B W W:=⟨Below.refl _ _,rfl⟩
theorem KpB.of_below {m B:Nat}{W W':World}(hm:m≤W.heap.size)(hB:B<W.heap.size)(h:Below W.heap.size W W'):KpB m B W W':=⟨h.mono hm,h.block B hB⟩
theorem KpB.set {m B:Nat}{X W:World}(h:KpB m B X W){p:Addr}(hp:m≤p.block)(hne:B≠p.block)(u:Value):KpB m B X (W.setCell p u):=⟨h.1.setCell hp u,(Below.heap_setCell W p u B hne).trans h.2⟩
theorem KpB.put {m B:Nat}{w:World}(hm:m≤w.heap.size)(hB:B<w.heap.size): ∀(W:World) (l:Nat) (o o':Obj),w.heap.size≤l→W.heap[l]?=some o→o.isCells=false→o.isWalk=false→KpB m B W (W.putObj l o'):=fun W l o o' hl ho hc hw=>
 ⟨belowK_b hm W l o o' hl ho hc hw,(belowK_b (w:=w) (n₀:=w.heap.size) (Nat.le_refl _) W l o o' hl ho hc hw).block B hB⟩
set_option maxRecDepth 100000 in
set_option maxHeartbeats 2000000 in
theorem parts1_in (F:Fence)(n:Nat)(hf:F.fn 135)(hro:F.round=none)(hn:1≤n)(l Bs:Nat)(b:Buf)(w0:World)(J Jx:List Nat→World→Prop)
 (hY: ∀pre k W,J pre W→pre.length<b.runs.length+1→YieldAt F (n-1) Tryz.prog l (encP b k) W fun e W'=>
  (e= .returned (.bool true)∧J (pre++[k]) W'∧KpB w0.heap.size Bs W W')∨(e= .returned (.bool false)∧Jx (pre++[k]) W'))
 (W:World) (hB:Blk W Bs 29 #[.int .i64 b.limit,b.vm,b.vr]) (hbw:Below w0.heap.size w0 W) (hb:b.ok w0) (h0:J [] W):
 CallsIn F n Tryz.prog 135 #[.func (.yield l) #[] #[],.pointer (some ⟨Bs,0,none⟩)] W fun e W'=>(∃v,e= .returned v)∧
  ((∃ys,ys=List.range (b.runs.length+1)∧J ys W')∨(∃pre,(∃k,k≤b.runs.length+1∧pre=List.range k)∧Jx pre W')):=by
 have HB:=Lib.hid hB;have HO:=Lib.hid hb;obtain⟨A,c,hvr,hr1,hr2,-⟩:=id hb.sl;unfold maxLen at hr2;have y1:=hB.cell 1 _ rfl;have y2:=hB.cell 2 _ rfl;have HVR:=Lib.hid hvr;clear hvr;obtain⟨fn,tmps,assign,body,hy,hR⟩:=hY [] 0 W h0 (by simp);dsimp only[encP,idxP,Buf.part]at hy;refine callsIn_of_wp Tryz.func135 rfl hf ?_ hro;simp only[Tryz.ntmps135,List.size_toArray,List.length_cons,List.length_nil,Nat.reduceAdd,Nat.reduceSub,Array.replicate_succ,Array.replicate_zero,List.push_toArray,List.append_toArray,List.nil_append,List.cons_append]
 gi_wp2
 refine hR.mono ?_;rintro e W1 (⟨rfl,hJ1,hk1⟩|⟨rfl,hJx1⟩)
 ·have K1:Blk W1 Bs 29 #[.int .i64 b.limit,b.vm,b.vr]:=hk1.2.trans HB.out
  have z2:=K1.cell 2 _ rfl;rw[HVR.out]at z2;have hbw1:Below w0.heap.size w0 W1:=hbw.trans hk1.1;clear y1 y2 hy
  gi_wp2
  gi_loopw [3,4,13] (fun _ _ i wr=> ∃k:Nat,k≤b.runs.length∧i= .int .i64 k∧J (List.range (k+1)) wr∧KpB w0.heap.size Bs W wr) (fun _ _ i _=>b.runs.length-(intOf i).toNat)
  case atStart=>exact⟨0,by omega,rfl,hJ1,hk1⟩
  case round=>
   obtain⟨k,hk,rfl,hJs,hnx⟩:=hrel;by_cases hlt:k<b.runs.length
   ·have hx:=List.getElem?_eq_getElem (l:=b.runs) hlt
    generalize b.runs[k]=p at hx;obtain⟨g,off,rfl,-,hc⟩:=one_at HO.out.sl HVR.out (k:=k) (u:=p.1) (by rw[List.getElem?_map,hx];rfl);have d1:=hc wr (hbw.trans hnx.1);obtain⟨fn2,tmps2,assign2,body2,hy2,hR2⟩:=hY (List.range (k+1)) (k+1) wr hJs (by simp;omega);simp only[encP,idxP,Buf.part,hx,Option.getD_some]at hy2;clear hx hc;have k0:(0:Int)≤(k:Int):=by omega
    have k1:(k:Int)<(b.runs.length:Int):=by omega
    gi_wp2
    refine hR2.mono ?_;rintro e W3 (⟨rfl,hJ3,hk3⟩|⟨rfl,hJx3⟩)
    ·gi_wp2
     go_roundw
     case rel=>exact⟨k+1,by omega,by simp,by rw[List.range_succ];exact hJ3,hnx.trans hk3⟩
     case measure=>simp[intOf];omega
    ·gi_wp2
     refine bodyPost_ret (results_none rfl _ _ _) rfl ?_;exact⟨⟨_,rfl⟩,.inr ⟨_,⟨k+2,by omega,(List.range_succ).symm⟩,hJx3⟩⟩
   ·obtain rfl:k=b.runs.length:=by omega
    gi_wp2
    go_end0
    exact⟨⟨_,rfl⟩,.inl ⟨_,rfl,hJs⟩⟩
 ·gi_wp2
  refine bodyPost_ret (results_none rfl _ _ _) rfl ?_;exact⟨⟨_,rfl⟩,.inr ⟨_,⟨1,by omega,rfl⟩,hJx1⟩⟩
theorem parts_stops (F:Fence)(n:Nat)(hf:F.fn 135)(hro:F.round=none)(hn:1≤n)(Bs:Nat)(b:Buf)(w:World)(hB:Blk w Bs 29 #[.int .i64 b.limit,b.vm,b.vr])
 (w0:World) (hbw:Below w0.heap.size w0 w) (hb:b.ok w0):
 SeqStopsK F n Tryz.prog 135 #[.pointer (some ⟨Bs,0,none⟩)] (encP b) (KpB w0.heap.size Bs) (fun ys=>ys=List.range (b.runs.length+1)) (fun pre=> ∃k,k≤b.runs.length+1∧pre=List.range k) (b.runs.length+1) w:=
 fun l J Jx W hW _ _ hY h0=>(parts1_in F n hf hro hn l Bs b w0 J Jx hY W ((hW.block Bs hB.lt).trans hB) (hbw.trans (hW.mono hbw.size)) hb h0).mono fun _ _ h=>h
end Go.Proofs.YtjodlngbiikgfaaGreatDoor
namespace Go.Proofs.YtjodlngbiikgfaaGreatDoor
open Go.RowKit Go.Shelf
attribute [local go_sem] Oper.semAt_some
def Buf.agg (b:Buf):Value:= .agg #[.int .i64 b.limit,b.vm,b.vr]
theorem blk_own {A B:World}{g:Nat}{t:TypeId}{cs:Array Value}{row:Option Nat}(h:Blk A g t cs)(hg:A.grownBy B row)(hr: ∀r,row=some r→ ∃o:Obj,A.heap[r]?=some o∧o.isCells=false):Blk B g t cs:=
 (hg.block g h.lt (fun e=>by
  obtain⟨o,ho,hc⟩:=hr g e.symm;have h':A.heap[g]?=some (.cells cs t):=h;rw[h']at ho;injection ho with ho;subst ho;cases hc)).trans h
theorem keeps_below {W W':World}(h:Below W.heap.size W W'):KeepsOthers W W':=KeepsOthers.of_grownBy (grown_of_below h none) (fun j o e=>by cases e)
theorem parts_eq (b:Buf):b.bu.parts=(List.range (b.runs.length+1)).map fun k=>ens (b.part k).2:=by
 rw[List.range_succ_eq_map,List.map_cons,List.map_map];show ens b.mem::(b.runs.map fun p=>ens p.2)=_
 congr 1
 apply List.ext_getElem
 ·simp
 ·intro i h1 h2
  have hi:i<b.runs.length:=by simpa using h1
  simp[Buf.part,hi]
theorem isE_parts (b:Buf)(e:En):isE b.bu.all e=(List.range (b.runs.length+1)).any fun k=>isE (ens (b.part k).2) e:=by
 unfold Bu.all;rw[isE_flat,parts_eq,List.any_map];rfl
set_option maxRecDepth 100000 in
set_option maxHeartbeats 4000000 in
theorem has_any (b:Buf)(x:Ent)(w:World)(hb:b.ok w)(hU: ∀k,Up (ens (b.part k).2))(hl: ∀k,(b.part k).2.length≤1000000):
 Calls Tryz.prog 144 #[b.agg,x.agg] w fun e w'=>e= .returned (.bool (isE b.bu.all x.e))∧Below w.heap.size w w':=by
 have HO:=Lib.hid hb;have HU:=Lib.hid hU;have HL:=Lib.hid hl;have HBS:=Lib.hid (fun k w' (h:Below w.heap.size w w')=>bsearch_any (b.part k).1 (b.part k).2 x w' ((hb.part k).below h) (hl k) (hU k));have HIS:=Lib.hid (isE_parts b x.e);unfold Buf.agg;unfold Ent.agg at HBS⊢;clear hb hU hl;refine(callsIn_wide (n:=3)).1 ?_;refine callsIn_of_wp_marks Tryz.func144 rfl trivial ?_ rfl;simp only[Tryz.ntmps144,List.size_toArray,List.length_cons,List.length_nil,Nat.reduceAdd,Nat.reduceSub,Array.replicate_succ,Array.replicate_zero,List.push_toArray,List.append_toArray,List.nil_append,List.cons_append]
 gi_wp2_with (refine⟨trivial,?_⟩;gi_at_call 83;refine(callsIn_wide.2 (parts_any b _)).mono ?_;rintro e w' ⟨rfl,rfl⟩)
 have hB0:Below w.heap.size w ((((w.alloc (.cells #[.int .i64 b.limit,b.vm,b.vr] 29)).alloc (.cells #[.string (str x.e.key),.int .i64 x.e.t,.int .i64 x.e.s,x.v,.bool x.e.met] 63)).alloc (.cells #[.bool false] 4)).alloc (.cells #[.int .i64 b.limit,b.vm,b.vr] 29)):=
  ((((Below.refl _ w).alloc (Nat.le_refl _) _).alloc (by simp) _).alloc (by simp;omega) _).alloc (by simp;omega) _
 have k1:=(Blk.new (w.alloc (.cells #[.int .i64 b.limit,b.vm,b.vr] 29)) 63 #[.string (str x.e.key),.int .i64 x.e.t,.int .i64 x.e.s,x.v,.bool x.e.met]).alloc (.cells #[.bool false] 4)|>.alloc (.cells #[.int .i64 b.limit,b.vm,b.vr] 29);have k2:=(Blk.new ((w.alloc (.cells #[.int .i64 b.limit,b.vm,b.vr] 29)).alloc (.cells #[.string (str x.e.key),.int .i64 x.e.t,.int .i64 x.e.s,x.v,.bool x.e.met] 63)) 4 #[.bool false]).alloc (.cells #[.int .i64 b.limit,b.vm,b.vr] 29);have k3:=Blk.new (((w.alloc (.cells #[.int .i64 b.limit,b.vm,b.vr] 29)).alloc (.cells #[.string (str x.e.key),.int .i64 x.e.t,.int .i64 x.e.s,x.v,.bool x.e.met] 63)).alloc (.cells #[.bool false] 4)) 29 #[.int .i64 b.limit,b.vm,b.vr];simp only[World.size_alloc]at k1 k2 k3;obtain⟨W0,hW0⟩: ∃W0,(((w.alloc (.cells #[.int .i64 b.limit,b.vm,b.vr] 29)).alloc (.cells #[.string (str x.e.key),.int .i64 x.e.t,.int .i64 x.e.s,x.v,.bool x.e.met] 63)).alloc (.cells #[.bool false] 4)).alloc (.cells #[.int .i64 b.limit,b.vm,b.vr] 29)=W0:=⟨_,rfl⟩;have hsz:W0.heap.size=w.heap.size+4:=by rw[←hW0];simp
 rw[hW0]at hB0 k1 k2 k3⊢
 refine wpIn_rangeFunc_ownF rfl (by omega) (gf:=135) (lb:= #[.pointer (some ⟨w.heap.size+1+1+1,0,none⟩)]) rfl trivial (enters_of Tryz.func135 (by kernel_rfl) rfl)
  (parts_stops Fence.wide _ trivial rfl (by omega) (w.heap.size+1+1+1) b W0 k3 w hB0 HO.out) KpB.trans (KpB.put (by omega) (by omega)) (Below.refl _ _) (fun _=>rfl)
  (fun pre W=>((∀k∈pre,isE (ens (b.part k).2) x.e=false)∧Blk W (w.heap.size+1) 63 #[.string (str x.e.key),.int .i64 x.e.t,.int .i64 x.e.s,x.v,.bool x.e.met]∧Blk W (w.heap.size+1+1) 4 #[.bool false]∧w.heap.size+4≤W.heap.size)∧Below w.heap.size w W)
  (fun c pre W=>(c= .ret∧(∃k∈pre,isE (ens (b.part k).2) x.e=true)∧Blk W (w.heap.size+1+1) 4 #[.bool true])∧Below w.heap.size w W)
  (OwnFrom.and (Own.from (fun s A B row hs hg hr=>⟨hs.1,blk_own hs.2.1 hg hr,blk_own hs.2.2.1 hg hr,Nat.le_trans hs.2.2.2 hg.size⟩) _) (ownFrom_below (Nat.le_refl _) (by omega)))
  (fun c=>OwnFrom.and (Own.from (fun s A B row hs hg hr=>⟨hs.1,hs.2.1,blk_own hs.2.2 hg hr⟩) _) (ownFrom_below (Nat.le_refl _) (by omega)))
  ⟨⟨nofun,k1,k2,by omega⟩,hB0⟩
  (fun k=> {tmps:= #[.agg #[.int .i64 b.limit,b.vm,b.vr],.agg #[.string (str x.e.key),.int .i64 x.e.t,.int .i64 x.e.s,x.v,.bool x.e.met],.pointer (some ⟨w.heap.size,0,none⟩),.pointer (some ⟨w.heap.size+1,0,none⟩),.pointer (some ⟨w.heap.size+1+1,0,none⟩),undef,(b.part k).1,undef,undef,
   .agg #[.int .i64 b.limit,b.vm,b.vr],.func (.func 135) #[] #[.pointer (some ⟨w.heap.size+1+1+1,0,none⟩)],.int .i64 (idxP k),(b.part k).1,undef,undef,undef,undef,undef,undef,undef],defers:=[]}) ?assign ?body ?done ?stop
 case assign=>
  intro l k W K hK;dsimp only[encP]
  gi_wp2
  exact hK
 case body=>
  rintro l pre k W ⟨⟨hp,hK1,hK2,hWs⟩,hB⟩ _;have y0:=hK1.cell 0 _ rfl;have y1:=hK1.cell 1 _ rfl;have y2:=hK1.cell 2 _ rfl;have y3:=hK1.cell 3 _ rfl;have y4:=hK1.cell 4 _ rfl;have HBK:=Lib.hid (HBS.out k W hB);cases his:isE (ens (b.part k).2) x.e with
  |false=>
   have HIK:=Lib.hid his;simp only[his]at HBK;clear his
   gi_wp2_with (refine⟨trivial,?_⟩;gi_at_call 146;refine(CallsIn.inRound l (callsIn_wide.2 HBK.out)).mono ?_;rintro e w5 ⟨i,_,rfl,-,rfl,hb5⟩)
   exact⟨keeps_below hb5,KpB.of_below (by omega) (by omega) hb5,⟨fun j hj=>by
    rcases List.mem_append.1 hj with hj|hj
    ·exact hp j hj
    ·rw[List.mem_singleton.1 hj];exact HIK.out,hK1.below hb5,hK2.below hb5,Nat.le_trans hWs hb5.size⟩,below_trans hB hb5⟩
  |true=>
   have HIK:=Lib.hid his;simp only[his]at HBK;clear his
   gi_wp2_with (refine⟨trivial,?_⟩;gi_at_call 146;refine(CallsIn.inRound l (callsIn_wide.2 HBK.out)).mono ?_;rintro e w5 ⟨i,_,rfl,-,rfl,hb5⟩;have z0:=(hK2.below hb5).cell 0 _ rfl;have f0:=(hK2.below hb5).free 0)
   exact⟨(keeps_below hb5).trans (KeepsOthers.setCell _ _ _),⟨rfl,⟨k,by simp,HIK.out⟩,(hK2.below hb5).set_ 0 (.bool true)⟩,(below_trans hB hb5).setCell (p:=⟨w.heap.size+1+1,0,none⟩) (by show w.heap.size≤w.heap.size+1+1;omega) _⟩
 case done=>
  rintro D ys W hD rfl ⟨⟨hne,hK1,hK2,-⟩,hB⟩ hK;have z0:=hK2.cell 0 _ rfl;have f0:=hK2.free 0
  gi_wp2
  have hK':=(KeepsOthers.setCell W ⟨w.heap.size+1+1,0,none⟩ (.bool false)).same D _ hK rfl;refine⟨by simp,.inl ⟨_,_,rfl,run_takeDeferred hK',?_⟩⟩;have hc5:=cell_kept ((hK2.set_ 0 (.bool false)).cell 0 (.bool false) rfl) (grownBy_putObj' _ D (.deferred none)) (fun r e=>by cases e;exact⟨_,hK',rfl⟩);refine⟨.bool false,?_,?_,(hB.setCell (p:=⟨w.heap.size+1+1,0,none⟩) (by show w.heap.size≤w.heap.size+1+1;omega) _).trans (belowK_b (w:=W0) (by omega) _ D _ _ hD hK' rfl rfl)⟩
  ·simp[results,Tryz.results144,go_sem,hc5]
  ·rw[HIS.out,show((List.range (b.runs.length+1)).any fun k=>isE (ens (b.part k).2) x.e)=false from List.any_eq_false.2 fun k hk=>by rw[hne k hk];simp]
 case stop=>
  rintro D c pre W hD hpre ⟨⟨rfl,hin,hK2⟩,hB⟩ hK
  gi_wp2
  refine⟨by simp,.inl ⟨_,_,rfl,run_takeDeferred hK,?_⟩⟩;have hc5:=cell_kept (hK2.cell 0 (.bool true) rfl) (grownBy_putObj' _ D (.deferred none)) (fun r e=>by cases e;exact⟨_,hK,rfl⟩);refine⟨.bool true,?_,?_,hB.trans (belowK_b (w:=W0) (by omega) W D _ _ hD hK rfl rfl)⟩
  ·simp[results,Tryz.results144,go_sem,hc5]
  ·obtain⟨k,hk,hh⟩:=hin
   obtain⟨q,hq,rfl⟩:=hpre;rw[HIS.out,show((List.range (b.runs.length+1)).any fun k=>isE (ens (b.part k).2) x.e)=true from List.any_eq_true.2 ⟨k,by rw[List.mem_range]at hk⊢;omega,hh⟩]
end Go.Proofs.YtjodlngbiikgfaaGreatDoor
namespace Go.Proofs.YtjodlngbiikgfaaGreatDoor
open Go.RowKit
def Buf.pre (b:Buf) (j:Nat):List En:=(List.range j).flatMap fun k=>ens (b.part k).2
theorem pre_succ (b:Buf)(j:Nat):b.pre (j+1)=b.pre j++ens (b.part j).2:=by
 unfold Buf.pre;rw[List.range_succ,List.flatMap_append];simp
theorem pre_all (b:Buf):b.bu.all=b.pre (b.runs.length+1):=by
 unfold Bu.all Buf.pre;rw[parts_eq,List.flatMap_def]
theorem pre_mono (b:Buf){i j:Nat}(h:i≤j):(b.pre i).length≤(b.pre j).length:=by
 induction j with
 |zero=>have:i=0:=by omega
        subst this;exact Nat.le_refl _
 |succ j ih=>
  rcases Nat.lt_or_ge i (j+1)with h1|h1
  ·have:=ih (by omega)
   rw[pre_succ,List.length_append];omega
  ·have:i=j+1:=by omega
   subst this;exact Nat.le_refl _
theorem ens_take {l:List Ent}{k:Nat}{x:Ent}(h:l[k]?=some x):(ens l).take (k+1)=(ens l).take k++[x.e]:=by
 rw[List.take_add_one,ens_at h];rfl
end Go.Proofs.YtjodlngbiikgfaaGreatDoor
namespace Go.Proofs.YtjodlngbiikgfaaGreatDoor
open Go.RowKit
theorem ite_iff {p q:Prop}[Decidable p][Decidable q]{α:Type}{a b:α}(h:p↔q):(if p then a else b)=if q then a else b:=by
 by_cases hp:p
 ·rw[if_pos hp,if_pos (h.1 hp)]
 ·rw[if_neg hp,if_neg (fun hq=>hp (h.2 hq))]
theorem Buf.fit.part {b:Buf}(h:b.fit)(k:Nat):(∀x∈(b.part k).2,FineE x.e)∧(b.part k).2.length≤2199023255552:=by
 cases k with
 |zero=>exact⟨h.mem,h.lmem⟩
 |succ k=>
  show(∀x∈((b.runs[k]?).getD (.slice none 0 0,[])).2,FineE x.e)∧((b.runs[k]?).getD (.slice none 0 0,[])).2.length≤2199023255552;cases hx:b.runs[k]? with
  |none=>exact⟨nofun,by simp⟩
  |some p=>exact⟨h.runs p (List.mem_of_getElem? hx),h.lruns p (List.mem_of_getElem? hx)⟩
theorem Buf.fit.all {b:Buf}(h:b.fit): ∀e∈b.bu.all,FineE e:=by
 intro e he;rw[pre_all]at he;obtain⟨k,-,he⟩:=List.mem_flatMap.1 he;obtain⟨x,hx,rfl⟩:=List.mem_map.1 he;exact(h.part k).1 x hx
theorem take_all {α:Type}{l:List α}{k:Nat}{x:α}(h:l[k]?=some x)(f:α→Bool):(l.take (k+1)).all f=((l.take k).all f&&f x):=by
 rw[List.take_add_one,h,List.all_append];simp
theorem part_run (b:Buf){k:Nat}{p:Value×List Ent}(h:b.runs[k]?=some p):b.part (k+1)=p:=by simp[Buf.part,h]
end Go.Proofs.YtjodlngbiikgfaaGreatDoor
namespace Go.Proofs.YtjodlngbiikgfaaGreatDoor
open Go.RowKit
end Go.Proofs.YtjodlngbiikgfaaGreatDoor
namespace Go.Proofs.YtjodlngbiikgfaaGreatDoor
open Go.RowKit
structure OwnBuf (w:World) (base:Nat) (b:Buf):Prop where
 mem:OwnE w base b.vm b.mem
 sl:w.ownsRow base 26 1 b.vr b.runs.length (b.runs.map (·.1))
 runs: ∀p∈b.runs,OwnE w base p.1 p.2
 far: ∀p∈b.runs,∀k,EBlk p.1 p.2 k→ ¬EBlk b.vm b.mem k∧b.vr.ownBlock≠some k
 mr: ∀k,EBlk b.vm b.mem k→b.vr.ownBlock≠some k
 pair:b.runs.Pairwise fun p q=> ∀k,EBlk p.1 p.2 k→ ¬EBlk q.1 q.2 k
theorem OwnBuf.ok {w:World}{base:Nat}{b:Buf}(h:OwnBuf w base b):b.ok w:=⟨h.mem.ents,Sl.of_own h.sl,fun p hp=>(h.runs p hp).ents⟩
theorem OwnBuf.below {w w':World}{base:Nat}{b:Buf}(h:OwnBuf w base b)(hb:Below w.heap.size w w'):OwnBuf w' base b:=
 ⟨h.mem.below hb,own_below h.sl hb,fun p hp=>(h.runs p hp).below hb,h.far,h.mr,h.pair⟩
theorem OwnBuf.drew {w:World}{base:Nat}{b:Buf}(h:OwnBuf w base b):OwnBuf w.drew base b:=⟨h.mem.drew,h.sl,fun p hp=>(h.runs p hp).drew,h.far,h.mr,h.pair⟩
theorem OwnBuf.low {w:World}{base base':Nat}{b:Buf}(h:OwnBuf w base b)(hb:base'≤base):OwnBuf w base' b:=
 ⟨h.mem.low hb,own_low h.sl hb,fun p hp=>(h.runs p hp).low hb,h.far,h.mr,h.pair⟩
theorem eblk_nil {v:Value}{k:Nat}(hv:v.ownBlock=none): ¬EBlk v [] k:=by
 rintro(h|⟨c,hc,-⟩)
 ·rw[hv]at h;cases h
 ·cases hc
theorem OwnBuf.empty (w:World)(base:Nat)(limit:Int):OwnBuf w base ⟨limit,.slice none 0 0,[],.slice none 0 0,[]⟩:=
 ⟨OwnE.nil _ _,⟨rfl,.inl ⟨rfl,rfl⟩⟩,nofun,nofun,fun k hk=>absurd hk (eblk_nil rfl),.nil⟩
theorem OwnBuf.setFar {w:World}{base:Nat}{b:Buf}(h:OwnBuf w base b){p:Addr}(hp:p.block<base)(u:Value):OwnBuf (w.setCell p u) base b:=
 ⟨h.mem.set hp u,own_set h.sl (fun k hk e=>by have:=own_ge h.sl k hk;omega) u,fun q hq=>(h.runs q hq).set hp u,h.far,h.mr,h.pair⟩
theorem OwnBuf.apart {w w':World}{base base':Nat}{b:Buf}{v:Value}{l:List Ent}(h:OwnBuf w base b)(hn:OwnE w' base' v l)(hb:w.heap.size≤base'){k:Nat}(hk:EBlk v l k): ¬EBlk b.vm b.mem k∧b.vr.ownBlock≠some k∧ ∀p∈b.runs,¬EBlk p.1 p.2 k:=by
 have h1:=(hn.range hk).1;refine⟨fun h2=> ?_,fun h2=> ?_,fun p hp h2=> ?_⟩
 ·have:=(h.mem.range h2).2;omega
 ·have:=(h.sl.lt k h2).2;omega
 ·have:=((h.runs p hp).range h2).2;omega
theorem OwnBuf.setMem {w:World}{base:Nat}{b:Buf}{v:Value}{l:List Ent}(h:OwnBuf w base b)(hn:OwnE w base v l)(hf: ∀k,EBlk v l k→b.vr.ownBlock≠some k∧ ∀p∈b.runs,¬EBlk p.1 p.2 k):OwnBuf w base ⟨b.limit,v,l,b.vr,b.runs⟩:=
 ⟨hn,h.sl,h.runs,fun p hp k hk=>⟨fun h2=>(hf k h2).2 p hp hk,(h.far p hp k hk).2⟩,fun k hk=>(hf k hk).1,h.pair⟩
theorem OwnBuf.noMem {w:World}{base:Nat}{b:Buf}(h:OwnBuf w base b):OwnBuf w base ⟨b.limit,.slice none 0 0,[],b.vr,b.runs⟩:=
 h.setMem (OwnE.nil _ _) fun k hk=>absurd hk (eblk_nil rfl)
theorem OwnBuf.memGrown {w w':World}{base:Nat}{b:Buf}{v:Value}{l:List Ent}(h:OwnBuf w base b)(hn:OwnE w' base v l)(hg:w.grownBy w' b.vm.ownBlock)(hf: ∀k,EBlk v l k→EBlk b.vm b.mem k∨w.heap.size≤k):OwnBuf w' base ⟨b.limit,v,l,b.vr,b.runs⟩:=by
 refine⟨hn,h.sl.kept hg ?_,fun p hp=>(h.runs p hp).grown hg fun k hk e=>(h.far p hp k hk).1 (.inl e),fun p hp k hk=>⟨fun h2=> ?_,(h.far p hp k hk).2⟩,fun k hk h2=> ?_,h.pair⟩
 ·cases hv:b.vr.ownBlock with
  |none=>exact .inl rfl
  |some k=>exact .inr fun e=>h.mr k (.inl e.symm) hv
 ·rcases hf k h2 with h3|h3
  ·exact(h.far p hp k hk).1 h3
  ·have:=((h.runs p hp).range hk).2;omega
 ·rcases hf k hk with h3|h3
  ·exact h.mr k h3 h2
  ·have:=(h.sl.lt k h2).2;omega
theorem OwnBuf.snoc {w w':World}{base:Nat}{b:Buf}{v v':Value}{l:List Ent}(h:OwnBuf w base b)(hn:OwnE w base v l)(hf: ∀k,EBlk v l k→ ¬EBlk b.vm b.mem k∧b.vr.ownBlock≠some k∧ ∀p∈b.runs,¬EBlk p.1 p.2 k)
 (hown:w'.ownsRow base 26 1 v' (b.runs.length+1) (b.runs.map (·.1)++[v])) (hg:w.grownBy w' b.vr.ownBlock) (hat:v'.ownBlock=b.vr.ownBlock∨v'.ownBlock=some w.heap.size):OwnBuf w' base ⟨b.limit,b.vm,b.mem,v',b.runs++[(v,l)]⟩:=by
 have hv: ∀k,v'.ownBlock=some k→b.vr.ownBlock=some k∨k=w.heap.size:=fun k hk=>by
  rcases hat with e|e
  ·exact .inl (e▸hk)
  ·rw[e]at hk;injection hk with hk;exact .inr hk.symm
 refine⟨h.mem.grown hg fun k hk=>h.mr k hk,?_,fun p hp=> ?_,fun p hp k hk=> ?_,fun k hk h2=> ?_,?_⟩
 ·show w'.ownsRow base 26 1 v' (b.runs++[(v,l)]).length ((b.runs++[(v,l)]).map (·.1))
  rw[List.length_append,List.map_append];exact hown
 ·rcases List.mem_append.1 hp with hp|hp
  ·exact(h.runs p hp).grown hg fun k hk=>(h.far p hp k hk).2
  ·simp only[List.mem_singleton]at hp
   subst hp;exact hn.grown hg fun k hk=>(hf k hk).2.1
 ·rcases List.mem_append.1 hp with hp|hp
  ·refine⟨(h.far p hp k hk).1,fun h2=> ?_⟩
   rcases hv k h2 with h3|h3
   ·exact(h.far p hp k hk).2 h3
   ·have:=((h.runs p hp).range hk).2;omega
  ·simp only[List.mem_singleton]at hp
   subst hp;refine⟨(hf k hk).1,fun h2=> ?_⟩;rcases hv k h2 with h3|h3
   ·exact(hf k hk).2.1 h3
   ·have:=(hn.range hk).2;omega
 ·rcases hv k h2 with h3|h3
  ·exact h.mr k hk h3
  ·have:=(h.mem.range hk).2;omega
 ·refine List.pairwise_append.2 ⟨h.pair,List.pairwise_singleton _ _,fun p hp q hq k hk h2=> ?_⟩
  simp only[List.mem_singleton]at hq;subst hq;exact(hf k h2).2.2 p hp hk
theorem runI:EInfo Tryz.prog 26 1 24:=by
 have h:(Tryz.prog.info? 26).map (fun i=>(i.zero,i.size,i.bytes))=some (some (.slice none 0 0),1,24):=by kernel_rfl
 obtain⟨i,hi,h1,h2,h3⟩:=info_parts h;exact⟨i,_,hi,h1,h2,h3,rfl,by omega⟩
def siftK (b:Buf) (f:En→List En) (j:Nat):Bu:=⟨b.limit,if j=0 then[]else(ens b.mem).flatMap f,((b.runs.take (j-1)).map fun p=>(ens p.2).flatMap f).filter fun l=> !l.isEmpty⟩
theorem siftK_all (b:Buf)(f:En→List En):siftK b f (b.runs.length+1)=siftB b.bu f:=by
 unfold siftK siftB Buf.bu;rw[if_neg (by omega),Nat.add_sub_cancel,List.take_length];simp[List.map_map,Function.comp_def]
theorem siftK_one (b:Buf)(f:En→List En):siftK b f 1=⟨b.limit,(ens b.mem).flatMap f,[]⟩:=by simp[siftK]
theorem siftK_succ (b:Buf)(f:En→List En){j:Nat}{p:Value×List Ent}(hx:b.runs[j]?=some p):siftK b f (j+2)=⟨b.limit,(siftK b f (j+1)).mem,(siftK b f (j+1)).runs++if(ens p.2).flatMap f=[]then[]else[(ens p.2).flatMap f]⟩:=by
 unfold siftK;rw[if_neg (by omega),if_neg (by omega),show j+2-1=j+1 from rfl,Nat.add_sub_cancel,List.take_add_one,hx,List.map_append,List.filter_append]
 congr 1
 congr 1
 by_cases h:(ens p.2).flatMap f=[]
 ·rw[if_pos h];simp[h]
 ·rw[if_neg h];simp[h]
end Go.Proofs.YtjodlngbiikgfaaGreatDoor
namespace Go.Proofs.YtjodlngbiikgfaaGreatDoor
open Go.RowKit
theorem wpListIn_app {F:Fence}{q:Nat}{P:Program}{w:World}{ops:Array Oper}{rest:List Oper}{o:Oper}{a:Act}{Q:Exit→Act→World→Prop}(hgd:o.guard=none)(s x:Operand)(t:TypeId)
 (ho:o.op= .call {callee:= .builtin .append,args:= #[s,x],argTypes:= #[t,t]})
 (base:Nat) (e:TypeId) (size bytes:Nat) (ht:P.underlying t=some (.slice e)) (hi:EInfo P e size bytes)
 (v:Value) (n:Nat) (xs:List Value) (hv:a.eval s=v) (hown:w.ownsRow base e size v n xs) (sv:Value) (m:Nat) (news:List Value) (hx:a.eval x=sv) (hs:Sl w sv m news) (hl:news.length=m*size) (h1: ∀u∈news,u.oneCell'=true)
 (h63:n+m≤maxLen) (hbytes:(n+m)*bytes≤140737488355328) (hbase:base≤w.heap.size)
 (h: ∀v' w',w'.ownsRow base e size v' (n+m) (xs++news)→w.grownBy w' v.ownBlock→(v'.ownBlock=v.ownBlock∨v'.ownBlock=some w.heap.size)→wpListIn F q P ops Q rest (a.put o.dst v') w'):wpListIn F q P ops Q (o::rest) a w:=by
 refine wpListIn_plain hgd fun K hK'=> ?_;obtain⟨v',w',hrun,r1,r2,r3⟩:=run_app (P:=P) (w:=w) base t o.type e size bytes ht hi v n xs hown sv m news hs hl h1 h63 hbytes hbase;unfold Oper.wpIn;refine⟨?_,?_⟩
 ·simp[Oper.about,ho,resolve,Target.leads,Sem.run_pure]
 ·rw[Oper.semAt_plain F _ _ (by rw[ho];intro c hc';cases hc')]
  simp[execOp,ho,resolve,invoke,builtin,hv,hx,hrun,Result.andThen];exact hK' _ _ (h v' w' r1 r2 r3)
def RecRow (A:World) (row:Option Nat):Prop:= ∀r,row=some r→ ∃o:Obj,A.heap[r]?=some o∧o.isCells=false
theorem RecRow.cells {A:World}{row:Option Nat}(h:RecRow A row){g:Nat}{cs:Array Value}{t:TypeId}{fr:Nat×Nat}(hg:A.heap[g]?=some (.cells cs t fr)):row≠some g:=fun e=>by
 obtain⟨o,ho,hc⟩:=h g e;rw[hg]at ho;injection ho with ho;subst ho;cases hc
theorem own_rec {A B:World}{row:Option Nat}{base:Nat}{e:TypeId}{size:Nat}{v:Value}{n:Nat}{xs:List Value}(h:A.ownsRow base e size v n xs)(hg:A.grownBy B row)(hr:RecRow A row):B.ownsRow base e size v n xs:=by
 refine h.kept hg ?_;rcases h.2 with⟨hv,-⟩|⟨g,cap,cur,hv,-,hb,-⟩
 ·exact .inl (by rw[hv];rfl)
 ·exact .inr fun e=>hr.cells hb (by rw[←e,hv];rfl)
theorem sl_rec {A B:World}{row:Option Nat}{v:Value}{n:Nat}{cs:List Value}(h:Sl A v n cs)(hg:A.grownBy B row)(hr:RecRow A row):Sl B v n cs:=by
 obtain⟨X,c,rfl,h1,h2,h0,h3⟩:=h;refine⟨X,c,rfl,h1,h2,h0,fun hne=> ?_⟩;obtain⟨b,off,rfl,hc⟩:=h3 hne;refine⟨b,off,rfl,fun j u hj=> ?_⟩;have hcc:=hc j u hj;have hlt:=World.block_lt_of_cell? A _ hcc
 have hne:some b≠row:=fun e=>by
  obtain⟨o,ho,hoc⟩:=hr b e.symm;simp only[World.cell?,ho]at hcc;cases o<;>simp_all[Obj.isCells]
 rw[World.cell?_of_block (hg.block b hlt hne)];exact hcc
theorem OwnE.recd {A B:World}{row:Option Nat}{base:Nat}{v:Value}{l:List Ent}(h:OwnE A base v l)(hg:A.grownBy B row)(hr:RecRow A row):OwnE B base v l:=
 ⟨own_rec h.own hg hr,fun c hc=>sl_rec (h.rows c hc) hg hr,fun c hc k hk=>⟨(h.far c hc k hk).1,Nat.lt_of_lt_of_le (h.far c hc k hk).2.1 hg.size,(h.far c hc k hk).2.2⟩⟩
theorem OwnBuf.recd {A B:World}{row:Option Nat}{base:Nat}{b:Buf}(h:OwnBuf A base b)(hg:A.grownBy B row)(hr:RecRow A row):OwnBuf B base b:=
 ⟨h.mem.recd hg hr,own_rec h.sl hg hr,fun p hp=>(h.runs p hp).recd hg hr,h.far,h.mr,h.pair⟩
def sstep (b:Buf) (f:En→List En) (u:Bu) (k:Nat):Bu:=
 if k=0 then⟨u.limit,(ens (b.part k).2).flatMap f,u.runs⟩else if(ens (b.part k).2).flatMap f=[]then u else⟨u.limit,u.mem,u.runs++[(ens (b.part k).2).flatMap f]⟩
def siftP (b:Buf) (f:En→List En) (pre:List Nat):Bu:=pre.foldl (sstep b f) ⟨b.limit,[],[]⟩
theorem siftP_snoc (b:Buf)(f:En→List En)(pre:List Nat)(k:Nat):siftP b f (pre++[k])=sstep b f (siftP b f pre) k:=by unfold siftP;rw[List.foldl_append];rfl
theorem siftP_range (b:Buf)(f:En→List En): ∀j,j≤b.runs.length+1→siftP b f (List.range j)=siftK b f j
 |0,_=>by simp[siftP,siftK]
 |1,_=>by
  rw[show List.range 1=[]++[0]from rfl,siftP_snoc,siftK_one];simp[siftP,sstep,Buf.part]
 |j+2,h=>by
  rw[List.range_succ,siftP_snoc,siftP_range b f (j+1) (by omega)];have hx:=List.getElem?_eq_getElem (l:=b.runs) (i:=j) (by omega);rw[siftK_succ b f hx];unfold sstep;rw[if_neg (by omega),part_run b hx];by_cases h0:(ens b.runs[j].2).flatMap f=[]
  ·rw[if_pos h0,if_pos h0,List.append_nil];rfl
  ·rw[if_neg h0,if_neg h0];rfl
theorem siftP_all (b:Buf)(f:En→List En):siftP b f (List.range (b.runs.length+1))=siftB b.bu f:=by rw[siftP_range b f _ (Nat.le_refl _),siftK_all]
theorem siftP_limit (b:Buf)(f:En→List En)(pre:List Nat):(siftP b f pre).limit=b.limit:=by
 have: ∀(l:List Nat) (u:Bu),(l.foldl (sstep b f) u).limit=u.limit:=by
  intro l
  induction l with
  |nil=>exact fun _=>rfl
  |cons k t ih=>
   intro u;rw[List.foldl_cons,ih];unfold sstep;split
   ·rfl
   ·split<;>rfl
 exact this pre _
def siftF (keep met:En→Bool) (e:En):List En:=if keep e=true then[{e with met:=met e}]else[]
theorem siftF_true {keep met:En→Bool}{e:En}(h:keep e=true):siftF keep met e=[{e with met:=met e}]:=if_pos h
theorem siftF_false {keep met:En→Bool}{e:En}(h:keep e=false):siftF keep met e=[]:=if_neg (by rw[h];simp)
theorem kp_grown {m Bs:Nat}{W W':World}{row:Option Nat}(hg:W.grownBy W' row)(hm:m≤W.heap.size)(hB:Bs<W.heap.size)(hr: ∀k,row=some k→m≤k∧k≠Bs):KpB m Bs W W':=
 ⟨(Below.refl m W).grown hg hm (fun k hk=>(hr k hk).1),hg.block Bs hB (fun e=>(hr Bs e.symm).2 rfl)⟩
theorem ko_own {W W':World}{base:Nat}{e:TypeId}{size:Nat}{v:Value}{n:Nat}{xs:List Value}(h:W.ownsRow base e size v n xs)(hg:W.grownBy W' v.ownBlock):KeepsOthers W W':=
 KeepsOthers.of_grownBy hg fun j o hj ho=>by
  rcases h.2 with⟨hv,-⟩|⟨g,cap,cur,hv,-,hb,-⟩
  ·rw[hv]at hj;cases hj
  ·rw[hv]at hj
   have:g=j:=by simpa[Value.ownBlock]using hj
   subst this;rw[hb]at ho;injection ho with ho;rw[←ho];rfl
end Go.Proofs.YtjodlngbiikgfaaGreatDoor
namespace Go.Proofs.YtjodlngbiikgfaaGreatDoor
open Go.Lib (compareBytes)
theorem flat_filter (L:List (List En)):(L.filter fun l=> !l.isEmpty).flatten=L.flatten:=by
 induction L with
 |nil=>rfl
 |cons a t ih=>
  cases a with
  |nil=>simpa using ih
  |cons x u=>simp[ih]
theorem flat_flatMap (L:List (List En))(f:En→List En):(L.map fun l=>l.flatMap f).flatten=L.flatten.flatMap f:=by
 induction L with
 |nil=>rfl
 |cons a t ih=>rw[List.map_cons,List.flatten_cons,ih,List.flatten_cons,List.flatMap_append]
theorem siftB_all (b:Bu)(f:En→List En):(siftB b f).all=b.all.flatMap f:=by
 show(b.mem.flatMap f::((b.runs.map fun l=>l.flatMap f).filter fun l=> !l.isEmpty)).flatten=_;rw[List.flatten_cons,flat_filter,flat_flatMap,←List.flatMap_append];rfl
theorem mem_siftF {keep met:En→Bool}{x y:En}(h:y∈siftF keep met x):keep x=true∧y= {x with met:=met x}:=by
 unfold siftF at h;by_cases hk:keep x=true
 ·rw[if_pos hk]at h
  exact⟨hk,List.mem_singleton.1 h⟩
 ·rw[if_neg hk]at h
  cases h
theorem sift_pair {keep met:En→Bool}{R:En→En→Prop}(hR: ∀x y m n,R x y→R {x with met:=m} {y with met:=n}): ∀ {l:List En},l.Pairwise R→(l.flatMap (siftF keep met)).Pairwise R
 |[],_=> .nil
 |x::t,h=>by
  obtain⟨h1,h2⟩:=List.pairwise_cons.1 h;rw[List.flatMap_cons];refine List.pairwise_append.2 ⟨?_,sift_pair hR h2,fun y hy z hz=> ?_⟩
  ·unfold siftF
   split
   ·exact List.pairwise_singleton _ _
   ·exact .nil
  ·obtain⟨-,rfl⟩:=mem_siftF hy
   obtain⟨u,hu,hz⟩:=List.mem_flatMap.1 hz;obtain⟨-,rfl⟩:=mem_siftF hz;exact hR _ _ _ _ (h1 u hu)
theorem sift_len {keep met:En→Bool}: ∀(l:List En),(l.flatMap (siftF keep met)).length≤l.length
 |[]=>Nat.le_refl _
 |x::t=>by
  have h1:(siftF keep met x).length≤1:=by unfold siftF;split<;>simp
  have h2:=sift_len (keep:=keep) (met:=met) t;rw[List.flatMap_cons,List.length_append,List.length_cons];omega
theorem sift_good {b:Bu}{keep met:En→Bool}(h:GoodB b):GoodB (siftB b (siftF keep met)):=by
 have hin: ∀e∈(siftB b (siftF keep met)).all,∃x∈b.all,e= {x with met:=met x}:=by
  intro e he;rw[siftB_all]at he;obtain⟨x,hx,he⟩:=List.mem_flatMap.1 he;exact⟨x,hx,(mem_siftF he).2⟩
 refine⟨h.limit,?_,?_,?_,?_,?_,?_⟩
 ·rw[siftB_all]
  exact Nat.le_trans (sift_len _) h.few
 ·have:=sift_len (keep:=keep) (met:=met) b.mem
  have h2:=h.mem;show((b.mem.flatMap (siftF keep met)).length:Int)≤b.limit;omega
 ·intro l hl
  have:=(List.mem_filter.1 hl).2;intro e;rw[e]at this;simp at this
 ·intro l hl
  rcases List.mem_cons.1 hl with rfl|hl
  ·exact sift_pair (fun _ _ _ _ h=>h) (h.up b.mem (by simp[Bu.parts]))
  ·obtain⟨m,hm,rfl⟩:=List.mem_map.1 (List.mem_filter.1 hl).1
   exact sift_pair (fun _ _ _ _ h=>h) (h.up m (by simp[Bu.parts,hm]))
 ·intro e he
  obtain⟨x,hx,rfl⟩:=hin e he;exact h.ok x hx
 ·rw[siftB_all]
  exact sift_pair (fun _ _ _ _ h=>h) h.alone
theorem putB_perm (b:Bu)(e:En):(putB b e).all.Perm (e::b.all):=by
 unfold putB;have h1:b.all=b.mem++b.runs.flatten:=by simp[Bu.all,Bu.parts]
 rw[h1];split
 ·show([]::(b.runs++[insE b.mem e])).flatten.Perm _
  rw[List.flatten_cons,List.flatten_append,List.nil_append];simp only[List.flatten_cons,List.flatten_nil,List.append_nil];exact(List.perm_append_comm).trans ((insE_perm b.mem e).append_right _)
 ·show(insE b.mem e::b.runs).flatten.Perm _
  rw[List.flatten_cons];exact(insE_perm b.mem e).append_right _
theorem put_good {b:Bu}{e:En}(h:GoodB b)(hp:putE b e=0):GoodB (putB b e):=by
 obtain⟨h1,h2,h3⟩:okE e=true∧isE b.all e=false∧b.all.length<4096:=by
  unfold putE at hp;by_cases a1:okE e=false
  ·rw[if_pos a1]at hp;cases hp
  ·rw[if_neg a1]at hp
   by_cases a2:isE b.all e=true
   ·rw[if_pos a2]at hp;cases hp
   ·rw[if_neg a2]at hp
    by_cases a3:4096≤b.all.length
    ·rw[if_pos a3]at hp;cases hp
    ·exact⟨by simpa using a1,by simpa using a2,by omega⟩
 have hP:=putB_perm b e
 have hmem:isE b.mem e=false:=by
  rw[isE_no]at h2⊢;exact fun x hx=>h2 x (by unfold Bu.all Bu.parts;simp[hx])
 have hup:=insE_up (h.up b.mem (by simp[Bu.parts])) hmem;have hlim:(putB b e).limit=b.limit:=by unfold putB;split<;>rfl
 have hA:Alone (putB b e).all:=by
  refine alone_perm hP.symm (List.pairwise_cons.2 ⟨fun x hx e0=> ?_,h.alone⟩);have:=(isE_no.1 h2) x hx;rw[cmpE_flip e x,e0]at this;exact this rfl
 refine⟨by rw[hlim];exact h.limit,?_,?_,?_,?_,?_,hA⟩
 ·rw[hP.length_eq,List.length_cons];omega
 ·unfold putB
  split
  ·show((0:Nat):Int)≤b.limit
   have:=h.limit;omega
  ·rename_i hn
   show((insE b.mem e).length:Int)≤b.limit;omega
 ·intro l hl
  unfold putB at hl;split at hl
  ·rcases List.mem_append.1 hl with hl|hl
   ·exact h.full l hl
   ·simp only[List.mem_singleton]at hl
    subst hl;intro e0;have:=(insE_perm b.mem e).length_eq;rw[e0]at this;simp at this
  ·exact h.full l hl
 ·intro l hl
  unfold putB at hl;split at hl
  ·rcases List.mem_cons.1 hl with rfl|hl
   ·exact .nil
   ·rcases List.mem_append.1 hl with hl|hl
    ·exact h.up l (by simp[Bu.parts,hl])
    ·simp only[List.mem_singleton]at hl
     subst hl;exact hup
  ·rcases List.mem_cons.1 hl with rfl|hl
   ·exact hup
   ·exact h.up l (by simp[Bu.parts,hl])
 ·intro x hx
  rcases List.mem_cons.1 (hP.subset hx)with rfl|hx
  ·exact h1
  ·exact h.ok x hx
structure AlikeB (a b:Bu):Prop where
 one:GoodB a
 two:GoodB b
 perm:a.all.Perm b.all
theorem isE_perm {l m:List En}(h:l.Perm m)(e:En):isE l e=isE m e:=by
 unfold isE;rw[Bool.eq_iff_iff,List.any_eq_true,List.any_eq_true];exact⟨fun⟨x,hx,h2⟩=>⟨x,h.subset hx,h2⟩,fun⟨x,hx,h2⟩=>⟨x,h.symm.subset hx,h2⟩⟩
theorem AlikeB.err {a b:Bu}(h:AlikeB a b)(e:En):putE a e=putE b e:=by
 unfold putE;rw[isE_perm h.perm,h.perm.length_eq]
theorem AlikeB.putS {a b:Bu}(h:AlikeB a b)(e:En):putS a e=(if putE b e≠0 then(noB,putE b e)else(putB a e,0))∧Go.Proofs.YtjodlngbiikgfaaGreatDoor.putS b e=(if putE b e≠0 then(noB,putE b e)else(putB b e,0)):=by
 constructor
 ·unfold Go.Proofs.YtjodlngbiikgfaaGreatDoor.putS
  rw[if_neg (fun hn=>hn (check_zeroB.2 h.one)),h.err e]
 ·unfold Go.Proofs.YtjodlngbiikgfaaGreatDoor.putS
  rw[if_neg (fun hn=>hn (check_zeroB.2 h.two))]
theorem AlikeB.put {a b:Bu}(h:AlikeB a b){e:En}(hp:putE b e=0):AlikeB (putB a e) (putB b e):=
 ⟨put_good h.one ((h.err e).trans hp),put_good h.two hp,(putB_perm a e).trans ((h.perm.cons e).trans (putB_perm b e).symm)⟩
theorem dropB_sift' (b:Bu)(upto:Int):dropB b upto=siftB b (siftF (fun e=>decide (upto<e.t)) (fun e=>e.met)):=by
 unfold dropB
 congr 1
 funext e
 unfold siftF;by_cases h:upto<e.t
 ·rw[if_pos h,if_pos (decide_eq_true h)]
 ·rw[if_neg h,if_neg (by show ¬decide (upto<e.t)=true;simp;omega)]
theorem AlikeB.drop {a b:Bu}(h:AlikeB a b)(upto:Int):AlikeB (dropB a upto) (dropB b upto):=by
 rw[dropB_sift',dropB_sift'];exact⟨sift_good h.one,sift_good h.two,by rw[siftB_all,siftB_all];exact h.perm.flatMap_right _⟩
theorem AlikeB.sorted {a b:Bu}(h:AlikeB a b):sortE a.all=sortE b.all:=
 sortE_eq ((sortE_perm h.two.alone).trans h.perm.symm) (sortE_up _)
theorem putB_limit (b:Bu)(e:En):(putB b e).limit=b.limit:=by unfold putB;split<;>rfl
end Go.Proofs.YtjodlngbiikgfaaGreatDoor
namespace Go.Proofs.YtjodlngbiikgfaaGreatDoor
open Go.Lib (compareBytes)
def scanP (key:List UInt8) (frm upto:Int) (e:En):Bool:=(e.key==key)&&decide (frm≤e.t)&&decide (e.t≤upto)
def scanQ (key:List UInt8) (upto:Int) (e:En):Bool:=(e.key==key)&&decide (e.t≤upto)
theorem scan_head {key:List UInt8}{frm upto:Int}{x:En}(hs:0≤x.s)(h:cmpE x ⟨key,frm,-1,[],false⟩<0):scanP key frm upto x=false:=by
 rw[cmpE_neg]at h;unfold scanP;rcases h with h|⟨h1,h2|⟨h2,h3⟩⟩
 ·have: ¬x.key=key:=fun e=>by rw[show compareBytes x.key key=0 from cbE_zero.2 e]at h;omega
  simp[this]
 ·have h2':x.t<frm:=h2
  simp[show ¬frm≤x.t by omega]
 ·have h3':x.s< -1:=h3
  omega
theorem scan_tail {key:List UInt8}{frm upto:Int}{x:En}(h:0≤cmpE x ⟨key,frm,-1,[],false⟩):scanP key frm upto x=scanQ key upto x:=by
 unfold scanP scanQ;by_cases hk:x.key=key
 ·by_cases ht:frm≤x.t
  ·simp[ht]
  ·have:cmpE x ⟨key,frm,-1,[],false⟩<0:=cmpE_neg.2 (.inr ⟨hk,.inl (show x.t<frm by omega)⟩)
   omega
 ·have hb:(x.key==key)=false:=beq_eq_false_iff_ne.2 hk
  rw[hb];rfl
theorem scan_after {key:List UInt8}{frm upto:Int}{x y:En}(h0:0≤cmpE x ⟨key,frm,-1,[],false⟩)(hx:scanQ key upto x=false)(hxy:cmpE x y<0):scanQ key upto y=false:=by
 unfold scanQ at hx⊢;by_cases hk:y.key=key
 ·by_cases ht:y.t≤upto
  ·exfalso
   rw[cmpE_neg]at hxy
   have hxk:compareBytes x.key key<0∨x.key=key:=by
    rcases hxy with h|h
    ·exact .inl (hk▸h)
    ·exact .inr (h.1.trans hk)
   rcases hxk with h|h
   ·have:cmpE x ⟨key,frm,-1,[],false⟩<0:=cmpE_neg.2 (.inl h)
    omega
   ·have hxt:x.t≤upto:=by
     rcases hxy with h2|⟨-,h2|⟨h2,-⟩⟩
     ·rw[h,hk,show compareBytes key key=0 from cbE_zero.2 rfl]at h2;omega
     ·omega
     ·omega
    simp[h,hxt]at hx
  ·simp[ht]
 ·simp[hk]
theorem scan_part {l:List En}{key:List UInt8}{frm upto:Int}{i j:Nat}(hU:Up l)(hs: ∀x∈l,0≤x.s)(hp:PosE l ⟨key,frm,-1,[],false⟩ i)(hij:i≤j)(hin: ∀q x,i≤q→q<j→l[q]?=some x→scanQ key upto x=true)
 (hend: ∀x,l[j]?=some x→scanQ key upto x=false):l.filter (scanP key frm upto)=(l.take j).drop i:=by
 have h1:(l.take i).filter (scanP key frm upto)=[]:=by
  rw[List.filter_eq_nil_iff];intro x hx;obtain⟨q,hq,e⟩:=List.getElem_of_mem hx;rw[List.length_take]at hq;rw[List.getElem_take]at e;have hx':l[q]?=some x:=by rw[←e];exact List.getElem?_eq_getElem (by omega)
  rw[scan_head (hs x (List.mem_of_getElem? hx')) (hp.2 q x (by omega) hx')];simp
 have h2:((l.take j).drop i).filter (scanP key frm upto)=(l.take j).drop i:=by
  rw[List.filter_eq_self];intro x hx;obtain⟨q,hq,e⟩:=List.getElem_of_mem hx;rw[List.length_drop,List.length_take]at hq;rw[List.getElem_drop,List.getElem_take]at e;have hx':l[i+q]?=some x:=by rw[←e];exact List.getElem?_eq_getElem (by omega)
  rw[scan_tail (by have:=hp.3 (i+q) x (by omega) hx';omega)];exact hin (i+q) x (by omega) (by omega) hx'
 have h3:(l.drop j).filter (scanP key frm upto)=[]:=by
  rw[List.filter_eq_nil_iff];intro x hx;obtain⟨q,hq,e⟩:=List.getElem_of_mem hx;rw[List.length_drop]at hq;rw[List.getElem_drop]at e;have hx':l[j+q]?=some x:=by rw[←e];exact List.getElem?_eq_getElem (by omega)
  rw[scan_tail (by have:=hp.3 (j+q) x (by omega) hx';omega)];have hjl:j<l.length:=by omega
  have hy:=List.getElem?_eq_getElem hjl;have hf:=hend _ hy;by_cases h0:q=0
  ·subst h0
   rw[Nat.add_zero]at hx';rw[hy]at hx';injection hx' with hx';rw[←hx',hf];simp
  ·have hlt:=List.pairwise_iff_getElem.1 hU j (j+q) hjl (by omega) (by omega)
   rw[e]at hlt;rw[scan_after (frm:=frm) (by have:=hp.3 j _ hij hy;omega) hf hlt];simp
 have e1:l=l.take i++((l.take j).drop i++l.drop j):=by
  have:l.take j=l.take i++(l.take j).drop i:=by
   conv=>lhs;rw[←List.take_append_drop i (l.take j)]
   rw[List.take_take,Nat.min_eq_left hij]
  rw[←List.append_assoc,←this,List.take_append_drop]
 conv=>lhs;rw[e1]
 rw[List.filter_append,List.filter_append,h1,h2,h3,List.nil_append,List.append_nil]
theorem scanL_eq {b:Bu}{key:List UInt8}{frm upto:Int}{m:List En}(hg:Alone b.all)(hp:m.Perm (b.all.filter (scanP key frm upto)))(hs:m.Pairwise fun a b=> ¬cmpE b a<0):m=scanL b key frm upto:=by
 have h1:(scanL b key frm upto).Perm (b.all.filter (scanP key frm upto)):=(sortE_perm hg).filter _;have hA:Alone (b.all.filter (scanP key frm upto)):=hg.sublist List.filter_sublist;have hmA:=alone_perm hp.symm hA
 have hmU:Up m:=by
  refine List.pairwise_iff_getElem.2 fun i j hi hj hij=> ?_;have h2:=List.pairwise_iff_getElem.1 hs i j hi hj hij;have h3:=List.pairwise_iff_getElem.1 hmA i j hi hj hij;have h4:=cmpE_flip m[i] m[j];omega
 exact up_perm hmU ((sortE_up b.all).sublist List.filter_sublist) (hp.trans h1.symm)
end Go.Proofs.YtjodlngbiikgfaaGreatDoor
namespace Go.Proofs.YtjodlngbiikgfaaGreatDoor
open tm (winF)
def spanT (kind low high size side t:Int):Int×Int:=if kind=2 then(winF t size,winF t size+size-1)else if side=1 then(t+low,t+high)else(t-high,t-low)
end Go.Proofs.YtjodlngbiikgfaaGreatDoor
namespace Go.Proofs.YtjodlngbiikgfaaGreatDoor
open Go.RowKit
def keepF (keep:En→Bool) (e:En):List En:=if keep e=true then[e]else[]
end Go.Proofs.YtjodlngbiikgfaaGreatDoor
