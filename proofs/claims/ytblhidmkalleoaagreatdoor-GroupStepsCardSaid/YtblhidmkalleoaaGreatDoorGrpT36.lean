/-Groups: a list of groups of one's own (the reference's), all apart. Groups: the reference's turn: how a list of groups of one's own turns. Groups: the -/
import Derived.Test.YtblhidmkalleoaaGreatDoorGrpT20
import Derived.Test.YtblhidmkalleoaaGreatDoorGrpT21
import Derived.Test.YtblhidmkalleoaaGreatDoorGrpT23
import Derived.Test.YtblhidmkalleoaaGreatDoorGrpT22
import Derived.Test.YtblhidmkalleoaaGreatDoorGrpT10
import Derived.Test.YtblhidmkalleoaaGreatDoorGrpT34
import Derived.Test.YtblhidmkalleoaaGreatDoorGrpT13
import Derived.Test.YtblhidmkalleoaaGreatDoorGrpT3
set_option linter.unusedSimpArgs false
set_option linter.unusedVariables false
namespace Go.Proofs.YtblhidmkalleoaaGreatDoor
open Go.RowKit
def XBk (x:Gm) (k:Nat):Prop:=x.v.ownBlock=some k∨x.vb.ownBlock=some k∨ ∃q∈x.bags,q.1.ownBlock=some k
structure OG (w:World) (base:Nat) (x:Gm):Prop where
 row:Sl w x.v x.r.length (rowCells x.r)
 sl:w.ownsRow base 107 1 x.vb x.bags.length (x.bags.map (·.1))
 bag: ∀q∈x.bags,w.ownsRow base 135 4 q.1 q.2.length (tlCells q.2)
 range: ∀k,XBk x k→base≤k∧k<w.heap.size
 vvb: ∀k,x.v.ownBlock=some k→x.vb.ownBlock≠some k
 vq: ∀k,x.v.ownBlock=some k→ ∀q∈x.bags,q.1.ownBlock≠some k
 vbq: ∀k,x.vb.ownBlock=some k→ ∀q∈x.bags,q.1.ownBlock≠some k
 pair:x.bags.Pairwise fun p q=> ∀k,p.1.ownBlock=some k→q.1.ownBlock≠some k
theorem GpO.og {w:World}{base b:Nat}{x:Gm}(h:GpO w base b x):OG w base x:=⟨h.row,h.sl,h.bag,fun k hk=>h.range k (.inr hk),h.vvb,h.vq,h.vbq,h.pair⟩
theorem OG.ok {w:World}{base:Nat}{x:Gm}(h:OG w base x):x.ok w:=⟨h.row,Sl.of_own h.sl,fun q hq=>Sl.of_own (h.bag q hq)⟩
theorem OG.turned {F:Nat→Prop}{w w':World}{base:Nat}{x:Gm}(h:OG w base x)(ht:Turned F w w')(hf: ∀k,XBk x k→ ¬F k):OG w' base x:=
 ⟨sl_turned h.row ht fun k hk=>hf k (.inl hk),own_turned h.sl ht fun k hk=>hf k (.inr (.inl hk)),fun q hq=>own_turned (h.bag q hq) ht fun k hk=>hf k (.inr (.inr ⟨q,hq,hk⟩)),
  fun k hk=>⟨(h.range k hk).1,Nat.lt_of_lt_of_le (h.range k hk).2 ht.size⟩,h.vvb,h.vq,h.vbq,h.pair⟩
theorem OG.below {w w':World}{base:Nat}{x:Gm}(h:OG w base x)(hb:Below w.heap.size w w'):OG w' base x:=h.turned (turned_below (F:=fun _=>False) hb) fun _ _ hf=>hf
theorem OG.num {w:World}{base:Nat}{x:Gm}(h:OG w base x)(n:Int):OG w base ⟨x.v,x.r,n,x.vb,x.bags⟩:=⟨h.row,h.sl,h.bag,h.range,h.vvb,h.vq,h.vbq,h.pair⟩
theorem OG.setBag {w w':World}{base g cap i:Nat}{x:Gm}{q:Value×List Tl}{u:Value}{l:List Tl}(h:OG w base x)(hvb:x.vb= .slice (some ⟨g,0,none⟩) x.bags.length cap)(hq:x.bags[i]?=some q)(hg:w.grownBy w' q.1.ownBlock)(ho:OwnT w' base u l)(hu: ∀k,u.ownBlock=some k→q.1.ownBlock=some k∨w.heap.size≤k):
 OG (w'.setCell ⟨g,i,none⟩ u) base ⟨x.v,x.r,x.n,x.vb,x.bags.set i (u,l)⟩∧Turned (XBk x) w (w'.setCell ⟨g,i,none⟩ u)∧(∀k,XBk ⟨x.v,x.r,x.n,x.vb,x.bags.set i (u,l)⟩ k→XBk x k∨w.heap.size≤k):=by
 have hil:i<x.bags.length:=(List.getElem?_eq_some_iff.1 hq).1;have hqm:q∈x.bags:=List.mem_of_getElem? hq;have hgb:x.vb.ownBlock=some g:=by rw[hvb];rfl
 have ht1:=turned_grown hg;have ht2:=turned_set w' ⟨g,i,none⟩ u;have ht:Turned (fun k=>q.1.ownBlock=some k∨k=g) w (w'.setCell ⟨g,i,none⟩ u):=(ht1.imp fun k _ h=>Or.inl h).trans (ht2.imp fun k _ h=>Or.inr h)
 have hug:u.ownBlock≠some g:=fun e=>by
  rcases hu g e with h1|h1
  ·exact h.vbq g hgb q hqm h1
  ·have:=(h.range g (.inr (.inl hgb))).2;omega
 have hset: ∀p∈x.bags.set i (u,l),p=(u,l)∨ ∃j,j≠i∧x.bags[j]?=some p:=fun p hp=>by
  obtain⟨j,hj⟩:=List.mem_iff_getElem?.1 hp;by_cases hne:i=j
  ·subst hne
   rw[List.getElem?_set_self hil]at hj;injection hj with hj;exact .inl hj.symm
  ·rw[List.getElem?_set_ne hne]at hj
   exact .inr ⟨j,fun e=>hne e.symm,hj⟩
 have hoth: ∀ {j:Nat} {p:Value×List Tl},j≠i→x.bags[j]?=some p→ ∀k,p.1.ownBlock=some k→q.1.ownBlock≠some k:=fun{j p} hne hp k hk e=>by
  obtain⟨h1,e1⟩:=List.getElem?_eq_some_iff.1 hp;obtain⟨h2,e2⟩:=List.getElem?_eq_some_iff.1 hq;rcases Nat.lt_or_ge j i with hlt|hge
  ·have:=List.pairwise_iff_getElem.1 h.pair j i h1 h2 hlt
   rw[e1,e2]at this;exact this k hk e
  ·have:=List.pairwise_iff_getElem.1 h.pair i j h2 h1 (by omega)
   rw[e1,e2]at this;exact this k e hk
 have hold: ∀ {j:Nat} {p:Value×List Tl},x.bags[j]?=some p→ ∀k,p.1.ownBlock=some k→k<w.heap.size∧base≤k:=fun{j p} hp k hk=>by
  have:=h.range k (.inr (.inr ⟨p,List.mem_of_getElem? hp,hk⟩));omega
 have hsz:w.heap.size≤(w'.setCell ⟨g,i,none⟩ u).heap.size:=ht.size;have huw: ∀k,u.ownBlock=some k→k<(w'.setCell ⟨g,i,none⟩ u).heap.size:=fun k hk=>by rw[World.size_setCell];exact(ho.own.lt k hk).2
 have hub: ∀k,u.ownBlock=some k→base≤k:=fun k hk=>(ho.own.lt k hk).1;refine⟨⟨?_,?_,fun p hp=> ?_,fun k hk=> ?_,h.vvb,fun k hk p hp e=> ?_,fun k hk p hp e=> ?_,?_⟩,ht.imp fun k _ hf=> ?_,fun k hk=> ?_⟩
 ·refine sl_turned h.row ht fun k hk hf=> ?_
  rcases hf with hf|hf
  ·exact h.vq k hk q hqm hf
  ·exact h.vvb k hk (hf▸hgb)
 ·have h1:w'.ownsRow base 107 1 (.slice (some ⟨g,0,none⟩) x.bags.length cap) x.bags.length (x.bags.map (·.1)):=by
   rw[←hvb];exact own_turned h.sl ht1 fun k hk hf=>h.vbq k hk q hqm hf
  have h2:=(h1.stored i u).1;show(w'.setCell ⟨g,i,none⟩ u).ownsRow base 107 1 x.vb (x.bags.set i (u,l)).length ((x.bags.set i (u,l)).map (·.1));rw[hvb,List.length_set,List.map_set];exact h2
 ·rcases hset p hp with rfl|⟨j,hj,hjp⟩
  ·exact own_turned ho.own ht2 fun k hk hf=>hug (by rw[hk];exact congrArg some hf)
  ·refine own_turned (h.bag p (List.mem_of_getElem? hjp)) ht fun k hk hf=> ?_
   rcases hf with hf|hf
   ·exact hoth hj hjp k hk hf
   ·exact h.vbq k (hf▸hgb) p (List.mem_of_getElem? hjp) hk
 ·rcases hk with hk|hk|⟨p,hp,hk⟩
  ·have:=h.range k (.inl hk);omega
  ·have:=h.range k (.inr (.inl hk));omega
  ·rcases hset p hp with rfl|⟨j,hj,hjp⟩
   ·exact⟨hub k hk,huw k hk⟩
   ·have:=hold hjp k hk;omega
 ·rcases hset p hp with rfl|⟨j,hj,hjp⟩
  ·rcases hu k e with h1|h1
   ·exact h.vq k hk q hqm h1
   ·have:=(h.range k (.inl hk)).2;omega
  ·exact h.vq k hk p (List.mem_of_getElem? hjp) e
 ·rcases hset p hp with rfl|⟨j,hj,hjp⟩
  ·rcases hu k e with h1|h1
   ·exact h.vbq k hk q hqm h1
   ·have:=(h.range k (.inr (.inl hk))).2;omega
  ·exact h.vbq k hk p (List.mem_of_getElem? hjp) e
 ·rw[List.pairwise_iff_getElem]
  intro m n hm hn hmn k hk e
  have hnew: ∀ {j:Nat} {p:Value×List Tl},j≠i→x.bags[j]?=some p→p.1.ownBlock=some k→u.ownBlock=some k→False:=fun{j p} hj hp hk1 hk2=>by
   rcases hu k hk2 with h1|h1
   ·exact hoth hj hp k hk1 h1
   ·have:=(hold hp k hk1).1;omega
  rw[List.length_set]at hm hn;have em:=List.getElem?_eq_getElem hm;have en:=List.getElem?_eq_getElem hn;rw[List.getElem_set]at hk e;split at hk
  ·rename_i h1
   split at e
   ·omega
   ·exact hnew (by omega) en e hk
  ·rename_i h1
   split at e
   ·exact hnew (by omega) em hk e
   ·exact List.pairwise_iff_getElem.1 h.pair m n hm hn hmn k hk e
 ·rcases hf with hf|hf
  ·exact .inr (.inr ⟨q,hqm,hf⟩)
  ·exact .inr (.inl (hf▸hgb))
 ·rcases hk with hk|hk|⟨p,hp,hk⟩
  ·exact .inl (.inl hk)
  ·exact .inl (.inr (.inl hk))
  ·rcases hset p hp with rfl|⟨j,hj,hjp⟩
   ·rcases hu k hk with h1|h1
    ·exact .inl (.inr (.inr ⟨q,hqm,h1⟩))
    ·exact .inr h1
   ·exact .inl (.inr (.inr ⟨p,List.mem_of_getElem? hjp,hk⟩))
structure OGs (w:World) (base:Nat) (v:Value) (L:List Gm):Prop where
 own:w.ownsRow base 97 3 v L.length (gmCells L)
 each: ∀x∈L,OG w base x
 far: ∀x∈L,∀k,XBk x k→v.ownBlock≠some k
 apart:L.Pairwise fun x y=> ∀k,XBk x k→ ¬XBk y k
theorem OGs.nil (w:World)(base:Nat):OGs w base (.slice none 0 0) []:=⟨⟨rfl,.inl ⟨rfl,rfl⟩⟩,nofun,nofun,.nil⟩
theorem OGs.gms {w:World}{base:Nat}{v:Value}{L:List Gm}(h:OGs w base v L):Gms w v L:=⟨Sl.of_own h.own,fun x hx=>(h.each x hx).ok⟩
theorem OGs.below {w w':World}{base:Nat}{v:Value}{L:List Gm}(h:OGs w base v L)(hb:Below w.heap.size w w'):OGs w' base v L:=⟨own_below h.own hb,fun x hx=>(h.each x hx).below hb,h.far,h.apart⟩
def OBk (v:Value) (L:List Gm) (k:Nat):Prop:=v.ownBlock=some k∨ ∃x∈L,XBk x k
theorem OGs.range {w:World}{base:Nat}{v:Value}{L:List Gm}(h:OGs w base v L){k:Nat}(hk:OBk v L k):base≤k∧k<w.heap.size:=by
 rcases hk with hk|⟨x,hx,hk⟩
 ·exact h.own.lt k hk
 ·exact(h.each x hx).range k hk
theorem xbk_symm {x y:Gm}(h: ∀k,XBk x k→ ¬XBk y k): ∀k,XBk y k→ ¬XBk x k:=fun k hy hx=>h k hx hy
theorem OGs.upd {w w':World}{base:Nat}{v:Value}{L1 L2:List Gm}{x x':Gm}(h:OGs w base v (L1++x::L2))(ht:Turned (XBk x) w w')(ho:OG w' base x')(hc:x'.cells=x.cells)(hk: ∀k,XBk x' k→XBk x k∨w.heap.size≤k):OGs w' base v (L1++x'::L2):=by
 obtain⟨hp1,hp2⟩:=List.pairwise_cons.1 ((List.pairwise_middle (fun{p q} h=>xbk_symm h)).1 h.apart);have hfx:=h.far x (mem_at _ _ _);refine⟨?_,fun y hy=> ?_,fun y hy k hyk=> ?_,(List.pairwise_middle (fun{p q} h=>xbk_symm h)).2 (List.pairwise_cons.2 ⟨fun y hy k hxk hyk=> ?_,hp2⟩)⟩
 ·have h1:=own_turned h.own ht fun k hk hx=>hfx k hx hk
  have e:gmCells (L1++x'::L2)=gmCells (L1++x::L2):=by
   unfold gmCells;rw[List.flatMap_append,List.flatMap_append,List.flatMap_cons,List.flatMap_cons,hc]
  rw[e,show(L1++x'::L2).length=(L1++x::L2).length by simp];exact h1
 ·rcases mem_mid hy with rfl|hy
  ·exact ho
  ·exact(h.each y (mem_rest hy)).turned ht fun k hk hx=>hp1 y hy k hx hk
 ·rcases mem_mid hy with rfl|hy
  ·rcases hk k hyk with h1|h1
   ·exact hfx k h1
   ·exact fun e=>by have:=(h.own.lt k e).2;omega
  ·exact h.far y (mem_rest hy) k hyk
 ·rcases hk k hxk with h1|h1
  ·exact hp1 y hy k h1 hyk
  ·have:=((h.each y (mem_rest hy)).range k hyk).2;omega
theorem gm_setn (L1 L2:List Gm)(x:Gm)(n:Int):(gmCells (L1++x::L2)).set (L1.length*3+1) (.int .i64 n)=gmCells (L1++(⟨x.v,x.r,n,x.vb,x.bags⟩:Gm)::L2):=by
 induction L1 with
 |nil=>simp[gmCells,Gm.cells]
 |cons y a ih=>
  have e1:(y::a).length*3+1=a.length*3+1+1+1+1:=by simp;omega
  rw[e1];unfold gmCells at ih⊢;simp only[List.cons_append,List.flatMap_cons];rw[←ih];simp[Gm.cells]
theorem OGs.setN {w:World}{base g cap:Nat}{L1 L2:List Gm}{x:Gm}(h:OGs w base (.slice (some ⟨g,0,none⟩) (L1++x::L2).length cap) (L1++x::L2))(n:Int):
 OGs (w.setCell ⟨g,L1.length*3+1,none⟩ (.int .i64 n)) base (.slice (some ⟨g,0,none⟩) (L1++x::L2).length cap) (L1++(⟨x.v,x.r,n,x.vb,x.bags⟩:Gm)::L2)∧w.grownBy (w.setCell ⟨g,L1.length*3+1,none⟩ (.int .i64 n)) (some g):=by
 obtain⟨h1,h2⟩:=h.own.stored (L1.length*3+1) (.int .i64 n);have ht:=turned_grown h2;have hxb: ∀k,XBk (⟨x.v,x.r,n,x.vb,x.bags⟩:Gm) k→XBk x k:=fun k hk=>hk;obtain⟨hp1,hp2⟩:=List.pairwise_cons.1 ((List.pairwise_middle (fun{p q} h=>xbk_symm h)).1 h.apart);refine⟨⟨?_,fun y hy=> ?_,fun y hy k hyk=> ?_,(List.pairwise_middle (fun{p q} h=>xbk_symm h)).2 (List.pairwise_cons.2 ⟨fun y hy k hxk hyk=>hp1 y hy k hxk hyk,hp2⟩)⟩,h2⟩
 ·rw[gm_setn]at h1
  rw[show(L1++(⟨x.v,x.r,n,x.vb,x.bags⟩:Gm)::L2).length=(L1++x::L2).length by simp];exact h1
 ·have hf: ∀z∈L1++x::L2,∀k,XBk z k→ ¬(some g=some k):=fun z hz k hzk e=>h.far z hz k hzk (by injection e with e;rw[←e];rfl)
  rcases mem_mid hy with rfl|hy
  ·exact((h.each x (mem_at _ _ _)).turned ht fun k hk e=>hf x (mem_at _ _ _) k hk e).num n
  ·exact(h.each y (mem_rest hy)).turned ht fun k hk e=>hf y (mem_rest hy) k hk e
 ·rcases mem_mid hy with rfl|hy
  ·exact h.far x (mem_at _ _ _) k hyk
  ·exact h.far y (mem_rest hy) k hyk
theorem OGs.laid {w w':World}{base:Nat}{v v':Value}{L L':List Gm}(h:OGs w base v L)(hown:w'.ownsRow base 97 3 v' L'.length (gmCells L'))(hg:w.grownBy w' v.ownBlock)(hat:v'.ownBlock=v.ownBlock∨ ∀k,v'.ownBlock=some k→w.heap.size≤k)(hs:L'.Sublist L):OGs w' base v' L':=by
 refine⟨hown,fun x hx=>(h.each x (hs.mem hx)).turned (turned_grown hg) fun k hk e=>h.far x (hs.mem hx) k hk e,fun x hx k hk e=> ?_,h.apart.sublist hs⟩;rcases hat with e1|e1
 ·exact h.far x (hs.mem hx) k hk (e1▸e)
 ·have:=e1 k e
  have:=((h.each x (hs.mem hx)).range k hk).2;omega
theorem OGs.ins {w w':World}{base:Nat}{v v':Value}{L1 L2:List Gm}{x:Gm}(h:OGs w base v (L1++L2))(hown:w'.ownsRow base 97 3 v' (L1++x::L2).length (gmCells (L1++x::L2)))(hg:w.grownBy w' v.ownBlock)(hat:v'.ownBlock=v.ownBlock∨ ∀k,v'.ownBlock=some k→w.heap.size≤k)
 (hx:OG w base x) (hxv: ∀k,XBk x k→v.ownBlock≠some k) (hxl: ∀y∈L1++L2,∀k,XBk x k→ ¬XBk y k):OGs w' base v' (L1++x::L2):=by
 have h1: ∀y∈L1++x::L2,OG w base y∧ ∀k,XBk y k→v.ownBlock≠some k:=fun y hy=>by
  rcases mem_mid hy with rfl|hy
  ·exact⟨hx,hxv⟩
  ·exact⟨h.each y hy,h.far y hy⟩
 refine⟨hown,fun y hy=>(h1 y hy).1.turned (turned_grown hg) fun k hk e=>(h1 y hy).2 k hk e,fun y hy k hk e=> ?_,(List.pairwise_middle (fun{p q} h=>xbk_symm h)).2 (List.pairwise_cons.2 ⟨hxl,h.apart⟩)⟩;rcases hat with e1|e1
 ·exact(h1 y hy).2 k hk (e1▸e)
 ·have:=e1 k e
  have:=((h1 y hy).1.range k hk).2;omega
theorem OGs.snoc {w w':World}{base:Nat}{v v':Value}{L:List Gm}{x:Gm}(h:OGs w base v L)(hown:w'.ownsRow base 97 3 v' (L.length+1) (gmCells L++x.cells))(hg:w.grownBy w' v.ownBlock)(hat:v'.ownBlock=v.ownBlock∨ ∀k,v'.ownBlock=some k→w.heap.size≤k)
 (hx:OG w base x) (hxv: ∀k,XBk x k→v.ownBlock≠some k) (hxl: ∀y∈L,∀k,XBk x k→ ¬XBk y k):OGs w' base v' (L++[x]):=by
 refine OGs.ins (L1:=L) (L2:=[]) (by rw[List.append_nil];exact h) ?_ hg hat hx hxv (fun y hy=>hxl y (by rw[List.append_nil]at hy;exact hy));rw[gmCells_app,List.length_append];simpa[gmCells]using hown
end Go.Proofs.YtblhidmkalleoaaGreatDoor
namespace Go.Proofs.YtblhidmkalleoaaGreatDoor
open Go.RowKit
theorem OG.le {w:World}{base base':Nat}{x:Gm}(h:OG w base x)(hb:base'≤base):OG w base' x:=⟨h.row,own_le h.sl hb,fun q hq=>own_le (h.bag q hq) hb,fun k hk=>⟨Nat.le_trans hb (h.range k hk).1,(h.range k hk).2⟩,h.vvb,h.vq,h.vbq,h.pair⟩
theorem grpSize:(Tryz.prog.info? 97).map (·.size)=some 3:=by kernel_rfl
theorem own_shiftG {w:World}{base g m cap i c1 c2:Nat}{xs:List Value}(h:w.ownsRow base 97 3 (.slice (some ⟨g,0,none⟩) (m+1) cap) (m+1) xs)(hi:i<m)(h1: ∀v∈xs,v.oneCell'=true):
 ∃w',(∀ty,(Builtin.copy_ #[26,26] ty #[.slice (some ⟨g,(i+1)*3,none⟩) (m-i) c1,.slice (some ⟨g,i*3,none⟩) (m+1-i) c2]).run Tryz.prog w= .ok (goInt (m-i:Nat)) w')∧
  w'.ownsRow base 97 3 (.slice (some ⟨g,0,none⟩) (m+1) cap) (m+1) (xs.take ((i+1)*3)++(xs.drop (i*3)).take ((m-i)*3))∧w.grownBy w' (some g):=by
 have hx:=h.1;rcases h.2 with⟨h',-⟩|⟨g',cap',cur,h',hb,hg,hn,hc,hsz,ht⟩
 ·cases h'
 ·injection h' with e1 e2 e3
  injection e1 with e1;injection e1 with e1;subst e1 e3;have hlen:((xs.drop (i*3)).take ((m-i)*3)).length=(m-i)*3:=by rw[List.length_take,List.length_drop,hx];omega
  have hmin:Nat.min (m+1-i) (m-i)=m-i:=by show min _ _=_;omega
  have hcur:(m+1)*3≤cur.size:=by rw[hsz];exact Nat.mul_le_mul_right _ hn
  have hrun:=fun ty=>run_copy_wide (P:=Tryz.prog) w 26 26 ty 97 g ((i+1)*3) (m-i) c1 ⟨g,i*3,none⟩ (m+1-i) c2 3 cur 97 ((xs.drop (i*3)).take ((m-i)*3)) Tryz.underlying26 grpSize hg
   (by rw[hlen,hmin]) (fun j v hj=>by
    rw[List.getElem?_take]at hj;split at hj
    ·rw[List.getElem?_drop]at hj
     have:=h.cellAt (i*3+j) (by have:=(List.getElem?_eq_some_iff.1 hj).1;omega);rw[hj]at this;unfold Addr.add;split
     ·rename_i h0;subst h0;simpa using this
     ·exact this
    ·cases hj) (by rw[hlen];omega) (fun v hv=>h1 v (List.mem_of_mem_drop (List.mem_of_mem_take hv)))
  simp only[hmin]at hrun;refine⟨_,hrun,⟨?_,.inr ⟨g,cap,_,rfl,hb,setRow_heap w g cur _ 97 _ hg,hn,hc,?_,?_⟩⟩,⟨rfl,rfl,rfl,by simp[World.setRow],fun k hk hne=>setRow_other w g k _ (fun e=>hne (by rw[e]))⟩⟩
  ·rw[List.length_append,hlen,List.length_take,hx];omega
  ·simp only[List.size_toArray,List.length_append,List.length_take,List.length_drop,Array.length_toList,hlen];omega
  ·have e1:cur.toList.take ((i+1)*3)=xs.take ((i+1)*3):=by rw[←ht,List.take_take,Nat.min_eq_left (by omega)]
   rw[e1];have e4:(xs.take ((i+1)*3)++(xs.drop (i*3)).take ((m-i)*3)).length=(m+1)*3:=by rw[List.length_append,hlen,List.length_take,hx];omega
   exact List.take_left' e4
theorem gm_take (l:List Gm)(k:Nat):(gmCells l).take (k*3)=gmCells (l.take k):=flat_take Gm.cells_len l k
theorem gm_drop (l:List Gm)(k:Nat):(gmCells l).drop (k*3)=gmCells (l.drop k):=flat_drop Gm.cells_len l k
theorem gm_lay (a b:List Gm)(x c:Gm):(((gmCells (a++x::b)).set (a.length*3) c.v).set (a.length*3+1) (.int .i64 c.n)).set (a.length*3+2) c.vb=gmCells (a++c::b):=by
 induction a with
 |nil=>simp[gmCells,Gm.cells]
 |cons y a ih=>
  have e1:(y::a).length*3=a.length*3+1+1+1:=by simp;omega
  rw[e1];unfold gmCells at ih⊢;simp only[List.cons_append,List.flatMap_cons];rw[←ih];simp[Gm.cells]
theorem gm_split {l:List Gm}{i:Nat}(hi:i<l.length)(z:Gm):(l++[z]).take (i+1)=l.take i++[l[i]]∧((l++[z]).drop i).take (l.length-i)=l.drop i:=by
 constructor
 ·rw[List.take_append_of_le_length (by omega),List.take_add_one,List.getElem?_eq_getElem hi];rfl
 ·rw[List.drop_append_of_le_length (by omega),List.take_append_of_le_length (by rw[List.length_drop];omega),List.take_of_length_le (by rw[List.length_drop];omega)]
structure Tq (w:World) (base:Nat) (v0:Value) (L0:List Gm) (w':World) (v:Value) (L:List Gm):Prop where
 gs:OGs w' base v L
 turned:Turned (OBk v0 L0) w w'
 old: ∀k,k<w.heap.size→OBk v L k→OBk v0 L0 k
theorem Tq.start {w:World}{base:Nat}{v:Value}{L:List Gm}(h:OGs w base v L):Tq w base v L w v L:=⟨h,Turned.refl _ _,fun _ _ h=>h⟩
theorem Tq.below {w w1 w2:World}{base:Nat}{v0 v:Value}{L0 L:List Gm}(h:Tq w base v0 L0 w1 v L)(hb:Below w1.heap.size w1 w2):Tq w base v0 L0 w2 v L:=⟨h.gs.below hb,h.turned.transN (turned_below (F:=fun _=>False) hb) (fun _ _ f=>f.elim),h.old⟩
theorem Tq.pre {w w2 w':World}{base:Nat}{v0 v:Value}{L0 L:List Gm}(h:Tq w2 base v0 L0 w' v L)(hb:Below w.heap.size w w2):Tq w base v0 L0 w' v L:=
 ⟨h.gs,(turned_below (F:=OBk v0 L0) hb).trans h.turned,fun k hk hm=>h.old k (Nat.lt_of_lt_of_le hk hb.size) hm⟩
theorem Tq.trans {w w1 w2:World}{base:Nat}{v0 v1 v2:Value}{L0 L1 L2:List Gm}(h:Tq w base v0 L0 w1 v1 L1)(h2:Tq w1 base v1 L1 w2 v2 L2):Tq w base v0 L0 w2 v2 L2:=
 ⟨h2.gs,h.turned.transN h2.turned fun i hi hm=>h.old i hi hm,fun k hk hm=>h.old k hk (h2.old k (Nat.lt_of_lt_of_le hk h.turned.size) hm)⟩
theorem Tq.one {w w1:World}{base:Nat}{v v1:Value}{L L1:List Gm}(ho:OGs w1 base v1 L1)(ht:Turned (OBk v L) w w1)(hk: ∀k,k<w.heap.size→OBk v1 L1 k→OBk v L k):Tq w base v L w1 v1 L1:=⟨ho,ht,hk⟩
theorem Tq.upd {w w':World}{base:Nat}{v:Value}{L1 L2:List Gm}{x x':Gm}(h:OGs w base v (L1++x::L2))(ht:Turned (XBk x) w w')(ho:OG w' base x')(hc:x'.cells=x.cells)(hk: ∀k,XBk x' k→XBk x k∨w.heap.size≤k):Tq w base v (L1++x::L2) w' v (L1++x'::L2):=by
 refine⟨h.upd ht ho hc hk,ht.imp fun k _ hx=> .inr ⟨x,mem_at _ _ _,hx⟩,fun k hl hm=> ?_⟩;rcases hm with hm|⟨y,hy,hm⟩
 ·exact .inl hm
 ·rcases mem_mid hy with rfl|hy
  ·rcases hk k hm with h1|h1
   ·exact .inr ⟨x,mem_at _ _ _,h1⟩
   ·omega
  ·exact .inr ⟨y,mem_rest hy,hm⟩
theorem Tq.setN {w:World}{base g cap:Nat}{L1 L2:List Gm}{x:Gm}(h:OGs w base (.slice (some ⟨g,0,none⟩) (L1++x::L2).length cap) (L1++x::L2))(n:Int):
 Tq w base (.slice (some ⟨g,0,none⟩) (L1++x::L2).length cap) (L1++x::L2) (w.setCell ⟨g,L1.length*3+1,none⟩ (.int .i64 n)) (.slice (some ⟨g,0,none⟩) (L1++x::L2).length cap) (L1++(⟨x.v,x.r,n,x.vb,x.bags⟩:Gm)::L2):=by
 obtain⟨h1,h2⟩:=h.setN n;refine⟨h1,(turned_grown h2).imp fun k _ e=> .inl e,fun k hl hm=> ?_⟩;rcases hm with hm|⟨y,hy,hm⟩
 ·exact .inl hm
 ·rcases mem_mid hy with rfl|hy
  ·exact .inr ⟨x,mem_at _ _ _,hm⟩
  ·exact .inr ⟨y,mem_rest hy,hm⟩
theorem Tq.cut {w w':World}{base:Nat}{v v':Value}{L L':List Gm}(h:OGs w base v L)(hown:w'.ownsRow base 97 3 v' L'.length (gmCells L'))(hg:w.grownBy w' v.ownBlock)(hat:v'.ownBlock=v.ownBlock∨ ∀k,v'.ownBlock=some k→w.heap.size≤k)(hs:L'.Sublist L):Tq w base v L w' v' L':=by
 refine⟨h.laid hown hg hat hs,(turned_grown hg).imp fun k _ e=> .inl e,fun k hl hm=> ?_⟩;rcases hm with hm|⟨y,hy,hm⟩
 ·rcases hat with e|e
  ·exact .inl (e▸hm)
  ·have:=e k hm;omega
 ·exact .inr ⟨y,hs.mem hy,hm⟩
theorem Tq.put {w w6 w7:World}{base g n cap m:Nat}{v:Value}{L1 L2:List Gm}{x:Gm}(h:OGs w base v (L1++L2))(h6:w.grownBy w6 v.ownBlock)(hx:OG w6 base x)(hxm: ∀k,XBk x k→m≤k)(hgm:g<m)(hwm:w.heap.size≤m)
 (hgn:v.ownBlock=some g∨w.heap.size≤g) (hown:w7.ownsRow base 97 3 (.slice (some ⟨g,0,none⟩) n cap) (L1++x::L2).length (gmCells (L1++x::L2))) (h7:w6.grownBy w7 (some g)):Tq w base v (L1++L2) w7 (.slice (some ⟨g,0,none⟩) n cap) (L1++x::L2):=by
 have hgy: ∀y∈L1++L2,¬XBk y g:=fun y hy hk=>by
  rcases hgn with e|e
  ·exact h.far y hy g hk e
  ·have:=((h.each y hy).range g hk).2;omega
 have hxg: ¬XBk x g:=fun hk=>by have:=hxm g hk;omega
 have t6:=turned_grown h6;have t7:=turned_grown h7;refine⟨⟨hown,fun y hy=> ?_,fun y hy k hyk e=> ?_,(List.pairwise_middle (fun{p q} h=>xbk_symm h)).2 (List.pairwise_cons.2 ⟨fun y hy k hxk hyk=> ?_,h.apart⟩)⟩,?_,fun k hl hm=> ?_⟩
 ·rcases mem_mid hy with rfl|hy
  ·exact hx.turned t7 fun k hk e=>by injection e with e;exact hxg (e▸hk)
  ·exact((h.each y hy).turned t6 fun k hk e=>h.far y hy k hk e).turned t7 fun k hk e=>by injection e with e;exact hgy y hy (e▸hk)
 ·have e:g=k:=by injection e
  subst e;rcases mem_mid hy with rfl|hy
  ·exact hxg hyk
  ·exact hgy y hy hyk
 ·have h1:=hxm k hxk
  have h2:=((h.each y hy).range k hyk).2;omega
 ·refine(t6.imp (G:=OBk v (L1++L2)) fun k _ e=> .inl e).transN t7 fun k hl e=> ?_
  injection e with e;subst e;rcases hgn with e|e
  ·exact .inl e
  ·omega
 ·rcases hm with hm|⟨y,hy,hm⟩
  ·have e:g=k:=by injection hm
   subst e;rcases hgn with e|e
   ·exact .inl e
   ·omega
  ·rcases mem_mid hy with rfl|hy
   ·have:=hxm k hm;omega
   ·exact .inr ⟨y,hy,hm⟩
theorem splitL {L:List Gm}{i:Nat}{g:Gp}(h:(gps L)[i]?=some g): ∃x,L=L.take i++x::L.drop (i+1)∧x.gp=g∧gps (L.take i)=(gps L).take i∧gps (L.drop (i+1))=(gps L).drop (i+1)∧(L.take i).length=i:=by
 unfold gps at h⊢;rw[List.getElem?_map]at h;obtain⟨q,hq,e⟩:=Option.map_eq_some_iff.1 h;obtain⟨hl,rfl⟩:=List.getElem?_eq_some_iff.1 hq;refine⟨L[i],?_,e,List.map_take,List.map_drop,by rw[List.length_take];omega⟩;rw[←List.drop_eq_getElem_cons hl,List.take_append_drop]
theorem OG.made {w:World}{base m n:Nat}{v:Value}{key:List Val}{zs:Array Value}(hr:w.ownsRow base 112 3 v key.length (rowCells key))(hb:Blk w m 107 zs)(hm:base≤m)(hz:zs.toList=List.replicate n (.slice none 0 0))(hs:zs.size=n)(hn:n≤8)(hv:v.ownBlock≠some m):
 OG w base ⟨v,key,0,.slice (some ⟨m,0,none⟩) n n,List.replicate n (.slice none 0 0,[])⟩:=by
 have h1:=own_ge hr;have h2:=own_lt hr;have h3:=hb.lt;have hq: ∀q∈List.replicate n ((.slice none 0 0,[]):Value×List Tl),q.1.ownBlock=none:=fun q hq=>by rw[List.eq_of_mem_replicate hq];rfl
 refine⟨Sl.of_own hr,?_,fun q hq'=> ?_,fun k hk=> ?_,fun k hk e=> ?_,fun k _ q hq' e=> ?_,fun k _ q hq' e=> ?_,?_⟩
 ·show w.ownsRow base 107 1 (.slice (some ⟨m,0,none⟩) n n) (List.replicate n ((.slice none 0 0,[]):Value×List Tl)).length ((List.replicate n ((.slice none 0 0,[]):Value×List Tl)).map (·.1))
  rw[List.length_replicate,List.map_replicate];exact own_made hb hm hz hs hn
 ·rw[List.eq_of_mem_replicate hq']
  exact⟨rfl,.inl ⟨rfl,rfl⟩⟩
 ·rcases hk with hk|hk|⟨q,hq',hk⟩
  ·have:=h1 k hk;have:=h2 k hk;omega
  ·have:m=k:=by injection hk
   omega
  ·rw[hq q hq']at hk;cases hk
 ·have:m=k:=by injection e
  exact hv (by rw[hk,this])
 ·rw[hq q hq']at e;cases e
 ·rw[hq q hq']at e;cases e
 ·exact List.pairwise_iff_getElem.2 fun i j hi hj _ k hk=>by rw[hq _ (List.getElem_mem hi)]at hk;cases hk
theorem OGs.oneL {w:World}{base:Nat}{v:Value}{L L':List Gm}(h:OGs w base v L)(hs: ∀y∈L',y∈L): ∀u∈gmCells L',u.oneCell'=true:=fun u hu=>by
 obtain⟨x,hx,hu⟩:=List.mem_flatMap.1 hu;have ho:=h.each x (hs x hx);obtain⟨A,c,e1,-⟩:=ho.row;obtain⟨A',c',e2,-⟩:=Sl.of_own ho.sl;unfold Gm.cells at hu;rw[e1,e2]at hu;simp only[List.mem_cons,List.not_mem_nil,or_false]at hu;rcases hu with rfl|rfl|rfl<;>rfl
theorem OGs.one {w:World}{base:Nat}{v:Value}{L:List Gm}(h:OGs w base v L): ∀u∈gmCells (L++[⟨.slice none 0 0,[],0,.slice none 0 0,[]⟩]),u.oneCell'=true:=fun u hu=>by
 rw[gmCells_app]at hu;rcases List.mem_append.1 hu with hu|hu
 ·exact h.oneL (fun _ h=>h) u hu
 ·simp only[gmCells,List.flatMap_cons,List.flatMap_nil,List.append_nil,Gm.cells,List.mem_cons,List.not_mem_nil,or_false]at hu
  rcases hu with rfl|rfl|rfl<;>rfl
theorem own_cells {w:World}{base g N cap P:Nat}{L1 L2:List Gm}{x:Gm}(h:w.ownsRow base 97 3 (.slice (some ⟨g,0,none⟩) N cap) (L1++x::L2).length (gmCells (L1++x::L2)))(hP:L1.length=P):
 w.cell? ⟨g,P*3,none⟩=some x.v∧w.cell? ⟨g,P*3+1,none⟩=some (.int .i64 x.n)∧w.cell? ⟨g,P*3+2,none⟩=some x.vb:=by
 have hx:(L1++x::L2)[P]?=some x:=by rw[List.getElem?_append_right (by omega),hP,Nat.sub_self];rfl
 obtain⟨b,o,hA,-,hc⟩:=gm_at (Sl.of_own h) rfl hx;injection hA with hA;injection hA with e1 e2;subst e1 e2;have:=hc _ (Below.refl _ _);simpa only[Nat.zero_add]using this
theorem OGs.cells {w:World}{base g N cap P:Nat}{L1 L2:List Gm}{x:Gm}(h:OGs w base (.slice (some ⟨g,0,none⟩) N cap) (L1++x::L2))(hP:L1.length=P):
 w.cell? ⟨g,P*3,none⟩=some x.v∧w.cell? ⟨g,P*3+1,none⟩=some (.int .i64 x.n)∧w.cell? ⟨g,P*3+2,none⟩=some x.vb:=by
 have hx:(L1++x::L2)[P]?=some x:=by rw[List.getElem?_append_right (by omega),hP,Nat.sub_self];rfl
 obtain⟨b,o,hA,-,hc⟩:=gm_at (Sl.of_own h.own) rfl hx;injection hA with hA;injection hA with e1 e2;subst e1 e2;have:=hc _ (Below.refl _ _);simpa only[Nat.zero_add]using this
theorem gps_mid (L1 L2:List Gm)(x:Gm):gps (L1++x::L2)=gps L1++x.gp::gps L2:=by
 unfold gps;rw[List.map_append,List.map_cons]
theorem gps_app (L1 L2:List Gm):gps (L1++L2)=gps L1++gps L2:=List.map_append
end Go.Proofs.YtblhidmkalleoaaGreatDoor
namespace Go.Proofs.YtblhidmkalleoaaGreatDoor
open Go.RowKit
set_option maxHeartbeats 8000000 in
set_option maxRecDepth 10000 in
theorem rown_any (v:Value)(G:List Gm)(w:World)(hG:Gms w v G)(hf: ∀x∈G,x.r.length≤1099511627776∧x.bags.length≤1000000∧ ∀q∈x.bags,q.2.length≤1099511627776)(hl:G.length≤1000000):
 Calls Tryz.prog 77 #[v] w fun e w'=> ∃v' L,e= .returned v'∧OGs w' w.heap.size v' L∧gps L=gps G∧Below w.heap.size w w':=by
 have HG:=Lib.hid hG;have HF:=Lib.hid hf;have HCP:=Lib.hid (fun W (h:Below w.heap.size w W) (x:Gm) (hx:x∈G)=>copy_own x.v x.r W ((hG.each x hx).row.below h) (hf x hx).1);obtain⟨Ag,cg,rfl,ng,mg,-⟩:=id hG.sl;clear hG hf;go_enter Tryz.func77,Tryz.ntmps77
 go_wp2_with fail
 go_loopw[3,4] (fun ov iv wr=> ∃(k:Nat) (L:List Gm),k≤G.length∧iv= .int .i64 k∧L.length=k∧Hid (OGs wr w.heap.size ov L)∧Hid (gps L=(gps G).take k)∧Below w.heap.size w wr) (fun _ iv _=>G.length-(intOf iv).toNat)
 case atStart=>exact⟨0,[],by omega,rfl,rfl,Lib.hid (OGs.nil _ _),Lib.hid rfl,Below.refl _ _⟩
 case round=>
  rename World=>wr1
  obtain⟨k,L,hk,rfl,hL,HO,HE,hBr⟩:=hrel;have HLE:=Lib.hid hL;clear hL;by_cases hlt:k<G.length
  ·have hx:=List.getElem?_eq_getElem (l:=G) hlt
   generalize G[k]=x at hx;obtain⟨bb,ob,hAg,-,hcb⟩:=gm_at HG.out.sl rfl hx;subst hAg;have hxm:=List.mem_of_getElem? hx;have HST0:=Lib.hid (map_step (f:=id) (gps_at hx));have HCX:=Lib.hid (fun W hb=>HCP.out W hb x hxm);have HFX:=Lib.hid (HF.out x hxm);have hxo:=HG.out.each x hxm;obtain⟨Ax,kx,ex,-⟩:=id hxo.row;obtain⟨Dx,jx,fx,nx,mx,-⟩:=id hxo.sl;have HCB:=Lib.hid hcb;have HXO:=Lib.hid hxo;obtain⟨xv,xr,xn,xvb,xbags⟩:=x;simp only at ex fx HCB HCX HFX HXO nx;subst ex fx;have HSS:=Lib.hid (fun w' (h:Below w.heap.size w w')=>And.intro (HCB.out w' h).1 (HCB.out w' h).2.1);have i0:(0:Int)≤(k:Int):=by omega
   have i1:(k:Int)<(G.length:Int):=by omega
   clear hx hxm hcb hxo
   go_upto_region 5 with fail
   go_cut[5]from 7 to 53 (fun bv wx=> ∃(b:Nat) (v4:Value),bv= .pointer (some ⟨b,0,none⟩)∧Hid (GpO wx wr1.heap.size b ⟨v4,xr,xn,.slice none 0 0,[]⟩)∧Below wr1.heap.size wr1 wx)
   case first=>
    refine tr (S:=(fun w'=>w'.cell? ⟨bb,ob+k*3,none⟩=some (.slice Ax xr.length kx)∧w'.cell? ⟨bb,ob+k*3+1,none⟩=some (.int .i64 xn))) (HSS.out _ hBr.drew) (fun hHeld=> ?_);refine tk 0 ?_;refine tk 1 ?_;refine tk 2 ?_;refine tk 3 ?_;refine tk 4 ?_;refine tk 6 ?_;refine tk 7 ?_;refine tk 8 ?_;refine tk 9 ?_;refine tk 10 ?_;refine tc2 5 12 ?_ ?_;intro K hK;go_simp;refine Calls.mono (by with_reducible exact HCX.out _ hBr.drew) ?_;rintro e w4 ⟨v4,rfl,hown4,hb4⟩;obtain⟨A4,n4,m4,rfl⟩:=own_slice hown4;have hB4:=below_trans hBr.drew hb4
    go_wp2_with fail
    refine hK.out _ _ (HSS.out _ hB4) (fun hHeld5=> ?_);clear hK K;refine tk 11 ?_;refine tc 12 ?_;intro K hK;go_simp;refine hK.out _ _ (HSS.out _ (hB4.alloc hB4.size (.cells #[.slice none 0 0,.int .i64 0,.slice none 0 0] 97))) (fun hHeld12=> ?_);clear hK K;have HKY:=Lib.hid (Blk.new w4 97 #[.slice none 0 0,.int .i64 0,.slice none 0 0]);have HOY:=Lib.hid (own_below hown4 (below_alloc w4 (.cells #[.slice none 0 0,.int .i64 0,.slice none 0 0] 97)));have HBY:=Lib.hid (below_trans (below_trans (Below.refl _ wr1).drew hb4) (below_alloc w4 (.cells #[.slice none 0 0,.int .i64 0,.slice none 0 0] 97)));have hlt4:=own_lt hown4;have hge4:=own_ge hown4;have hbx:wr1.heap.size≤w4.heap.size:=hb4.size;have HNE:Hid ((Value.slice A4 n4 m4).ownBlock≠some w4.heap.size):=Lib.hid (fun e=>by have:=hlt4 _ e;omega);have HGE:Hid (∀q,(Value.slice A4 n4 m4).ownBlock=some q→wr1.heap.size≤q):=Lib.hid (fun q hq=>hge4 q hq);clear hown4 hb4 hB4 hlt4 hge4;generalize w4.alloc (.cells #[.slice none 0 0,.int .i64 0,.slice none 0 0] 97)=wy at HKY HOY HBY hHeld12⊢;generalize w4.heap.size=bx at HKY hbx HNE⊢;rotate_left;intro K hK;go_simp
    first|refine hK.out _ _ (HSS.out _ (hBr.alloc hBr.size (.cells #[.slice none 0 0,.int .i64 0,.slice none 0 0] 97)).drew) (fun hHeld12=> ?_)|refine hK.out _ _ (HSS.out _ (hBr.alloc hBr.size (.cells #[.slice none 0 0,.int .i64 0,.slice none 0 0] 97)).drew).1 (HSS.out _ (hBr.alloc hBr.size (.cells #[.slice none 0 0,.int .i64 0,.slice none 0 0] 97)).drew).2 (fun _ _=> ?_)
    clear hK K;refine tc 5 ?_;intro K hK;go_simp;refine Calls.mono (by with_reducible exact HCX.out _ (hBr.alloc hBr.size (.cells #[.slice none 0 0,.int .i64 0,.slice none 0 0] 97)).drew) ?_;rintro e w4 ⟨v4,rfl,hown4,hb4⟩;obtain⟨A4,n4,m4,rfl⟩:=own_slice hown4;have hB4:=below_trans (hBr.alloc hBr.size (.cells #[.slice none 0 0,.int .i64 0,.slice none 0 0] 97)).drew hb4
    go_wp2_with fail
    refine hK.out _ _ (HSS.out _ hB4) (fun hHeld5=> ?_);clear hK K;refine tk 11 ?_;have HKY:=Lib.hid ((Blk.new wr1 97 #[.slice none 0 0,.int .i64 0,.slice none 0 0]).drew.below hb4);have HOY:=Lib.hid (own_le hown4 (show wr1.drew.heap.size≤(wr1.alloc (.cells #[.slice none 0 0,.int .i64 0,.slice none 0 0] 97)).drew.heap.size by rw[World.size_drew,World.size_drew,World.size_alloc];omega));have HBY:=Lib.hid (below_trans (below_alloc wr1 (.cells #[.slice none 0 0,.int .i64 0,.slice none 0 0] 97)).drew hb4);have hge4:=own_ge hown4;have hbx:wr1.heap.size≤wr1.heap.size:=Nat.le_refl _;have HNE:Hid ((Value.slice A4 n4 m4).ownBlock≠some wr1.heap.size):=Lib.hid (fun e=>by have:=hge4 _ e;rw[World.size_drew,World.size_alloc]at this;omega);have HGE:Hid (∀q,(Value.slice A4 n4 m4).ownBlock=some q→wr1.heap.size≤q):=Lib.hid (fun q hq=>by have:=hge4 q hq;rw[World.size_drew,World.size_alloc]at this;omega);clear hown4 hb4 hB4 hge4;rename World=>wy
    obtain⟨bx,hbxe⟩: ∃y,wr1.heap.size=y:=⟨_,rfl⟩;rw[hbxe]at HKY HNE⊢;replace hbx:wr1.heap.size≤bx:=by omega
    clear hbxe
    all_goals
     have HWY:=Lib.hid (below_trans hBr HBY.out);have t0:=HKY.out.cell 0 _ rfl;have t1:=HKY.out.cell 1 _ rfl;have t2:=HKY.out.cell 2 _ rfl;have g0:=HKY.out.free 0;have g1:=HKY.out.free 1;have g2:=HKY.out.free 2;have KZ:=HKY.out.setAll [.slice A4 n4 m4,.int .i64 xn,.slice none 0 0] rfl;have hbz:=below_setAll (l:=[.slice A4 n4 m4,.int .i64 xn,.slice none 0 0]) (i:=0) HBY.out (g:=bx) hbx;have hrz:=Sl.setAll (g:=bx) (l:=[.slice A4 n4 m4,.int .i64 xn,.slice none 0 0]) (i:=0) (Sl.of_own HOY.out) (fun q hq e=>HNE.out (by rw[hq,e]));simp only[setAll,Nat.reduceAdd]at KZ hbz hrz;have hlt:=own_lt HOY.out;have hltb:=HKY.out.lt
     have HGO:=Lib.hid (show GpO _ wr1.heap.size bx ⟨.slice A4 n4 m4,xr,xn,.slice none 0 0,[]⟩from by
      refine⟨KZ,hrz,⟨rfl,.inl ⟨rfl,rfl⟩⟩,nofun,fun q hq=> ?_,HNE.out,nofun,nofun,fun q _ e=>(by cases e),fun q _ z hz=>(by cases hz),fun q _ z hz=>(by cases hz),List.Pairwise.nil⟩;rw[World.size_setCell,World.size_setCell,World.size_setCell];rcases hq with rfl|hq|hq|⟨z,hz,-⟩
      ·exact⟨hbx,hltb⟩
      ·exact⟨HGE.out q hq,hlt q hq⟩
      ·cases hq
      ·cases hz)
     have HBZ:=Lib.hid hbz;clear KZ hbz hrz hlt hltb;refine tc 13 ?_;intro K hK;go_simp;refine hK.out _ _ (HSS.out _ (below_trans hBr HBZ.out)) (fun hHeld13=> ?_);clear hK K;refine td ?_;go_wp2
     go_meet
     exact⟨_,_,rfl,HGO,HBZ.out⟩
   case rest=>
    obtain⟨bx,v4,rfl,HX0,hbc⟩:=hcut;have HBC:=Lib.hid hbc;clear HSS HCX hbc
    go_wp2_with fail
    go_loopw[6] (fun iv wr=> ∃(j:Nat) (vb:Value) (bags:List (Value×List Tl)),j≤xbags.length∧iv= .int .i64 j∧Hid (bags.map (·.2)=(xbags.take j).map (·.2))∧Hid (GpO wr wr1.heap.size bx ⟨v4,xr,xn,vb,bags⟩)∧Hid (Below wr1.heap.size wr1 wr)) (fun iv _=>xbags.length-(intOf iv).toNat)
    case atStart=>exact⟨0,_,[],by omega,rfl,Lib.hid rfl,HX0,HBC⟩
    case round=>
     rename World=>wr2
     obtain⟨j,vb,bags,hj,rfl,HBG,HX,HBR⟩:=hrel;obtain⟨Av,nv,cv,rfl⟩:=own_slice HX.out.sl;have hB2:=below_trans hBr HBR.out;have z2:=(HCB.out _ hB2).2.2;by_cases hlj:j<xbags.length
     ·have hq:=List.getElem?_eq_getElem (l:=xbags) hlj
      generalize xbags[j]=q at hq;obtain⟨bq,oq,hDx,-,hcq⟩:=cellv_at HXO.out.sl rfl hq;subst hDx;have hqm:=List.mem_of_getElem? hq;have HBQ:=Lib.hid (HXO.out.bags q hqm);have HQL:=Lib.hid (HFX.out.2.2 q hqm);have HST:=Lib.hid (map_step (f:=fun q:Value×List Tl=>q.2) hq);obtain⟨Aq,cq,eq,-⟩:=id HBQ.out;have HCQ:=Lib.hid hcq;obtain⟨qv,ql⟩:=q;simp only at eq HBQ HQL HST HCQ;subst eq;have hlen:bags.length=j:=by have:=congrArg List.length HBG.out;simp at this;omega
      have hxb:=HFX.out.2.1;have Q1:Hid (bags.length+1≤maxLen):=Lib.hid (by unfold maxLen;omega);have Q2:Hid ((bags.length+1)*24≤140737488355328):=Lib.hid (by omega);have QL1:Hid (0+ql.length≤maxLen):=Lib.hid (by have:=HQL.out;unfold maxLen;omega);have QL2:Hid ((0+ql.length)*40≤140737488355328):=Lib.hid (by have:=HQL.out;omega);have HS9:=Lib.hid (fun w' (h:Below w.heap.size w w')=>And.intro (HCB.out w' h).2.2 (HCQ.out w' h));have HBE2:=Lib.hid (show Below wr2.heap.size wr2 ((wr2.alloc (.cells #[] 135)).drew)from(below_alloc wr2 (.cells #[] 135)).drew);have HBE:=Lib.hid (below_trans hB2 HBE2.out);have HOE:=Lib.hid (show((wr2.alloc (.cells #[] 135)).drew).ownsRow wr2.heap.size 135 4 (.slice (some ⟨wr2.heap.size,0,none⟩) 0 0) 0 []from own_drew (own_emptyT wr2 wr2.heap.size 135 4 (Nat.le_refl _)));have HSQ:=Lib.hid (HBQ.out.below HBE.out);have HSE:Hid (wr2.heap.size≤((wr2.alloc (.cells #[] 135)).drew).heap.size):=Lib.hid HBE2.out.size;have j0:(0:Int)≤(j:Int):=by omega
      have j1:(j:Int)<(xbags.length:Int):=by omega
      clear hq hqm hcq hlen
      go_upto_region 9 with fail
      refine tr (S:=(fun w'=>w'.cell? ⟨bb,ob+k*3+2,none⟩=some (.slice (some ⟨bq,oq,none⟩) xbags.length jx)∧w'.cell? ⟨bq,oq+j,none⟩=some (.slice Aq ql.length cq))) (HS9.out _ hB2.drew) (fun hHeld=> ?_);refine tk 0 ?_;refine tk 3 ?_;refine tk 4 ?_;refine tk 5 ?_;refine tk 6 ?_;refine tk 7 ?_;refine tk 8 ?_;refine tk 9 ?_;refine tk 10 ?_;refine tc2 1 2 ?_ ?_;intro K hK;have y2:=(HX.out.cell).drew.cell 2 _ rfl;go_simp;clear y2;refine hK.out _ _ (HS9.out _ hB2.drew) (fun hHeld1=> ?_);clear hK K;refine tc 2 ?_;intro K hK;go_simp;refine hK.out _ _ (HS9.out _ HBE.out) (fun hHeld2=> ?_);clear hK K;refine tc 11 ?_;intro K hK;refine step_app (by rfl) _ _ 107 (by rfl) wr2.heap.size 135 4 40 Tryz.underlying107 tlI (.slice (some ⟨wr2.heap.size,0,none⟩) 0 0) 0 _ (by rfl) HOE.out _ ql.length (tlCells ql) (by rfl) HSQ.out (tlCells_len ql) (tlCells_one ql) QL1.out QL2.out HSE.out ?_;intro v2 w2 hown2 hg2 hat2;obtain⟨Au,nu,cu,rfl⟩:=own_slice hown2;rw[Nat.zero_add,List.nil_append]at hown2;have hbw2:=HBE2.out.grown hg2 HBE2.out.size (fun j hj=>own_ge HOE.out j hj);refine hK.out _ _ (HS9.out _ (below_trans hB2 hbw2)) (fun hHeld11=> ?_);clear hK K;refine tc 12 ?_;intro K hK;go_simp;refine hK.out _ _ (HS9.out _ (below_trans hB2 (below_trans hbw2 (below_alloc w2 (.cells #[.slice Au nu cu] 107))))) (fun hHeld12=> ?_);clear hK K;rotate_left;intro K hK;go_simp;refine hK.out _ _ (HS9.out _ HBE.out) (fun hHeld2=> ?_);clear hK K;refine tc2 1 11 ?_ ?_;intro K hK;have y2:=(HX.out.cell.below HBE2.out).cell 2 _ rfl;go_simp;clear y2;refine hK.out _ _ (HS9.out _ HBE.out) (fun hHeld1=> ?_);clear hK K;refine tc 11 ?_;intro K hK;refine step_app (by rfl) _ _ 107 (by rfl) wr2.heap.size 135 4 40 Tryz.underlying107 tlI (.slice (some ⟨wr2.heap.size,0,none⟩) 0 0) 0 _ (by rfl) HOE.out _ ql.length (tlCells ql) (by rfl) HSQ.out (tlCells_len ql) (tlCells_one ql) QL1.out QL2.out HSE.out ?_;intro v2 w2 hown2 hg2 hat2;obtain⟨Au,nu,cu,rfl⟩:=own_slice hown2;rw[Nat.zero_add,List.nil_append]at hown2;have hbw2:=HBE2.out.grown hg2 HBE2.out.size (fun j hj=>own_ge HOE.out j hj);refine hK.out _ _ (HS9.out _ (below_trans hB2 hbw2)) (fun hHeld11=> ?_);clear hK K;refine tc 12 ?_;intro K hK;go_simp;refine hK.out _ _ (HS9.out _ (below_trans hB2 (below_trans hbw2 (below_alloc w2 (.cells #[.slice Au nu cu] 107))))) (fun hHeld12=> ?_);clear hK K;rotate_left;intro K hK;refine step_app (by rfl) _ _ 107 (by rfl) wr2.heap.size 135 4 40 Tryz.underlying107 tlI (.slice (some ⟨wr2.heap.size,0,none⟩) 0 0) 0 _ (by rfl) HOE.out _ ql.length (tlCells ql) (by rfl) HSQ.out (tlCells_len ql) (tlCells_one ql) QL1.out QL2.out HSE.out ?_;intro v2 w2 hown2 hg2 hat2;obtain⟨Au,nu,cu,rfl⟩:=own_slice hown2;rw[Nat.zero_add,List.nil_append]at hown2;have hbw2:=HBE2.out.grown hg2 HBE2.out.size (fun j hj=>own_ge HOE.out j hj);refine hK.out _ _ (HS9.out _ (below_trans hB2 hbw2)) (fun hHeld11=> ?_);clear hK K;refine tc2 1 12 ?_ ?_;intro K hK;have y2:=(HX.out.cell.below hbw2).cell 2 _ rfl;go_simp;clear y2;refine hK.out _ _ (HS9.out _ (below_trans hB2 hbw2)) (fun hHeld1=> ?_);clear hK K;refine tc 12 ?_;intro K hK;go_simp;refine hK.out _ _ (HS9.out _ (below_trans hB2 (below_trans hbw2 (below_alloc w2 (.cells #[.slice Au nu cu] 107))))) (fun hHeld12=> ?_);clear hK K;rotate_left;intro K hK;go_simp;refine hK.out _ _ (HS9.out _ (below_trans hB2 (below_trans hbw2 (below_alloc w2 (.cells #[.slice Au nu cu] 107))))) (fun hHeld12=> ?_);clear hK K;refine tc 1 ?_;intro K hK;have y2:=((HX.out.cell.below hbw2).alloc (.cells #[.slice Au nu cu] 107)).cell 2 _ rfl;go_simp;clear y2;refine hK.out _ _ (HS9.out _ (below_trans hB2 (below_trans hbw2 (below_alloc w2 (.cells #[.slice Au nu cu] 107))))) (fun hHeld1=> ?_);clear hK K
      all_goals
       refine tc 13 ?_;intro K hK;refine step_app (by rfl) _ _ 95 (by rfl) wr1.heap.size 107 1 24 Tryz.underlying95 bagI (.slice Av nv cv) bags.length _ (by rfl) ((own_below HX.out.sl hbw2).alloc (.cells #[.slice Au nu cu] 107)) _ 1 [.slice Au nu cu] (by rfl) (Sl.block (Blk.new w2 107 #[.slice Au nu cu]) 1 1 (Nat.le_refl _) (by decide)) rfl (by simp[Value.oneCell']) Q1.out Q2.out (by have h1:=hbw2.size;have h2:=HBR.out.size;simp;omega) ?_;intro v3 w3 hown3 hg3 hat3;obtain⟨A3,n3,c3,rfl⟩:=own_slice hown3;have hg4:=grown_trans (grown_of_below (below_alloc w2 (.cells #[.slice Au nu cu] 107)) _) hg3;have KB:=(HX.out.cell.below (below_trans hbw2 (below_alloc w2 (.cells #[.slice Au nu cu] 107)))).grown hg3 HX.out.bvb;have b2:=KB.cell 2 _ rfl;have fb2:=KB.free 2;have hrr:=HX.out.addBag (u:=Value.slice Au nu cu) (l:=ql) hbw2 ⟨own_le hown2 HBR.out.size⟩ (fun j hj=>own_ge hown2 j hj) hown3 hg4 (hat3.imp id fun e j hj=>by rw[e]at hj;injection hj with hj;have:(w2.alloc (.cells #[.slice Au nu cu] 107)).heap.size=j:=hj;rw[World.size_alloc]at this;omega);have HX2:=Lib.hid hrr.1
       have HBR2:=Lib.hid (below_turned HBR.out hrr.2 (fun j hj=>by
        rcases hj with hj|hj
        ·have:=(HX.out.range j (.inl hj)).1;omega
        ·have:=(HX.out.range j (.inr (.inr (.inl hj)))).1;omega))
       have hwr:=hBr.size;have hB3:=(below_trans hB2 (below_trans hbw2 (below_alloc w2 (.cells #[.slice Au nu cu] 107)))).grown hg3 (below_trans hB2 (below_trans hbw2 (below_alloc w2 (.cells #[.slice Au nu cu] 107)))).size (fun j hj=>by have:=(HX.out.range j (.inr (.inr (.inl hj)))).1;omega);refine hK.out _ _ (HS9.out _ hB3) (fun hHeld13=> ?_);clear hK K;refine tk 14 ?_;refine tc 15 ?_;intro K hK;go_simp;refine hK.out _ _ (HS9.out _ (below_trans hBr HBR2.out)) (fun hHeld15=> ?_);clear hK K;refine td ?_;have HBG2:Hid ((bags++[((Value.slice Au nu cu,ql):Value×List Tl)]).map (·.2)=(xbags.take (j+1)).map (·.2)):=Lib.hid (by rw[HST.out,List.map_append,HBG.out];rfl);clear hrr hown2 hown3 hg3 hg4 hat3 hg2 hat2 hbw2 KB b2 fb2;go_wp2;go_roundw
       case rel=>
        first
         |exact⟨j+1,_,_,by omega,by go_num,HBG2,HX2,HBR2⟩
         |((repeat apply Exists.intro);exact⟨⟨j+1,_,_,by omega,by go_num,HBG2,HX2,HBR2⟩,rfl⟩)
       case measure=>simp[intOf];omega
     ·obtain rfl:j=xbags.length:=by omega
      have hq1: ¬(xbags.length:Int)<(xbags.length:Int):=by omega
      obtain⟨A4,n4,m4,rfl⟩: ∃A n m,v4= .slice A n m:=by obtain⟨A,c,e,-⟩:=HX.out.row;exact⟨A,_,c,e⟩
      have t0:=HX.out.cell.cell 0 _ rfl;have t1:=HX.out.cell.cell 1 _ rfl;have t2:=HX.out.cell.cell 2 _ rfl;have HE3:Hid (bags.map (·.2)=xbags.map (·.2)):=Lib.hid (by have:=HBG.out;rwa[List.take_length]at this);have hB3:=hB2.alloc hB2.size (.cells #[.slice A4 n4 m4,.int .i64 xn,.slice Av nv cv] 97);have HO3:=Lib.hid (HO.out.below (below_trans HBR.out (below_alloc wr2 (.cells #[.slice A4 n4 m4,.int .i64 xn,.slice Av nv cv] 97))));have HX3:=Lib.hid ((HX.out.og.below (below_alloc wr2 (.cells #[.slice A4 n4 m4,.int .i64 xn,.slice Av nv cv] 97))).le hBr.size);have HG3:=Lib.hid (one_gm wr2 ⟨.slice A4 n4 m4,xr,xn,.slice Av nv cv,bags⟩);simp only at HG3;have hLk:=HLE.out;have HXR:=Lib.hid HX.out.range;clear HBG
      go_wp2_with (at_builtin;refine wpList_app rfl (.tmp 50) (.tmp 52) 26 rfl w.heap.size 97 3 56 Tryz.underlying26 grpI u3 L.length _ rfl HO3.out.own _ 1 (Gm.cells ⟨.slice A4 n4 m4,xr,xn,.slice Av nv cv,bags⟩) rfl HG3.out rfl (by simp[Gm.cells,Value.oneCell']) (by unfold maxLen;omega) (by omega) hB3.size ?_)
      intro v5 w5 hown5 hg5 hat5
      try rw[←hLk]at hown5
      have HO5:=Lib.hid (HO3.out.snoc (x:=⟨.slice A4 n4 m4,xr,xn,.slice Av nv cv,bags⟩) hown5 hg5 (hat5.imp id fun e q hq=>by rw[e]at hq;injection hq with hq;have h9:=HBR.out.size;have h8:=hBr.size;(try rw[World.size_alloc]);omega) HX3.out (fun q hq e=>by
       have h1:=(HXR.out q (.inr hq)).1;have h2:=(HO.out.own.lt q e).2;omega) (fun y hy q hq e=>by
       have h1:=(HXR.out q (.inr hq)).1;have h2:=((HO.out.each y hy).range q e).2;omega))
      have hB5:=hB3.grown hg5 hB3.size (fun q hq=>own_ge HO3.out.own q hq)
      have HE5:Hid (gps (L++[⟨.slice A4 n4 m4,xr,xn,.slice Av nv cv,bags⟩])=(gps G).take (k+1)):=Lib.hid (by
       have h1:=HST0.out;simp only[List.map_id]at h1;rw[h1,←HE.out];unfold gps;rw[List.map_append]
       congr 1
       show[Gm.gp _]=[Gm.gp _];unfold Gm.gp;simp only[HE3.out])
      clear hown5 hg5 hat5;go_wp2;go_roundw
      case rel=>
       first
        |exact⟨k+1,_,by omega,by go_num,by rw[List.length_append,hLk];rfl,HO5,HE5,hB5⟩
        |((repeat apply Exists.intro);exact⟨⟨k+1,_,by omega,by go_num,by rw[List.length_append,hLk];rfl,HO5,HE5,hB5⟩,rfl⟩)
      case measure=>simp[intOf];omega
  ·obtain rfl:k=G.length:=by omega
   have hq1: ¬(G.length:Int)<(G.length:Int):=by omega
   have HEE:Hid (gps L=gps G):=Lib.hid (by rw[HE.out,List.take_of_length_le (by rw[gps_len];exact Nat.le_refl _)]);go_wp2;go_ret
   first
    |exact⟨_,L,rfl,HO.out,HEE.out,hBr⟩
    |exact⟨_,rfl,L,HO.out,HEE.out,hBr⟩
end Go.Proofs.YtblhidmkalleoaaGreatDoor
namespace Go.Proofs.YtblhidmkalleoaaGreatDoor
open Go.RowKit
theorem place_at {G:List Gp}{k:Nat}{g:Gp}{key:List Val}(h:G[k]?=some g):placeG (G.drop k) key=if rowsF g.r key<0 then placeG (G.drop (k+1)) key+1 else 0:=by
 obtain⟨hk,rfl⟩:=List.getElem?_eq_some_iff.1 h;rw[List.drop_eq_getElem_cons hk,placeG_cons]
theorem has_at {G:List Gp}{k:Nat}{key:List Val}(h:placeG G key=k):hasG G key=match G[k]? with
 |some g=>rowsF g.r key==0
 |none=>false:=by unfold hasG;rw[h];cases G[k]?<;>rfl
set_option maxHeartbeats 8000000 in
set_option maxRecDepth 10000 in
theorem rplaceG_any (v vr:Value)(G:List Gm)(key:List Val)(w:World)(hG:Gms w v G)(hr:Sl w vr key.length (rowCells key))(hg: ∀g∈gps G,GoodR g.r)(hk:GoodR key):
 Calls Tryz.prog 146 #[v,vr] w fun e w'=>e= .returned (.tuple #[.int .i64 (placeG (gps G) key),.bool (hasG (gps G) key)])∧Below w.heap.size w w':=by
 have HG:=Lib.hid hG;have HR:=Lib.hid hr;have HGG:=Lib.hid hg;have HKG:=Lib.hid hk;obtain⟨P,hP⟩: ∃P,placeG (gps G) key=P:=⟨_,rfl⟩;obtain⟨H,hH⟩: ∃H,hasG (gps G) key=H:=⟨_,rfl⟩;have HP:=Lib.hid hP;have HH:=Lib.hid hH;rw[hP,hH];have HS:Hid (P=0+placeG ((gps G).drop 0) key):=Lib.hid (by rw[←hP];simp);obtain⟨Ag,cg,rfl,ng,mg,-⟩:=id hG.sl;obtain⟨Ar,cr,rfl,-⟩:=id hr;unfold maxLen at mg;clear hG hr hg hk hP hH;go_enter Tryz.func146,Tryz.ntmps146
 go_wp2_with fail
 go_loopw[6] (fun iv wr=> ∃k:Nat,k≤G.length∧iv= .int .i64 k∧Hid (P=k+placeG ((gps G).drop k) key)∧Below w.heap.size w wr) (fun iv _=>G.length-(intOf iv).toNat)
 case atStart=>exact⟨0,by omega,rfl,HS,Below.refl _ _⟩
 case round=>
  rename World=>wr1
  obtain⟨k,hk,rfl,HPK,hb1⟩:=hrel;by_cases hlt:k<G.length
  ·have hx:=List.getElem?_eq_getElem (l:=G) hlt
   generalize G[k]=x at hx;obtain⟨bb,ob,hAg,-,hcb⟩:=gm_at HG.out.sl rfl hx;subst hAg;have hxm:=List.mem_of_getElem? hx;have hxo:=HG.out.each x hxm;have HPA:=Lib.hid (place_at (key:=key) (gps_at hx));have HGX:=Lib.hid (HGG.out x.gp (List.mem_map.2 ⟨x,hxm,rfl⟩));have HKX:=Lib.hid (gps_at hx);obtain⟨Vx,kx,ex,-⟩:=id hxo.row;have HCB:=Lib.hid hcb;have HXR:=Lib.hid hxo.row;obtain⟨xv,xr,xn,xvb,xbags⟩:=x;simp only at ex HCB HXR HPA HGX;subst ex;have hGr:(Gm.gp ⟨.slice Vx xr.length kx,xr,xn,xvb,xbags⟩).r=xr:=rfl;rw[hGr]at HPA HGX;have d0:=(HCB.out _ hb1).1;have HCMP:=Lib.hid (fun W (hb:Below w.heap.size w W)=>rrows_any _ _ xr key W (HXR.out.below hb) (HR.out.below hb));have HSAM:=Lib.hid (fun W (hb:Below w.heap.size w W)=>same_any _ _ xr key W (HXR.out.below hb) (HR.out.below hb));have HZR:=Lib.hid (rowsF_zero HGX.out HKG.out);obtain⟨CP,hCP⟩: ∃y,rowsF xr key=y:=⟨_,rfl⟩;have HCPE:=Lib.hid hCP;rw[hCP]at HCMP HPA HZR;have i0:(0:Int)≤(k:Int):=by omega
   have i1:(k:Int)<(G.length:Int):=by omega
   clear hx hcb hxm hxo hCP;by_cases hc:CP<0
   ·have q1:decide (CP<0)=true:=decide_eq_true hc
    have HPN:Hid (P=((k+1:Nat):Int).toNat+placeG ((gps G).drop (k+1)) key):=Lib.hid (by have h1:=HPK.out;rw[HPA.out,if_pos hc]at h1;omega);clear hc
    go_wp2_with fail
    refine Calls.mono (by with_reducible exact HCMP.out _ hb1) ?_;rintro e w2 ⟨rfl,hb2⟩;have hB2:=below_trans hb1 hb2;go_wp2;go_roundw
    case rel=>exact⟨k+1,by omega,by go_num,Lib.hid (by have:=HPN.out;omega),hB2⟩
    case measure=>simp[intOf];omega
   ·have q1:decide (CP<0)=false:=decide_eq_false hc
    have hPk:P=k:=by have h1:=HPK.out;rw[HPA.out,if_neg hc]at h1;omega
    have HHK:Hid (H=decide (CP=0)):=Lib.hid (by
     rw[←HH.out,has_at (HP.out.trans hPk),HKX.out,←HCPE.out];rfl)
    have HPE:=Lib.hid hPk
    have HSR:Hid (sameR xr key=decide (CP=0)):=Lib.hid (by
     rw[Bool.eq_iff_iff,sameR_iff,decide_eq_true_eq];exact HZR.out.symm)
    obtain⟨DD,hDD⟩: ∃y,decide (CP=0)=y:=⟨_,rfl⟩;rw[hDD]at HHK HSR;clear hc hPk hDD
    go_wp2_with fail
    refine Calls.mono (by with_reducible exact HCMP.out _ hb1) ?_;rintro e w2 ⟨rfl,hb2⟩;have hB2:=below_trans hb1 hb2;have d1:=(HCB.out _ hB2).1;clear hb2
    go_wp2_with fail
    refine Calls.mono (by with_reducible exact HSAM.out _ hB2) ?_;rw[HSR.out];rintro e w3 ⟨rfl,hb3⟩;have hB3:=below_trans hB2 hb3;go_wp2
    go_ret2
    exact⟨by rw[HPE.out,HHK.out];rfl,hB3⟩
  ·obtain rfl:k=G.length:=by omega
   have hq1: ¬(G.length:Int)<(G.length:Int):=by omega
   have hPk:P=G.length:=by have h1:=HPK.out;rw[List.drop_of_length_le (by rw[gps_len];exact Nat.le_refl _)]at h1;exact h1
   have HHK:Hid (H=false):=Lib.hid (by
    rw[←HH.out,has_at (HP.out.trans hPk),List.getElem?_eq_none (by rw[gps_len];exact Nat.le_refl _)])
   have HPE:=Lib.hid hPk;clear HPK hPk;go_wp2
   go_ret2
   exact⟨by rw[HPE.out,HHK.out];rfl,hb1⟩
end Go.Proofs.YtblhidmkalleoaaGreatDoor
