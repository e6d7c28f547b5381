/-Worlds of which only some blocks have turned. Groups of one's own in memory, each at a block; maps to them. Groups of one's own: one bag more. Groups: -/
import Derived.Test.YtjhbeecmdgglgaaGreatDoorGrpV1
import Derived.Test.YtjhbeecmdgglgaaGreatDoorGrpV21
import Derived.Test.YtjhbeecmdgglgaaGreatDoorGrpV6
set_option linter.unusedSimpArgs false
set_option linter.unusedVariables false
namespace Go.Proofs.YtjhbeecmdgglgaaGreatDoor
open Go.RowKit Go.Maps
structure Turned (F:Nat→Prop) (w w':World):Prop where
 os:w'.os=w.os
 tape:w'.tape=w.tape
 output:w'.output=w.output
 size:w.heap.size≤w'.heap.size
 same: ∀k,k<w.heap.size→ ¬F k→w'.heap[k]?=w.heap[k]?
theorem Turned.refl (F:Nat→Prop)(w:World):Turned F w w:=⟨rfl,rfl,rfl,Nat.le_refl _,fun _ _ _=>rfl⟩
theorem Turned.trans {F:Nat→Prop}{a b c:World}(h:Turned F a b)(k:Turned F b c):Turned F a c:=
 ⟨k.os.trans h.os,k.tape.trans h.tape,k.output.trans h.output,Nat.le_trans h.size k.size,fun i hi hf=>(k.same i (Nat.lt_of_lt_of_le hi h.size) hf).trans (h.same i hi hf)⟩
theorem Turned.imp {F G:Nat→Prop}{w w':World}(h:Turned F w w')(hi: ∀k,k<w.heap.size→F k→G k):Turned G w w':=⟨h.os,h.tape,h.output,h.size,fun k hk hg=>h.same k hk fun hf=>hg (hi k hk hf)⟩
theorem Turned.transN {F G:Nat→Prop}{a b c:World}(h:Turned F a b)(k:Turned G b c)(hi: ∀i,i<a.heap.size→G i→F i):Turned F a c:=
 ⟨k.os.trans h.os,k.tape.trans h.tape,k.output.trans h.output,Nat.le_trans h.size k.size,fun i hl hf=>(k.same i (Nat.lt_of_lt_of_le hl h.size) fun hg=>hf (hi i hl hg)).trans (h.same i hl hf)⟩
theorem turned_grown {w w':World}{row:Option Nat}(h:w.grownBy w' row):Turned (fun k=>row=some k) w w':=⟨h.os,h.tape,h.output,h.size,fun k hk hf=>h.block k hk (fun e=>hf e.symm)⟩
theorem turned_below {F:Nat→Prop}{w w':World}(h:Below w.heap.size w w'):Turned F w w':=⟨h.os,h.tape,h.output,h.size,fun k hk _=>h.block k hk⟩
theorem turned_set (w:World)(p:Addr)(u:Value):Turned (fun k=>k=p.block) w (w.setCell p u):=⟨rfl,rfl,rfl,by rw[World.size_setCell];exact Nat.le_refl _,fun k _ hf=>Below.heap_setCell w p u k hf⟩
theorem Turned.below {F:Nat→Prop}{w w':World}{base:Nat}(h:Turned F w w')(hb:base≤w.heap.size)(hf: ∀k,F k→base≤k):Below base w w':=⟨h.os,h.tape,h.output,h.size,fun k hk=>h.same k (by omega) fun e=>by have:=hf k e;omega⟩
theorem below_turned {F:Nat→Prop}{a w w':World}(hb:Below a.heap.size a w)(h:Turned F w w')(hf: ∀k,F k→a.heap.size≤k):Below a.heap.size a w':=hb.trans (h.below hb.size hf)
theorem blk_turned {F:Nat→Prop}{w w':World}{g:Nat}{t:TypeId}{cs:Array Value}(h:Blk w g t cs)(ht:Turned F w w')(hg: ¬F g):Blk w' g t cs:=(ht.same g h.lt hg).trans h
end Go.Proofs.YtjhbeecmdgglgaaGreatDoor
namespace Go.Proofs.YtjhbeecmdgglgaaGreatDoor
open Go.RowKit Go.Maps
theorem sl_turned {F:Nat→Prop}{w w':World}{v:Value}{n:Nat}{cs:List Value}(h:Sl w v n cs)(ht:Turned F w w')(hg: ∀k,v.ownBlock=some k→ ¬F k):Sl w' v n cs:=by
 obtain⟨A,c,rfl,h1,h2,h0,h3⟩:=h;refine⟨A,c,rfl,h1,h2,h0,fun hne=> ?_⟩;obtain⟨b,off,rfl,hc⟩:=h3 hne;refine⟨b,off,rfl,fun j u hj=> ?_⟩;have h4:=hc j u hj;rw[World.cell?_of_block (ht.same b (World.block_lt_of_cell? w _ h4) (hg b rfl))];exact h4
theorem own_turned {F:Nat→Prop}{w w':World}{base:Nat}{e:TypeId}{size n:Nat}{v:Value}{xs:List Value}(h:w.ownsRow base e size v n xs)(ht:Turned F w w')(hg: ∀k,v.ownBlock=some k→ ¬F k):w'.ownsRow base e size v n xs:=by
 refine⟨h.1,?_⟩;rcases h.2 with hn|⟨g,cap,cur,rfl,hb,hgg,rest⟩
 ·exact .inl hn
 ·exact .inr ⟨g,cap,cur,rfl,hb,(ht.same g (Array.getElem?_eq_some_iff.1 hgg).1 (hg g rfl)).trans hgg,rest⟩
theorem map_turned {F:Nat→Prop}{w w':World}{R:Value→Option (DataW Unit×List MemPlace)}{M n:Nat}{D:DataW Unit}(h:w.ownsMap Tryz.prog 9 R M n D)(ht:Turned F w w')(hM: ¬F M):w'.ownsMap Tryz.prog 9 R M n D:=by
 have hlt:=h.lt;obtain⟨es,clock,hb,r⟩:=h;exact⟨es,clock,(ht.same M hlt hM).trans hb,r⟩
def GBk (b:Nat) (x:Gm) (k:Nat):Prop:=k=b∨x.v.ownBlock=some k∨x.vb.ownBlock=some k∨ ∃q∈x.bags,q.1.ownBlock=some k
structure GpO (w:World) (base b:Nat) (x:Gm):Prop where
 cell:Blk w b 126 #[x.v,.int .i64 x.n,x.vb]
 row:Sl w x.v x.r.length (rowCells x.r)
 sl:w.ownsRow base 155 1 x.vb x.bags.length (x.bags.map (·.1))
 bag: ∀q∈x.bags,w.ownsRow base 181 4 q.1 q.2.length (tlCells q.2)
 range: ∀k,GBk b x k→base≤k∧k<w.heap.size
 bv:x.v.ownBlock≠some b
 bvb:x.vb.ownBlock≠some b
 bq: ∀q∈x.bags,q.1.ownBlock≠some b
 vvb: ∀k,x.v.ownBlock=some k→x.vb.ownBlock≠some k
 vq: ∀k,x.v.ownBlock=some k→ ∀q∈x.bags,q.1.ownBlock≠some k
 vbq: ∀k,x.vb.ownBlock=some k→ ∀q∈x.bags,q.1.ownBlock≠some k
 pair:x.bags.Pairwise fun p q=> ∀k,p.1.ownBlock=some k→q.1.ownBlock≠some k
theorem GpO.turned {F:Nat→Prop}{w w':World}{base b:Nat}{x:Gm}(h:GpO w base b x)(ht:Turned F w w')(hf: ∀k,GBk b x k→ ¬F k):GpO w' base b x:=
 ⟨blk_turned h.cell ht (hf b (.inl rfl)),sl_turned h.row ht fun k hk=>hf k (.inr (.inl hk)),own_turned h.sl ht fun k hk=>hf k (.inr (.inr (.inl hk))),fun q hq=>own_turned (h.bag q hq) ht fun k hk=>hf k (.inr (.inr (.inr ⟨q,hq,hk⟩))),
  fun k hk=>⟨(h.range k hk).1,Nat.lt_of_lt_of_le (h.range k hk).2 ht.size⟩,h.bv,h.bvb,h.bq,h.vvb,h.vq,h.vbq,h.pair⟩
theorem GpO.below {w w':World}{base b:Nat}{x:Gm}(h:GpO w base b x)(hb:Below w.heap.size w w'):GpO w' base b x:=h.turned (turned_below (F:=fun _=>False) hb) fun _ _ hf=>hf
theorem GpO.ok {w:World}{base b:Nat}{x:Gm}(h:GpO w base b x):x.ok w:=⟨h.row,Sl.of_own h.sl,fun q hq=>Sl.of_own (h.bag q hq)⟩
theorem GpO.setN {w:World}{base b:Nat}{x:Gm}(h:GpO w base b x)(n:Int):GpO (w.setCell ⟨b,1,none⟩ (.int .i64 n)) base b ⟨x.v,x.r,n,x.vb,x.bags⟩:=by
 have ht:=turned_set w ⟨b,1,none⟩ (.int .i64 n)
 refine⟨h.cell.set_ 1 (.int .i64 n),sl_turned h.row ht fun k hk e=>h.bv (by rw[hk];exact congrArg some e),own_turned h.sl ht fun k hk e=>h.bvb (by rw[hk];exact congrArg some e),fun q hq=>own_turned (h.bag q hq) ht fun k hk e=>h.bq q hq (by rw[hk];exact congrArg some e),
  fun k hk=> ?_,h.bv,h.bvb,h.bq,h.vvb,h.vq,h.vbq,h.pair⟩
 have:=h.range k hk;rw[World.size_setCell];exact this
theorem GpO.setBag {w w':World}{base b g cap i:Nat}{x:Gm}{q:Value×List Tl}{u:Value}{l:List Tl}(h:GpO w base b x)(hvb:x.vb= .slice (some ⟨g,0,none⟩) x.bags.length cap)(hq:x.bags[i]?=some q)(hg:w.grownBy w' q.1.ownBlock)(ho:OwnT w' base u l)(hu: ∀k,u.ownBlock=some k→q.1.ownBlock=some k∨w.heap.size≤k):
 GpO (w'.setCell ⟨g,i,none⟩ u) base b ⟨x.v,x.r,x.n,x.vb,x.bags.set i (u,l)⟩∧Turned (fun k=>q.1.ownBlock=some k∨k=g) w (w'.setCell ⟨g,i,none⟩ u):=by
 have hil:i<x.bags.length:=(List.getElem?_eq_some_iff.1 hq).1;have hqm:q∈x.bags:=List.mem_of_getElem? hq;have hgb:x.vb.ownBlock=some g:=by rw[hvb];rfl
 have ht1:=turned_grown hg;have ht2:=turned_set w' ⟨g,i,none⟩ u;have ht:Turned (fun k=>q.1.ownBlock=some k∨k=g) w (w'.setCell ⟨g,i,none⟩ u):=(ht1.imp fun k _ h=>Or.inl h).trans (ht2.imp fun k _ h=>Or.inr h);have hgs:=h.range g (.inr (.inr (.inl hgb)));have hgr: ∀k,q.1.ownBlock=some k→base≤k∧k<w.heap.size:=fun k hk=>h.range k (.inr (.inr (.inr ⟨q,hqm,hk⟩)))
 have hug:u.ownBlock≠some g:=fun e=>by
  rcases hu g e with h1|h1
  ·exact h.vbq g hgb q hqm h1
  ·omega
 have hset: ∀p∈x.bags.set i (u,l),p=(u,l)∨ ∃j,j≠i∧x.bags[j]?=some p:=fun p hp=>by
  obtain⟨j,hj⟩:=List.mem_iff_getElem?.1 hp;by_cases hne:i=j
  ·subst hne
   rw[List.getElem?_set_self hil]at hj;injection hj with hj;exact .inl hj.symm
  ·rw[List.getElem?_set_ne hne]at hj
   exact .inr ⟨j,fun e=>hne e.symm,hj⟩
 have hoth: ∀ {j:Nat} {p:Value×List Tl},j≠i→x.bags[j]?=some p→ ∀k,p.1.ownBlock=some k→q.1.ownBlock≠some k:=fun{j p} hne hp k hk e=>by
  obtain⟨h1,e1⟩:=List.getElem?_eq_some_iff.1 hp;obtain⟨h2,e2⟩:=List.getElem?_eq_some_iff.1 hq;rcases Nat.lt_or_ge j i with hlt|hge
  ·have:=List.pairwise_iff_getElem.1 h.pair j i h1 h2 hlt
   rw[e1,e2]at this;exact this k hk e
  ·have:=List.pairwise_iff_getElem.1 h.pair i j h2 h1 (by omega)
   rw[e1,e2]at this;exact this k e hk
 have hold: ∀ {j:Nat} {p:Value×List Tl},x.bags[j]?=some p→ ∀k,p.1.ownBlock=some k→k<w.heap.size∧base≤k:=fun{j p} hp k hk=>by
  have:=h.range k (.inr (.inr (.inr ⟨p,List.mem_of_getElem? hp,hk⟩)));omega
 have hsz:w.heap.size≤(w'.setCell ⟨g,i,none⟩ u).heap.size:=ht.size;have huw: ∀k,u.ownBlock=some k→k<(w'.setCell ⟨g,i,none⟩ u).heap.size:=fun k hk=>by rw[World.size_setCell];exact(ho.own.lt k hk).2
 have hub: ∀k,u.ownBlock=some k→base≤k:=fun k hk=>(ho.own.lt k hk).1;refine⟨⟨?_,?_,?_,fun p hp=> ?_,fun k hk=> ?_,h.bv,h.bvb,fun p hp e=> ?_,h.vvb,fun k hk p hp e=> ?_,fun k hk p hp e=> ?_,?_⟩,ht⟩
 ·refine blk_turned h.cell ht fun hf=> ?_
  rcases hf with hf|hf
  ·exact h.bq q hqm hf
  ·exact h.bvb (hf▸hgb)
 ·refine sl_turned h.row ht fun k hk hf=> ?_
  rcases hf with hf|hf
  ·exact h.vq k hk q hqm hf
  ·exact h.vvb k hk (hf▸hgb)
 ·have h1:w'.ownsRow base 155 1 (.slice (some ⟨g,0,none⟩) x.bags.length cap) x.bags.length (x.bags.map (·.1)):=by
   rw[←hvb];exact own_turned h.sl ht1 fun k hk hf=>h.vbq k hk q hqm hf
  have h2:=(h1.stored i u).1;show(w'.setCell ⟨g,i,none⟩ u).ownsRow base 155 1 x.vb (x.bags.set i (u,l)).length ((x.bags.set i (u,l)).map (·.1));rw[hvb,List.length_set,List.map_set];exact h2
 ·rcases hset p hp with rfl|⟨j,hj,hjp⟩
  ·exact own_turned ho.own ht2 fun k hk hf=>hug (by rw[hk];exact congrArg some hf)
  ·refine own_turned (h.bag p (List.mem_of_getElem? hjp)) ht fun k hk hf=> ?_
   rcases hf with hf|hf
   ·exact hoth hj hjp k hk hf
   ·exact h.vbq k (hf▸hgb) p (List.mem_of_getElem? hjp) hk
 ·rcases hk with hk|hk|hk|⟨p,hp,hk⟩
  ·have:=h.range k (.inl hk);omega
  ·have:=h.range k (.inr (.inl hk));omega
  ·have:=h.range k (.inr (.inr (.inl hk)));omega
  ·rcases hset p hp with rfl|⟨j,hj,hjp⟩
   ·exact⟨hub k hk,huw k hk⟩
   ·have:=hold hjp k hk;omega
 ·rcases hset p hp with rfl|⟨j,hj,hjp⟩
  ·rcases hu b e with h1|h1
   ·exact h.bq q hqm h1
   ·have:=(h.range b (.inl rfl)).2;omega
  ·exact h.bq p (List.mem_of_getElem? hjp) e
 ·rcases hset p hp with rfl|⟨j,hj,hjp⟩
  ·rcases hu k e with h1|h1
   ·exact h.vq k hk q hqm h1
   ·have:=(h.range k (.inr (.inl hk))).2;omega
  ·exact h.vq k hk p (List.mem_of_getElem? hjp) e
 ·rcases hset p hp with rfl|⟨j,hj,hjp⟩
  ·rcases hu k e with h1|h1
   ·exact h.vbq k hk q hqm h1
   ·have:=(h.range k (.inr (.inr (.inl hk)))).2;omega
  ·exact h.vbq k hk p (List.mem_of_getElem? hjp) e
 ·rw[List.pairwise_iff_getElem]
  intro m n hm hn hmn k hk e
  have hnew: ∀ {j:Nat} {p:Value×List Tl},j≠i→x.bags[j]?=some p→p.1.ownBlock=some k→u.ownBlock=some k→False:=fun{j p} hj hp hk1 hk2=>by
   rcases hu k hk2 with h1|h1
   ·exact hoth hj hp k hk1 h1
   ·have:=(hold hp k hk1).1;omega
  rw[List.length_set]at hm hn;have em:=List.getElem?_eq_getElem hm;have en:=List.getElem?_eq_getElem hn;rw[List.getElem_set]at hk e;split at hk
  ·rename_i h1
   split at e
   ·omega
   ·exact hnew (by omega) en e hk
  ·rename_i h1
   split at e
   ·exact hnew (by omega) em hk e
   ·exact List.pairwise_iff_getElem.1 h.pair m n hm hn hmn k hk e
def ptrE (v:Value):Option (DataW Unit×List MemPlace):=match v with
 | .pointer none=>some (.lit (.int .i64 0),[])
 | .pointer (some ⟨b,0,none⟩)=>some (.lit (.int .i64 ((b:Int)+1)),[])
 |_=>none
theorem ptrE_inv {v:Value}{n:Int}{ps:List MemPlace}(h:ptrE v=some (.lit (.int .i64 n),ps)):(n=0∧v= .pointer none)∨ ∃b:Nat,n=(b:Int)+1∧v= .pointer (some ⟨b,0,none⟩):=by
 unfold ptrE at h;split at h
 ·injection h with h;injection h with h1 h2;injection h1 with h1;injection h1 with h1 h1;exact .inl ⟨h1.symm,rfl⟩
 ·injection h with h;injection h with h1 h2;injection h1 with h1;injection h1 with h1 h1;exact .inr ⟨_,h1.symm,rfl⟩
 ·cases h
def ax (X:List (Nat×Gm)):AV:=X.map fun p=>(p.2.r,(p.1:Int)+1)
def gx (X:List (Nat×Gm)):List Gp:=X.map fun p=>p.2.gp
structure GMap (w:World) (base M N:Nat) (X:List (Nat×Gm)):Prop where
 map: ∃n,n≤N∧w.ownsMap Tryz.prog 9 ptrE M n (mkD (ax X))
 mb:base≤M
 each: ∀p∈X,GpO w base p.1 p.2
 far: ∀p∈X,¬GBk p.1 p.2 M
 apart:X.Pairwise fun p q=> ∀k,GBk p.1 p.2 k→ ¬GBk q.1 q.2 k
def MBk (M:Nat) (X:List (Nat×Gm)) (k:Nat):Prop:=k=M∨ ∃p∈X,GBk p.1 p.2 k
theorem GMap.lt {w:World}{base M N:Nat}{X:List (Nat×Gm)}(h:GMap w base M N X):M<w.heap.size:=by
 obtain⟨n,-,h⟩:=h.map;exact h.lt
theorem GMap.range {w:World}{base M N:Nat}{X:List (Nat×Gm)}(h:GMap w base M N X){k:Nat}(hk:MBk M X k):base≤k∧k<w.heap.size:=by
 rcases hk with rfl|⟨p,hp,hk⟩
 ·exact⟨h.mb,h.lt⟩
 ·exact(h.each p hp).range k hk
theorem GMap.turned {F:Nat→Prop}{w w':World}{base M N:Nat}{X:List (Nat×Gm)}(h:GMap w base M N X)(ht:Turned F w w')(hf: ∀k,MBk M X k→ ¬F k):GMap w' base M N X:=by
 obtain⟨n,hn,hm⟩:=h.map;exact⟨⟨n,hn,map_turned hm ht (hf M (.inl rfl))⟩,h.mb,fun p hp=>(h.each p hp).turned ht fun k hk=>hf k (.inr ⟨p,hp,hk⟩),h.far,h.apart⟩
theorem GMap.below {w w':World}{base M N:Nat}{X:List (Nat×Gm)}(h:GMap w base M N X)(hb:Below w.heap.size w w'):GMap w' base M N X:=h.turned (turned_below (F:=fun _=>False) hb) fun _ _ hf=>hf
end Go.Proofs.YtjhbeecmdgglgaaGreatDoor
namespace Go.Proofs.YtjhbeecmdgglgaaGreatDoor
open Go.RowKit Go.Maps
theorem GpO.addBag {w w2 w3:World}{base b:Nat}{x:Gm}{u v3:Value}{l:List Tl}(h:GpO w base b x)(hb:Below w.heap.size w w2)(ho:OwnT w2 base u l)(hu: ∀k,u.ownBlock=some k→w.heap.size≤k)(hown:w3.ownsRow base 155 1 v3 (x.bags.length+1) (x.bags.map (·.1)++[u]))(hg:w2.grownBy w3 x.vb.ownBlock)
 (hat:v3.ownBlock=x.vb.ownBlock∨ ∀k,v3.ownBlock=some k→w2.heap.size≤k):GpO (w3.setCell ⟨b,2,none⟩ v3) base b ⟨x.v,x.r,x.n,v3,x.bags++[(u,l)]⟩∧Turned (fun k=>k=b∨x.vb.ownBlock=some k) w (w3.setCell ⟨b,2,none⟩ v3):=by
 have ht0:Turned (fun k=>x.vb.ownBlock=some k) w w3:=(turned_below hb).transN (turned_grown hg) fun _ _ h=>h;have ht1:=turned_set w3 ⟨b,2,none⟩ v3;have ht:Turned (fun k=>k=b∨x.vb.ownBlock=some k) w (w3.setCell ⟨b,2,none⟩ v3):=(ht0.imp fun k _ h=>Or.inr h).trans (ht1.imp fun k _ h=>Or.inl h)
 have hv3: ∀k,v3.ownBlock=some k→x.vb.ownBlock=some k∨w2.heap.size≤k:=fun k hk=>by
  rcases hat with e|e
  ·exact .inl (e▸hk)
  ·exact .inr (e k hk)
 have hub: ∀k,u.ownBlock=some k→base≤k∧w.heap.size≤k∧k<w2.heap.size:=fun k hk=>⟨(ho.own.lt k hk).1,hu k hk,(ho.own.lt k hk).2⟩;have hww:=hb.size;have hb0:=h.range b (.inl rfl);have hbag: ∀q∈x.bags++[(u,l)],q∈x.bags∨q=(u,l):=fun q hq=>by simpa using hq
 refine⟨⟨?_,?_,?_,fun q hq=> ?_,fun k hk=> ?_,h.bv,fun e=> ?_,fun q hq e=> ?_,fun k hk e=> ?_,fun k hk q hq e=> ?_,fun k hk q hq e=> ?_,?_⟩,ht⟩
 ·exact(blk_turned h.cell ht0 fun hf=>h.bvb hf).set_ 2 v3
 ·refine sl_turned h.row ht fun k hk hf=> ?_
  rcases hf with hf|hf
  ·exact h.bv (by rw[hk,hf])
  ·exact h.vvb k hk hf
 ·show(w3.setCell ⟨b,2,none⟩ v3).ownsRow base 155 1 v3 (x.bags++[(u,l)]).length ((x.bags++[(u,l)]).map (·.1))
  rw[List.length_append,List.map_append];refine own_turned hown ht1 fun k hk hf=> ?_;rcases hv3 k hk with e|e
  ·exact h.bvb (by rw[e];exact congrArg some hf)
  ·have hf:k=b:=hf
   omega
 ·rcases hbag q hq with hq|rfl
  ·refine own_turned (h.bag q hq) ht fun k hk hf=> ?_
   rcases hf with hf|hf
   ·exact h.bq q hq (by rw[hk,hf])
   ·exact h.vbq k hf q hq hk
  ·refine own_turned ho.own (((turned_grown hg).imp (G:=fun k=>k=b∨x.vb.ownBlock=some k) fun k _ h=>Or.inr h).trans (ht1.imp fun k _ h=>Or.inl h)) fun k hk hf=> ?_
   have h1:=hub k hk;rcases hf with hf|hf
   ·omega
   ·have:=(h.range k (.inr (.inr (.inl hf)))).2
    omega
 ·have h3:w2.heap.size≤(w3.setCell ⟨b,2,none⟩ v3).heap.size:=by rw[World.size_setCell];exact hg.size
  rcases hk with hk|hk|hk|⟨q,hq,hk⟩
  ·have:=h.range k (.inl hk);omega
  ·have:=h.range k (.inr (.inl hk));omega
  ·have:=hown.lt k hk
   rw[World.size_setCell];exact this
  ·rcases hbag q hq with hq|rfl
   ·have:=h.range k (.inr (.inr (.inr ⟨q,hq,hk⟩)));omega
   ·have:=hub k hk;omega
 ·rcases hv3 b e with e|e
  ·exact h.bvb e
  ·omega
 ·rcases hbag q hq with hq|rfl
  ·exact h.bq q hq e
  ·have:=hub b e;omega
 ·rcases hv3 k e with e|e
  ·exact h.vvb k hk e
  ·have:=(h.range k (.inr (.inl hk))).2;omega
 ·rcases hbag q hq with hq|rfl
  ·exact h.vq k hk q hq e
  ·have:=hub k e;have:=(h.range k (.inr (.inl hk))).2;omega
 ·rcases hbag q hq with hq|rfl
  ·rcases hv3 k hk with e1|e1
   ·exact h.vbq k e1 q hq e
   ·have:=(h.range k (.inr (.inr (.inr ⟨q,hq,e⟩)))).2;omega
  ·have h1:=hub k e
   rcases hv3 k hk with e1|e1
   ·have:=(h.range k (.inr (.inr (.inl e1)))).2;omega
   ·omega
 ·refine List.pairwise_append.2 ⟨h.pair,List.pairwise_singleton _ _,fun p hp q hq k hk e=> ?_⟩
  rw[List.mem_singleton.1 hq]at e;have:=hub k e;have:=(h.range k (.inr (.inr (.inr ⟨p,hp,hk⟩)))).2;omega
end Go.Proofs.YtjhbeecmdgglgaaGreatDoor
namespace Go.Proofs.YtjhbeecmdgglgaaGreatDoor
open Go.RowKit
theorem bagI:EInfo Tryz.prog 155 1 24:=by
 have h:(Tryz.prog.info? 155).map (fun i=>(i.zero,i.size,i.bytes))=some (some (.slice none 0 0),1,24):=by kernel_rfl
 obtain⟨i,hi,h1,h2,h3⟩:=info_parts h;exact⟨i,_,hi,h1,h2,h3,rfl,by omega⟩
set_option maxHeartbeats 8000000 in
set_option maxRecDepth 10000 in
theorem gown_any (g:Gm)(w:World)(hg:g.ok w)(h8:g.r.length≤1099511627776)(hbl:g.bags.length≤1000000)(hlb: ∀q∈g.bags,q.2.length≤1099511627776):
 Calls Tryz.prog 112 #[g.agg] w fun e w'=> ∃(b:Nat) (x:Gm),e= .returned (.pointer (some ⟨b,0,none⟩))∧GpO w' w.heap.size b x∧x.gp=g.gp∧Below w.heap.size w w':=by
 have HG:=Lib.hid hg;have HCL:=Lib.hid (fun W (h:Below w.heap.size w W)=>clone_own g.v g.r W (hg.row.below h) h8);have HBC:=Lib.hid (fun W (h:Below w.heap.size w W) (q:Value×List Tl) (hq:q∈g.bags)=>clone_bag q.1 q.2 W ((hg.bags q hq).below h) (hlb q hq));obtain⟨Z,hZ⟩: ∃Z,g.gp=Z:=⟨_,rfl⟩;have HZ:Hid (Z=⟨g.r,g.n,g.bags.map (·.2)⟩):=Lib.hid (by rw[←hZ];rfl);rw[hZ];clear hZ;obtain⟨gv,gr,gn,gvb,gbags⟩:=g;obtain⟨Ar,cr,hv,nr,mr,-⟩:=id hg.row;obtain⟨Ab,cb,hvb,nb,mb,-⟩:=id hg.sl;simp only at hv hvb nr nb h8 hbl HZ;subst hv hvb;unfold maxLen at mr mb;unfold Gm.agg;simp only at HCL HBC hlb⊢;have HK0:=Lib.hid (Blk.new w 126 #[.slice Ar gr.length cr,.int .i64 gn,.slice Ab gbags.length cb]);have HSS:=Lib.hid (fun w' (h:Below (w.alloc (.cells #[.slice Ar gr.length cr,.int .i64 gn,.slice Ab gbags.length cb] 126)).heap.size (w.alloc (.cells #[.slice Ar gr.length cr,.int .i64 gn,.slice Ab gbags.length cb] 126)) w')=>And.intro ((HK0.out.below h).cell 0 _ rfl) ((HK0.out.below h).cell 1 _ rfl));have HBW:=Lib.hid (below_alloc w (.cells #[.slice Ar gr.length cr,.int .i64 gn,.slice Ab gbags.length cb] 126));clear hg;go_enter Tryz.func112,Tryz.ntmps112
 go_wp2_with fail
 refine tr (S:=(fun w'=>w'.cell? ⟨w.heap.size,0,none⟩=some (.slice Ar gr.length cr)∧w'.cell? ⟨w.heap.size,1,none⟩=some (.int .i64 gn))) (HSS.out _ (Below.refl _ (w.alloc (.cells #[.slice Ar gr.length cr,.int .i64 gn,.slice Ab gbags.length cb] 126))).drew) (fun hHeld=> ?_);refine tk 0 ?_;refine tk 1 ?_;refine tk 3 ?_;refine tk 4 ?_;refine tc 2 ?_;intro K hK;go_simp;refine Calls.mono (by with_reducible exact HCL.out _ (below_alloc w (.cells #[.slice Ar gr.length cr,.int .i64 gn,.slice Ab gbags.length cb] 126)).drew) ?_;rintro e wA ⟨vA,rfl,hownA,hbA⟩;have hbwA:=below_trans (Below.refl _ (w.alloc (.cells #[.slice Ar gr.length cr,.int .i64 gn,.slice Ab gbags.length cb] 126))).drew hbA;have Z2:=HSS.out _ hbwA;obtain⟨BA,nA,bA,rfl⟩:=own_slice hownA
 go_wp2_with fail
 refine hK.out _ _ Z2 (fun hHeld2=> ?_);clear hK K;refine tk 5 ?_;refine tc 6 ?_;intro K hK;go_simp;refine hK.out _ _ (HSS.out _ (below_trans hbwA (below_alloc _ (.cells #[.slice BA nA bA,.int .i64 gn,.slice none 0 0] 126)))) (fun hHeld6=> ?_);clear hK K;refine tk 7 ?_;refine td ?_;have HO2:=Lib.hid hownA;have HK2:=Lib.hid ((HK0.out.below hbwA).alloc (.cells #[.slice BA nA bA,.int .i64 gn,.slice none 0 0] 126));have hbw3:=below_trans HBW.out (below_trans hbwA (below_alloc _ (.cells #[.slice BA nA bA,.int .i64 gn,.slice none 0 0] 126)));have hs2:w.heap.size+1≤wA.heap.size:=by have:=hbwA.size;simp at this;omega
 have HS2:=Lib.hid hs2;have HBX:=Lib.hid hbw3
 have HX0:Hid (GpO (wA.alloc (.cells #[.slice BA nA bA,.int .i64 gn,.slice none 0 0] 126)) w.heap.size wA.heap.size ⟨.slice BA nA bA,gr,gn,.slice none 0 0,[]⟩):=Lib.hid (by
  have h1:=own_ge HO2.out;have h2:=own_lt HO2.out;simp only[World.size_drew,World.size_alloc]at h1;refine⟨Blk.new _ _ _,(Sl.of_own HO2.out).below (below_alloc _ _),⟨rfl,.inl ⟨rfl,rfl⟩⟩,nofun,fun k hk=> ?_,fun e=> ?_,nofun,nofun,fun k _ e=>(by cases e),fun k _ q hq=>(by cases hq),fun k _ q hq=>(by cases hq),List.Pairwise.nil⟩
  ·rw[World.size_alloc]
   rcases hk with rfl|hk|hk|⟨q,hq,-⟩
   ·have:=HS2.out;omega
   ·have:=h1 k hk;have:=h2 k hk;omega
   ·cases hk
   ·cases hq
  ·have:=h2 _ e;omega)
 have y2:=HK2.out.cell 2 _ rfl;clear hownA hbA hbwA hbw3 hs2
 go_wp2_with fail
 go_loopw[5,16] (fun _ i wr=> ∃(k:Nat) (vb:Value) (bags:List (Value×List Tl)),k≤gbags.length∧i= .int .i64 k∧Hid (bags.map (·.2)=(gbags.take k).map (·.2))∧Hid (GpO wr w.heap.size wA.heap.size ⟨.slice BA nA bA,gr,gn,vb,bags⟩)∧Hid (Below w.heap.size w wr)) (fun _ i _=>gbags.length-(intOf i).toNat)
 case atStart=>exact⟨0,_,[],by omega,rfl,Lib.hid rfl,HX0,HBX⟩
 case round=>
  clear y2;obtain⟨k,vb,bags,hk,rfl,HBG,HX,HBR⟩:=hrel;obtain⟨Ax,nx,cx,rfl⟩:=own_slice HX.out.sl;by_cases hlt:k<gbags.length
  ·have hq:=List.getElem?_eq_getElem (l:=gbags) hlt
   generalize gbags[k]=q at hq;obtain⟨bb,ob,rfl,-,hcb⟩:=cellv_at HG.out.sl rfl hq;have d0:=hcb _ HBR.out;obtain⟨Aq,cq,e1,-⟩:=id (HG.out.bags q (List.mem_of_getElem? hq));have HCB:=Lib.hid (fun W (h:Below wr.heap.size wr W)=>HBC.out W (below_trans HBR.out h) q (List.mem_of_getElem? hq));have HST:=Lib.hid (map_step (f:=fun q:Value×List Tl=>q.2) hq);have hlen:bags.length=k:=by have:=congrArg List.length HBG.out;simp at this;omega
   have Q1:Hid (bags.length+1≤maxLen):=Lib.hid (by unfold maxLen;omega);have Q2:Hid ((bags.length+1)*24≤140737488355328):=Lib.hid (by omega);rw[e1]at d0 HCB;clear hq hcb e1 hlen
   go_wp2_with fail
   refine tr (S:=(fun w'=>wr.heap.size≤w'.heap.size)) (Nat.le_refl _) (fun hHeld=> ?_);refine tk 0 ?_;refine tk 1 ?_;refine tk 2 ?_;refine tk 3 ?_;refine tk 5 ?_;refine tc2 4 6 ?_ ?_;intro K hK;have y2:=(HX.out.cell).drew.cell 2 _ rfl;go_simp;refine hK.out _ _ (Nat.le_refl _) (fun hHeld4=> ?_);clear hK K;refine tc 6 ?_;intro K hK;go_simp;refine Calls.mono (by with_reducible exact HCB.out _ (Below.refl _ wr).drew) ?_;rintro e w2 ⟨u2,rfl,hown2,hb2⟩;have hbw2:=below_trans (Below.refl _ wr).drew hb2;obtain⟨Au,nu,cu,rfl⟩:=own_slice hown2
   go_wp2_with fail
   refine hK.out _ _ hbw2.size (fun hHeld6=> ?_);clear hK K;refine tc 7 ?_;intro K hK;go_simp;refine hK.out _ _ (by have:=hbw2.size;simp;omega) (fun hHeld7=> ?_);clear hK K;rotate_left;intro K hK;go_simp;refine Calls.mono (by with_reducible exact HCB.out _ (Below.refl _ wr).drew) ?_;rintro e w2 ⟨u2,rfl,hown2,hb2⟩;have hbw2:=below_trans (Below.refl _ wr).drew hb2;obtain⟨Au,nu,cu,rfl⟩:=own_slice hown2
   go_wp2_with fail
   refine hK.out _ _ hbw2.size (fun hHeld6=> ?_);clear hK K;refine tc2 4 7 ?_ ?_;intro K hK;have y2:=(HX.out.cell.below hbw2).cell 2 _ rfl;go_simp;refine hK.out _ _ hbw2.size (fun hHeld4=> ?_);clear hK K;refine tc 7 ?_;intro K hK;go_simp;refine hK.out _ _ (by have:=hbw2.size;simp;omega) (fun hHeld7=> ?_);clear hK K;rotate_left;intro K hK;go_simp;refine hK.out _ _ (by have:=hbw2.size;simp;omega) (fun hHeld7=> ?_);clear hK K;refine tc 4 ?_;intro K hK;have y2:=((HX.out.cell.below hbw2).alloc (.cells #[.slice Au nu cu] 155)).cell 2 _ rfl;go_simp;refine hK.out _ _ (by have:=hbw2.size;simp;omega) (fun hHeld4=> ?_);clear hK K
   all_goals
    refine tc 8 ?_;intro K hK;refine step_app (by rfl) _ _ 124 (by rfl) w.heap.size 155 1 24 Tryz.underlying124 bagI (.slice Ax nx cx) bags.length _ (by rfl) ((own_below HX.out.sl hbw2).alloc (.cells #[.slice Au nu cu] 155)) _ 1 [.slice Au nu cu] (by rfl) (Sl.block (Blk.new w2 155 #[.slice Au nu cu]) 1 1 (Nat.le_refl _) (by decide)) rfl (by simp[Value.oneCell']) Q1.out Q2.out (by have h1:=hbw2.size;have h2:=HBR.out.size;simp;omega) ?_;intro v3 w3 hown3 hg3 hat3;obtain⟨A3,n3,c3,rfl⟩:=own_slice hown3;have hg4:=grown_trans (grown_of_below (below_alloc w2 (.cells #[.slice Au nu cu] 155)) _) hg3;have KB:=(HX.out.cell.below (below_trans hbw2 (below_alloc w2 (.cells #[.slice Au nu cu] 155)))).grown hg3 HX.out.bvb;have b2:=KB.cell 2 _ rfl;have fb2:=KB.free 2;refine hK.out _ _ (Nat.le_trans hbw2.size hg4.size) (fun hHeld8=> ?_);clear hK K;refine tk 9 ?_;refine tk 10 ?_;refine tc 11 ?_;intro K hK;go_simp;refine hK.out _ _ (by have:=Nat.le_trans hbw2.size hg4.size;simp;omega) (fun hHeld11=> ?_);clear hK K;refine td ?_;have hrr:=HX.out.addBag (u:=Value.slice Au nu cu) (l:=q.2) hbw2 ⟨own_le hown2 HBR.out.size⟩ (fun j hj=>own_ge hown2 j hj) hown3 hg4 (hat3.imp id fun e j hj=>by rw[e]at hj;injection hj with hj;have:(w2.alloc (.cells #[.slice Au nu cu] 155)).heap.size=j:=hj;rw[World.size_alloc]at this;omega);have HX2:=Lib.hid hrr.1
    have HBR2:=Lib.hid (below_turned HBR.out hrr.2 (fun j hj=>by
     rcases hj with hj|hj
     ·exact(HX.out.range j (.inl hj)).1
     ·exact(HX.out.range j (.inr (.inr (.inl hj)))).1))
    have HBG2:Hid ((bags++[((Value.slice Au nu cu,q.2):Value×List Tl)]).map (·.2)=(gbags.take (k+1)).map (·.2)):=Lib.hid (by rw[HST.out,List.map_append,HBG.out];rfl);clear hrr hown2 hown3 hg3 hg4 hat3 hb2 hbw2 KB b2 fb2 y2 d0;go_wp2;go_roundw
    case rel=>exact⟨k+1,_,_,by omega,by go_num,HBG2,HX2,HBR2⟩
    case measure=>simp[intOf];omega
  ·obtain rfl:k=gbags.length:=by omega
   have HE:Hid (bags.map (·.2)=gbags.map (·.2)):=Lib.hid (by rw[HBG.out,List.take_length]);go_wp2;go_ret;exact⟨_,rfl,_,HX.out,by rw[HZ.out,←HE.out];rfl,HBR.out⟩
end Go.Proofs.YtjhbeecmdgglgaaGreatDoor
namespace Go.Proofs.YtjhbeecmdgglgaaGreatDoor
open Go.RowKit Go.Maps
theorem GMap.snoc {w w2 w3:World}{base M N b:Nat}{X:List (Nat×Gm)}{x:Gm}(h:GMap w base M N X)(hb:Below w.heap.size w w2)(ho:GpO w2 w.heap.size b x)(hm: ∃n,n≤N+1∧w3.ownsMap Tryz.prog 9 ptrE M n (mkD (ax (X++[(b,x)]))))(hg:w2.grownBy w3 (some M))(hbase:base≤w.heap.size):GMap w3 base M (N+1) (X++[(b,x)]):=by
 have ht:=turned_grown hg;have hlt:=h.lt;have hr: ∀k,GBk b x k→w.heap.size≤k:=fun k hk=>(ho.range k hk).1;refine⟨hm,h.mb,fun p hp=> ?_,fun p hp=> ?_,?_⟩
 ·rcases List.mem_append.1 hp with hp|hp
  ·exact(((h.each p hp).below hb).turned ht fun k hk e=>h.far p hp (by injection e with e;rw[e];exact hk))
  ·rw[List.mem_singleton.1 hp]
   have h1:=ho.turned ht fun k hk e=>by injection e with e;have:=hr k hk;omega
   exact⟨h1.cell,h1.row,own_le h1.sl hbase,fun q hq=>own_le (h1.bag q hq) hbase,fun k hk=>⟨Nat.le_trans hbase (h1.range k hk).1,(h1.range k hk).2⟩,h1.bv,h1.bvb,h1.bq,h1.vvb,h1.vq,h1.vbq,h1.pair⟩
 ·rcases List.mem_append.1 hp with hp|hp
  ·exact h.far p hp
  ·rw[List.mem_singleton.1 hp]
   exact fun hk=>by have:=hr M hk;omega
 ·refine List.pairwise_append.2 ⟨h.apart,List.pairwise_singleton _ _,fun p hp q hq k hk e=> ?_⟩
  rw[List.mem_singleton.1 hq]at e;have:=hr k e;have:=((h.each p hp).range k hk).2;omega
theorem ptrE_at (b:Nat):ptrE (.pointer (some ⟨b,0,none⟩))=some (.lit (.int .i64 ((b:Int)+1)),[]):=rfl
theorem rises_gps {G:List Gp}(f:Nat→Int)(hg: ∀g∈G,GoodR g.r)(hr:G.Pairwise fun a b=>rowsF a.r b.r<0){A:AV}(h:A.map (·.1)=G.map (·.r)):Rises A:=by
 refine⟨fun p hp=> ?_,?_⟩
 ·have:p.1∈A.map (·.1):=List.mem_map.2 ⟨p,hp,rfl⟩
  rw[h]at this;obtain⟨g,hg',e⟩:=List.mem_map.1 this;rw[←e];exact hg g hg'
 ·have h1:(A.map (·.1)).Pairwise fun a b=>rowsF a b<0:=by rw[h,List.pairwise_map];exact hr
  rw[List.pairwise_map]at h1;exact h1
theorem ax_rows (X:List (Nat×Gm)):(ax X).map (·.1)=(gx X).map (·.r):=by
 unfold ax gx;rw[List.map_map,List.map_map];rfl
set_option maxHeartbeats 8000000 in
set_option maxRecDepth 100000 in
theorem byKeys_any (v:Value)(G:List Gm)(w:World)(hG:Gms w v G)(hgd: ∀g∈gps G,GoodR g.r)(hri:(gps G).Pairwise fun a b=>rowsF a.r b.r<0)(hl:G.length≤4096)(hlen: ∀x∈G,x.bags.length≤1000000∧ ∀q∈x.bags,q.2.length≤1099511627776)(hm:Mx w):
 Calls Tryz.prog 78 #[v] w fun e w'=> ∃M,e= .returned (.map (some M))∧ ∃X,GMap w' w.heap.size M 4096 X∧gx X=gps G∧Below w.heap.size w w':=by
 have hmm:= @run_makeMap Tryz.prog;have HG:=Lib.hid hG;have HGD:=Lib.hid hgd;have HRI:=Lib.hid hri;have HM:=Lib.hid hm;have HKY:=Lib.hid (fun W (h:Below w.heap.size w W) (x:Gm) (hx:x∈G)=>key_any x.v x.r W ((hG.each x hx).row.below h) (fine_good (hgd x.gp (gps_mem hx))) (hm.below h));have HOW:=Lib.hid (fun W (h:Below w.heap.size w W) (x:Gm) (hx:x∈G)=>gown_any x W ((hG.each x hx).below h) (by have:x.r.length≤8:=(hgd x.gp (gps_mem hx)).few;omega) (hlen x hx).1 (hlen x hx).2);unfold Gm.agg at HOW;obtain⟨A,c,rfl,h1,h2,-⟩:=id hG.sl;clear hG hgd hri hlen hm;unfold maxLen at h2;have hB:=below_alloc w (.map #[] 0);have HM0:Hid (GMap (w.alloc (.map #[] 0)) w.heap.size w.heap.size 0 []):=Lib.hid ⟨⟨0,Nat.le_refl _,World.ownsMap_made w Tryz.prog 9 ptrE⟩,Nat.le_refl _,nofun,nofun,.nil⟩;go_enter Tryz.func78,Tryz.ntmps78
 go_wp2_with fail
 go_loopw[5,6,7,11] (fun _ _ _ i wr=> ∃(k:Nat) (X:List (Nat×Gm)),k≤G.length∧i= .int .i64 k∧Hid (GMap wr w.heap.size w.heap.size k X)∧Hid (gx X=(gps G).take k)∧Below w.heap.size w wr) (fun _ _ _ i _=>G.length-(intOf i).toNat)
 case atStart=>exact⟨0,[],by omega,rfl,HM0,Lib.hid rfl,hB⟩
 case round=>
  obtain⟨k,X,hk,rfl,HX,HGX,hbw⟩:=hrel;by_cases hlt:k<G.length
  ·have hx:=List.getElem?_eq_getElem (l:=G) hlt
   generalize G[k]=x at hx;obtain⟨bb,ob,rfl,-,hcb⟩:=gm_at HG.out.sl rfl hx;have hxm:=List.mem_of_getElem? hx;obtain⟨d0,d1,d2⟩:=hcb _ hbw;obtain⟨Ax,cx,e1,-⟩:=id (HG.out.each x hxm).row;obtain⟨Ay,cy,e2,-⟩:=id (HG.out.each x hxm).sl;have hgk:=HGD.out x.gp (gps_mem hxm);have hgr:GoodR x.r:=hgk;have hst:gx X++[x.gp]=(gps G).take (k+1):=by rw[HGX.out,List.take_add_one,gps_at hx];rfl
   have hri1:Rises (ax X):=rises_gps (fun _=>0) (G:=gx X) (fun g hg=>HGD.out g (by rw[HGX.out]at hg;exact List.mem_of_mem_take hg)) (by rw[HGX.out];exact HRI.out.sublist (List.take_sublist _ _)) (ax_rows X)
   have HPT:Hid (∀(b:Nat) (x':Gm),x'.gp=x.gp→(mkD (ax X)).put (kOf x.r) (.lit (.int .i64 ((b:Int)+1)))=mkD (ax (X++[(b,x')]))):=Lib.hid (fun b x' e=>by
    have er:x'.r=x.r:=congrArg Gp.r e;have e3:ax (X++[(b,x')])=ax X++[(x.r,(b:Int)+1)]:=by unfold ax;rw[List.map_append];show _++[(x'.r,_)]=_;rw[er]
    have hri2:Rises (ax X++[(x.r,(b:Int)+1)]):=rises_gps (fun _=>0) (G:=gx X++[x.gp]) (fun g hg=>HGD.out g (by rw[hst]at hg;exact List.mem_of_mem_take hg)) (by rw[hst];exact HRI.out.sublist (List.take_sublist _ _)) (by rw[List.map_append,ax_rows,List.map_append];rfl);rw[mkD_put hri1 hgr,put_last hri2,e3])
   have HST:=Lib.hid hst;have hke:keyR x.r=(str (keyRow x.r),0):=if_neg (by rw[keyErr_goodG hgr];simp);have HKX:=Lib.hid (fun W (h:Below w.heap.size w W)=>HKY.out W h x hxm);rw[hke]at HKX;have HOX:=Lib.hid (fun W (h:Below w.heap.size w W)=>HOW.out W h x hxm);have HKS:=Lib.hid (keyS hgr);rw[e1]at d0 HKX HOX;rw[e2]at d2 HOX;have hbw2:=hbw.alloc hbw.size (.cells #[.slice Ax x.r.length cx,.int .i64 x.n,.slice Ay x.bags.length cy] 126);have HX2:=HX.out.below (below_alloc wr (.cells #[.slice Ax x.r.length cx,.int .i64 x.n,.slice Ay x.bags.length cy] 126));have kb:=(Blk.new wr 126 #[.slice Ax x.r.length cx,.int .i64 x.n,.slice Ay x.bags.length cy]);generalize str (keyRow x.r)=s at HKX HKS;clear hx hcb hgk hgr hst hri1 hke e1 e2
   go_wp2_with fail
   refine Calls.mono (by with_reducible exact HKX.out _ hbw2) ?_;rintro e w2 ⟨rfl,hb2⟩;have kb2:=kb.below hb2;have y0:=kb2.cell 0 _ rfl;have y1:=kb2.cell 1 _ rfl;have y2:=kb2.cell 2 _ rfl;have hbw3:=below_trans hbw2 hb2;have HX3:=HX2.below hb2;clear hb2 kb kb2 hbw2 HX2 d0 d1 d2
   go_wp2_with fail
   refine Calls.mono (by with_reducible exact HOX.out _ hbw3) ?_;rintro e w3 ⟨b,x',rfl,ho,hgp,hb3⟩;obtain⟨n,hn,hown⟩:=(HX3.below hb3).map;have HN:Hid (n<maxLen):=Lib.hid (by unfold maxLen;omega);have HO:=Lib.hid ho;have HGP:=Lib.hid hgp;have HX4:=Lib.hid HX3;have HB3:=Lib.hid hb3;have hbw4:=below_trans hbw3 hb3;have HSZ:=Lib.hid hbw3.size;clear ho hgp hb3 HX3 y0 y1 y2
   go_wp2_with (at_mapUpdate;refine wpList_mapUpdate_own _ rfl _ _ _ 117 rfl 9 123 lawS Tryz.underlying117 ptrE w.heap.size n _ rfl hown HN.out _ _ _ rfl rfl HKS.out _ [] (ptrE_at b) ?_;intro w4 hown4 hgrow4)
   have HX5:=Lib.hid (HX4.out.snoc HB3.out HO.out ⟨n+1,by omega,by rw[←HPT.out b x' HGP.out];exact hown4⟩ hgrow4 HSZ.out);have HG5:Hid (gx (X++[(b,x')])=(gps G).take (k+1)):=Lib.hid (by rw[←HST.out];unfold gx;rw[List.map_append];show _++[x'.gp]=_;rw[HGP.out]);have hbw5:=hbw4.grown hgrow4 hbw4.size (fun j hj=>by cases hj;exact Nat.le_refl _);clear hown hown4 hgrow4;go_roundw
   case rel=>exact⟨k+1,_,by omega,by go_num,HX5,HG5,hbw5⟩
   case measure=>simp[intOf];omega
  ·obtain rfl:k=G.length:=by omega
   have HE:Hid (gx X=gps G):=Lib.hid (by rw[HGX.out,List.take_of_length_le (by rw[gps_len];exact Nat.le_refl _)]);have HX6:Hid (GMap wr w.heap.size w.heap.size 4096 X):=Lib.hid (by obtain⟨n,hn,hm⟩:=HX.out.map;exact⟨⟨n,by omega,hm⟩,HX.out.mb,HX.out.each,HX.out.far,HX.out.apart⟩);go_wp2;go_ret;exact⟨_,rfl,_,HX6.out,HE.out,hbw⟩
end Go.Proofs.YtjhbeecmdgglgaaGreatDoor
namespace Go.Proofs.YtjhbeecmdgglgaaGreatDoor
open Go.RowKit Go.Maps
theorem mem_mid {α:Type}{p a:α}{X1 X2:List α}(h:p∈X1++a::X2):p=a∨p∈X1++X2:=by
 rcases List.mem_append.1 h with h|h
 ·exact .inr (List.mem_append.2 (.inl h))
 ·rcases List.mem_cons.1 h with h|h
  ·exact .inl h
  ·exact .inr (List.mem_append.2 (.inr h))
theorem mem_rest {α:Type}{p a:α}{X1 X2:List α}(h:p∈X1++X2):p∈X1++a::X2:=by
 rcases List.mem_append.1 h with h|h
 ·exact List.mem_append.2 (.inl h)
 ·exact List.mem_append.2 (.inr (List.mem_cons_of_mem _ h))
theorem mem_at {α:Type}(a:α)(X1 X2:List α):a∈X1++a::X2:=List.mem_append.2 (.inr (List.mem_cons_self ..))
theorem gbk_symm {p q:Nat×Gm}(h: ∀k,GBk p.1 p.2 k→ ¬GBk q.1 q.2 k): ∀k,GBk q.1 q.2 k→ ¬GBk p.1 p.2 k:=fun k hq hp=>h k hp hq
theorem mapTurned_turned {w w':World}{b:Nat}(h:w.mapTurned w' b):Turned (fun k=>k=b) w w':=by
 exact(turned_grown h.grown).imp fun k _ e=>by injection e with e;exact e.symm
theorem look_mid {A B:AV}{r:List Val}{n:Int}(hA: ∀p∈A,rowsF p.1 r<0)(hr:rowsF r r=0):lookA (A++(r,n)::B) r=n:=by
 induction A with
 |nil=>exact if_pos hr
 |cons x A ih=>
  obtain⟨xr,m⟩:=x;have:=hA (xr,m) (by simp);show(if rowsF xr r=0 then m else lookA (A++(r,n)::B) r)=n;rw[if_neg (by simp only at this;omega)];exact ih fun p hp=>hA p (by simp[hp])
theorem look_none {A:AV}{r:List Val}(hA: ∀p∈A,rowsF p.1 r≠0):lookA A r=0:=by
 induction A with
 |nil=>rfl
 |cons x A ih=>
  obtain⟨xr,m⟩:=x;show(if rowsF xr r=0 then m else lookA A r)=0;rw[if_neg (hA (xr,m) (by simp))];exact ih fun p hp=>hA p (by simp[hp])
theorem del_mid {A B:AV}{r:List Val}{n:Int}(hA: ∀p∈A,rowsF p.1 r<0)(hr:rowsF r r=0):delA (A++(r,n)::B) r=A++B:=by
 induction A with
 |nil=>exact if_pos hr
 |cons x A ih=>
  obtain⟨xr,m⟩:=x;have:=hA (xr,m) (by simp);show(if rowsF xr r=0 then A++(r,n)::B else(xr,m)::delA (A++(r,n)::B) r)=_;rw[if_neg (by simp only at this;omega),ih fun p hp=>hA p (by simp[hp])];rfl
theorem put_mid {A B:AV}{r:List Val}{n:Int}(hA: ∀p∈A,rowsF p.1 r<0)(hB: ∀p∈B,0<rowsF p.1 r):putA (A++B) r n=A++(r,n)::B:=by
 induction A with
 |nil=>
  cases B with
  |nil=>rfl
  |cons x B=>
   obtain⟨xr,m⟩:=x;have:=hB (xr,m) (by simp);show(if rowsF xr r=0 then(xr,n)::B else if rowsF xr r<0 then(xr,m)::putA B r n else(r,n)::(xr,m)::B)=_;rw[if_neg (by simp only at this;omega),if_neg (by simp only at this;omega)];rfl
 |cons x A ih=>
  obtain⟨xr,m⟩:=x;have:=hA (xr,m) (by simp);show(if rowsF xr r=0 then(xr,n)::(A++B)else if rowsF xr r<0 then(xr,m)::putA (A++B) r n else _)=_;rw[if_neg (by simp only at this;omega),if_pos (by exact this),ih fun p hp=>hA p (by simp[hp])];rfl
theorem ax_mid (X1 X2:List (Nat×Gm))(b:Nat)(x:Gm):ax (X1++(b,x)::X2)=ax X1++(x.r,(b:Int)+1)::ax X2:=by
 unfold ax;rw[List.map_append,List.map_cons]
theorem ax_app (X1 X2:List (Nat×Gm)):ax (X1++X2)=ax X1++ax X2:=List.map_append
theorem gx_mid (X1 X2:List (Nat×Gm))(b:Nat)(x:Gm):gx (X1++(b,x)::X2)=gx X1++x.gp::gx X2:=by
 unfold gx;rw[List.map_append,List.map_cons]
theorem gx_app (X1 X2:List (Nat×Gm)):gx (X1++X2)=gx X1++gx X2:=List.map_append
theorem ax_gx {X:List (Nat×Gm)}{p:List Val×Int}(h:p∈ax X): ∃g∈gx X,g.r=p.1:=by
 have:p.1∈(ax X).map (·.1):=List.mem_map.2 ⟨p,h,rfl⟩;rw[ax_rows]at this;obtain⟨g,hg,e⟩:=List.mem_map.1 this;exact⟨g,hg,e⟩
theorem GMap.upd {w w':World}{base M N b:Nat}{X1 X2:List (Nat×Gm)}{x x':Gm}(h:GMap w base M N (X1++(b,x)::X2))(ht:Turned (GBk b x) w w')(ho:GpO w' base b x')(hr:x'.r=x.r)(hk: ∀k,GBk b x' k→GBk b x k∨w.heap.size≤k):GMap w' base M N (X1++(b,x')::X2):=by
 obtain⟨hp1,hp2⟩:=List.pairwise_cons.1 ((List.pairwise_middle (fun{p q} h=>gbk_symm h)).1 h.apart);have hfar:=h.far (b,x) (mem_at _ _ _);have hlt:=h.lt;obtain⟨n,hn,hm⟩:=h.map;refine⟨⟨n,hn,?_⟩,h.mb,fun p hp=> ?_,fun p hp=> ?_,(List.pairwise_middle (fun{p q} h=>gbk_symm h)).2 (List.pairwise_cons.2 ⟨fun p hp k hk' e=> ?_,hp2⟩)⟩
 ·have h1:=map_turned hm ht hfar
  rw[ax_mid]at h1⊢;rw[hr];exact h1
 ·rcases mem_mid hp with rfl|hp
  ·exact ho
  ·exact(h.each p (mem_rest hp)).turned ht fun k hk hg=>hp1 p hp k hg hk
 ·rcases mem_mid hp with rfl|hp
  ·intro hf
   rcases hk M hf with h1|h1
   ·exact hfar h1
   ·omega
  ·exact h.far p (mem_rest hp)
 ·rcases hk k hk' with h1|h1
  ·exact hp1 p hp k h1 e
  ·have:=((h.each p (mem_rest hp)).range k e).2;omega
structure Tn (w:World) (base M:Nat) (X:List (Nat×Gm)) (w':World) (N:Nat) (X':List (Nat×Gm)):Prop where
 map:GMap w' base M N X'
 turned:Turned (MBk M X) w w'
 old: ∀k,k<w.heap.size→MBk M X' k→MBk M X k
theorem Tn.start {w:World}{base M N:Nat}{X:List (Nat×Gm)}(h:GMap w base M N X):Tn w base M X w N X:=⟨h,Turned.refl _ _,fun _ _ h=>h⟩
theorem Tn.below {w w1 w2:World}{base M N:Nat}{X X':List (Nat×Gm)}(h:Tn w base M X w1 N X')(hb:Below w1.heap.size w1 w2):Tn w base M X w2 N X':=⟨h.map.below hb,h.turned.transN (turned_below (F:=fun _=>False) hb) (fun _ _ f=>f.elim),h.old⟩
theorem Tn.more {w w1:World}{base M N N':Nat}{X X':List (Nat×Gm)}(h:Tn w base M X w1 N X')(hN:N≤N'):Tn w base M X w1 N' X':=by
 obtain⟨⟨⟨n,hn,hm⟩,h1,h2,h3,h4⟩,h5,h6⟩:=h;exact⟨⟨⟨n,Nat.le_trans hn hN,hm⟩,h1,h2,h3,h4⟩,h5,h6⟩
theorem Tn.upd {w w1 w2:World}{base M N b:Nat}{X X1 X2:List (Nat×Gm)}{x x':Gm}(h:Tn w base M X w1 N (X1++(b,x)::X2))(ht:Turned (GBk b x) w1 w2)(ho:GpO w2 base b x')(hr:x'.r=x.r)(hk: ∀k,GBk b x' k→GBk b x k∨w1.heap.size≤k):Tn w base M X w2 N (X1++(b,x')::X2):=by
 refine⟨h.map.upd ht ho hr hk,h.turned.transN ht (fun i hi hg=>h.old i hi (.inr ⟨(b,x),mem_at _ _ _,hg⟩)),fun k hl hm=> ?_⟩;rcases hm with hm|⟨p,hp,hm⟩
 ·exact h.old k hl (.inl hm)
 ·rcases mem_mid hp with rfl|hp
  ·rcases hk k hm with h1|h1
   ·exact h.old k hl (.inr ⟨(b,x),mem_at _ _ _,h1⟩)
   ·have:=h.turned.size;omega
  ·exact h.old k hl (.inr ⟨p,mem_rest hp,hm⟩)
theorem Tn.put {w w1 w2 w3:World}{base M N b:Nat}{X X1 X2:List (Nat×Gm)}{x:Gm}(h:Tn w base M X w1 N (X1++X2))(hb:Below w1.heap.size w1 w2)(ho:GpO w2 w1.heap.size b x)(hm: ∃n,n≤N+1∧w3.ownsMap Tryz.prog 9 ptrE M n (mkD (ax (X1++(b,x)::X2))))(hg:w2.grownBy w3 (some M))(hbase:base≤w1.heap.size):Tn w base M X w3 (N+1) (X1++(b,x)::X2):=by
 have ht:=turned_grown hg;have hlt:=h.map.lt;have hr: ∀k,GBk b x k→w1.heap.size≤k:=fun k hk=>(ho.range k hk).1;have hsz:=h.turned.size;have hM: ∀ {k},some M=some k→k=M:=fun e=>by injection e with e;exact e.symm
 refine⟨⟨hm,h.map.mb,fun p hp=> ?_,fun p hp=> ?_,(List.pairwise_middle (fun{p q} h=>gbk_symm h)).2 (List.pairwise_cons.2 ⟨fun p hp k hk e=> ?_,h.map.apart⟩)⟩,?_,fun k hl hm=> ?_⟩
 ·rcases mem_mid hp with rfl|hp
  ·have h1:=ho.turned ht fun k hk e=>by have:=hM e;have:=hr k hk;omega
   exact⟨h1.cell,h1.row,own_le h1.sl hbase,fun q hq=>own_le (h1.bag q hq) hbase,fun k hk=>⟨Nat.le_trans hbase (h1.range k hk).1,(h1.range k hk).2⟩,h1.bv,h1.bvb,h1.bq,h1.vvb,h1.vq,h1.vbq,h1.pair⟩
  ·exact((h.map.each p hp).below hb).turned ht fun k hk e=>h.map.far p hp (by rw[←hM e];exact hk)
 ·rcases mem_mid hp with rfl|hp
  ·exact fun hk=>by have:=hr M hk;omega
  ·exact h.map.far p hp
 ·have:=hr k hk
  have:=((h.map.each p hp).range k e).2;omega
 ·exact(h.turned.transN (turned_below (F:=fun _=>False) hb) (fun _ _ f=>f.elim)).transN ht fun i hi e=>h.old i hi (.inl (hM e))
 ·rcases hm with hm|⟨p,hp,hm⟩
  ·exact h.old k hl (.inl hm)
  ·rcases mem_mid hp with rfl|hp
   ·have:=hr k hm;omega
   ·exact h.old k hl (.inr ⟨p,hp,hm⟩)
theorem Tn.drop {w w1 w2:World}{base M N b:Nat}{X X1 X2:List (Nat×Gm)}{x:Gm}(h:Tn w base M X w1 N (X1++(b,x)::X2))(hm: ∃n,n≤N∧w2.ownsMap Tryz.prog 9 ptrE M n (mkD (ax (X1++X2))))(ht:w1.mapTurned w2 M):Tn w base M X w2 N (X1++X2):=by
 have ht:=mapTurned_turned ht;obtain⟨hp1,hp2⟩:=List.pairwise_cons.1 ((List.pairwise_middle (fun{p q} h=>gbk_symm h)).1 h.map.apart);refine⟨⟨hm,h.map.mb,fun p hp=>(h.map.each p (mem_rest hp)).turned ht fun k hk e=>h.map.far p (mem_rest hp) (e▸hk),fun p hp=>h.map.far p (mem_rest hp),hp2⟩,h.turned.transN ht (fun i hi e=>h.old i hi (.inl e)),fun k hl hm=> ?_⟩;rcases hm with hm|⟨p,hp,hm⟩
 ·exact h.old k hl (.inl hm)
 ·exact h.old k hl (.inr ⟨p,mem_rest hp,hm⟩)
end Go.Proofs.YtjhbeecmdgglgaaGreatDoor
namespace Go.Proofs.YtjhbeecmdgglgaaGreatDoor
open Go.RowKit Go.Maps
structure BagSt (r:List Val) (n:Int) (al:List (Int×Int)) (B0 B:List (List Tl)) (i:Nat):Prop where
 ok:(bagsG r n al B0).2=(bagsG r n (al.drop i) (B.drop i)).2
 list:(bagsG r n (al.drop i) (B.drop i)).2=true→(bagsG r n al B0).1=B.take i++(bagsG r n (al.drop i) (B.drop i)).1
 rest:B.drop i=B0.drop i
 len:B.length=B0.length
theorem BagSt.start (r:List Val)(n:Int)(al:List (Int×Int))(B0:List (List Tl)):BagSt r n al B0 B0 0:=⟨rfl,fun _=>rfl,rfl,rfl⟩
theorem BagSt.same {r:List Val}{n:Int}{al:List (Int×Int)}{B0 B:List (List Tl)}{i:Nat}{a:Int×Int}(h:BagSt r n al B0 B i)(ha:al[i]?=some a)(hB:i<B.length)(h1:a.1=1):BagSt r n al B0 B (i+1):=by
 obtain⟨hl,rfl⟩:=List.getElem?_eq_some_iff.1 ha;have e1:=List.drop_eq_getElem_cons hl;have e2:=List.drop_eq_getElem_cons hB;have hs:bagsG r n (al.drop i) (B.drop i)=(B[i]::(bagsG r n (al.drop (i+1)) (B.drop (i+1))).1,(bagsG r n (al.drop (i+1)) (B.drop (i+1))).2):=by rw[e1,e2];exact if_pos h1
 refine⟨by rw[h.ok,hs],fun h2=> ?_,?_,h.len⟩
 ·rw[h.list (by rw[hs];exact h2),hs,List.take_add_one,List.getElem?_eq_getElem hB,Option.toList_some,List.append_assoc]
  rfl
 ·have:=congrArg (List.drop 1) h.rest
  rw[List.drop_drop,List.drop_drop]at this;exact this
theorem BagSt.done {r:List Val}{n:Int}{al:List (Int×Int)}{B0 B:List (List Tl)}{i:Nat}{a:Int×Int}{q:List Tl}(h:BagSt r n al B0 B i)(ha:al[i]?=some a)(hB:B[i]?=some q)(h1:a.1≠1)(h2:(tallyG q (r.getD a.2.toNat nullG) n).2=true):BagSt r n al B0 (B.set i (tallyG q (r.getD a.2.toNat nullG) n).1) (i+1):=by
 obtain⟨hl,rfl⟩:=List.getElem?_eq_some_iff.1 ha;obtain⟨hb,rfl⟩:=List.getElem?_eq_some_iff.1 hB;have e1:=List.drop_eq_getElem_cons hl;have e2:=List.drop_eq_getElem_cons hb;have hs:bagsG r n (al.drop i) (B.drop i)=((tallyG B[i] (r.getD al[i].2.toNat nullG) n).1::(bagsG r n (al.drop (i+1)) (B.drop (i+1))).1,(bagsG r n (al.drop (i+1)) (B.drop (i+1))).2):=by rw[e1,e2];exact(if_neg h1).trans (if_pos h2)
 have e3:(B.set i (tallyG B[i] (r.getD al[i].2.toNat nullG) n).1).drop (i+1)=B.drop (i+1):=List.drop_set_of_lt (by omega);refine⟨by rw[h.ok,hs,e3],fun h3=> ?_,?_,by rw[List.length_set];exact h.len⟩
 ·rw[e3]at h3⊢
  rw[h.list (by rw[hs];exact h3),hs,List.take_add_one,List.getElem?_set_self hb,List.take_set_of_le (Nat.le_refl _),Option.toList_some,List.append_assoc];rfl
 ·rw[e3]
  have:=congrArg (List.drop 1) h.rest;rw[List.drop_drop,List.drop_drop]at this;exact this
theorem BagSt.fail {r:List Val}{n:Int}{al:List (Int×Int)}{B0 B:List (List Tl)}{i:Nat}{a:Int×Int}{q:List Tl}(h:BagSt r n al B0 B i)(ha:al[i]?=some a)(hB:B[i]?=some q)(h1:a.1≠1)(h2:(tallyG q (r.getD a.2.toNat nullG) n).2=false):(bagsG r n al B0).2=false:=by
 obtain⟨hl,rfl⟩:=List.getElem?_eq_some_iff.1 ha;obtain⟨hb,rfl⟩:=List.getElem?_eq_some_iff.1 hB;rw[h.ok,List.drop_eq_getElem_cons hl,List.drop_eq_getElem_cons hb];show(if al[i].1=1 then _ else if _=true then _ else(([]:List (List Tl)),false)).2=false;rw[if_neg h1,if_neg (by rw[h2];simp)]
theorem BagSt.end_ {r:List Val}{n:Int}{al:List (Int×Int)}{B0 B:List (List Tl)}(h:BagSt r n al B0 B al.length)(hl:B.length=al.length):(bagsG r n al B0).2=true∧(bagsG r n al B0).1=B:=by
 have e:bagsG r n (al.drop al.length) (B.drop al.length)=([],true):=by rw[List.drop_length];unfold bagsG;rfl
 have h1:=h.ok;have h2:=h.list;rw[e]at h1 h2;exact⟨h1,by rw[h2 rfl,←hl,List.take_length];simp⟩
def turnP (p:Pl) (r:List Val) (n:Int) (L1:List Gp) (g:Gp) (L2:List Gp):List Gp×Int:=
 if(bagsG r n p.aggs g.bags).2=true then(L1++((if g.n+n=0 then[]else[⟨g.r,g.n+n,(bagsG r n p.aggs g.bags).1⟩])++L2),0)else([],9)
theorem turn_has {p:Pl}{G:List Gp}{c:Int×List Val}{g:Gp}(h:hasG G (cellsG p c.2)=true)(hg:G[placeG G (cellsG p c.2)]?=some g):
 turnG p G c=if 0<stepI c.1∧g.n=1073741824 then([],2)else turnP p c.2 (stepI c.1) (G.take (placeG G (cellsG p c.2))) g (G.drop (placeG G (cellsG p c.2)+1)):=by
 unfold turnG turnP;have e:G.getD (placeG G (cellsG p c.2)) (gp0 p [])=g:=by simp[List.getD,hg]
 rw[if_pos h,e]
theorem turn_new {p:Pl}{G:List Gp}{c:Int×List Val}(h:hasG G (cellsG p c.2)=false):
 turnG p G c=if stepI c.1<0 then([],9)else if G.length=4096 then([],2)else turnP p c.2 (stepI c.1) (G.take (placeG G (cellsG p c.2))) ⟨cellsG p c.2,0,p.aggs.map fun _=>[]⟩ (G.drop (placeG G (cellsG p c.2))):=by
 unfold turnG turnP;rw[if_neg (by rw[h];simp)];have h1:=stepI_two c.1;by_cases h2:stepI c.1<0
 ·rw[if_pos h2,if_pos h2]
 ·rw[if_neg h2,if_neg h2]
  by_cases h3:G.length=4096
  ·rw[if_pos h3,if_pos h3]
  ·rw[if_neg h3,if_neg h3,if_neg (show ¬(0:Int)+stepI c.1=0 by omega)]
   unfold gp0;simp
theorem splitX {X:List (Nat×Gm)}{i:Nat}{g:Gp}(h:(gx X)[i]?=some g): ∃b x,X=X.take i++(b,x)::X.drop (i+1)∧x.gp=g∧gx (X.take i)=(gx X).take i∧gx (X.drop (i+1))=(gx X).drop (i+1):=by
 unfold gx at h⊢;rw[List.getElem?_map]at h;obtain⟨q,hq,e⟩:=Option.map_eq_some_iff.1 h;obtain⟨hl,rfl⟩:=List.getElem?_eq_some_iff.1 hq;refine⟨X[i].1,X[i].2,?_,e,List.map_take,List.map_drop⟩;rw[←List.drop_eq_getElem_cons hl,List.take_append_drop]
end Go.Proofs.YtjhbeecmdgglgaaGreatDoor
