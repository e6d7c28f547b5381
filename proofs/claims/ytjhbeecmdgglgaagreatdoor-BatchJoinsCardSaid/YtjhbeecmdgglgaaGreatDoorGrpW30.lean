/-Batches: a map of keys to parts of a view, each a list of one's own. Batches: a map of keys to numbers of rows, each a list of one's own. (Printed by  -/
import Derived.Test.YtjhbeecmdgglgaaGreatDoorGrpW28
import Derived.Test.YtjhbeecmdgglgaaGreatDoorGrpW29
import Derived.Test.YtjhbeecmdgglgaaGreatDoorGrpW11
import Derived.Test.YtjhbeecmdgglgaaGreatDoorGrpW13
import Derived.Test.YtjhbeecmdgglgaaGreatDoorGrpW16
set_option linter.unusedSimpArgs false
set_option linter.unusedVariables false
namespace Go.Proofs.YtjhbeecmdgglgaaGreatDoor
open Go.RowKit Go.Maps
theorem entry_rowB {A:AV}{kl:Lit}{y:DataW Unit}(hat: ∀zd,(mkD A).atKey kl zd=y): ∃p∈A,(kOf p.1).sameKey kl=true∧y= .lit (.int .i64 p.2):=by
 have h0:=hat (.lit (.int .i64 0));have h1:=hat (.lit (.int .i64 1));unfold mkD DataW.atKey at h0 h1;simp only at h0 h1;cases hf:(A.map ent).find? (fun p=>p.1.sameKey kl)with
 |none=>rw[hf]at h0 h1;simp at h0 h1;rw[←h0]at h1;simp at h1
 |some q=>
  have hm:=List.mem_of_find?_eq_some hf;have hk:=List.find?_some hf;obtain⟨p,hp,rfl⟩:=List.mem_map.1 hm;rw[hf]at h0;exact⟨p,hp,hk,h0.symm⟩
theorem same_strB {p:List Val}{x:List UInt8}(h:(kOf p).sameKey (.string x)=true):x=keyRow p:=by
 have:(keyRow p==x)=true:=h;exact(by simpa using this:keyRow p=x).symm
structure Prt where
 r:List Val
 v:Value
 l:List Cnt
def codeV (v:Value):Int:=match v with
 | .slice (some ⟨b,_,_⟩) n c=>((b:Int)+1)*340282366920938463463374607431768211456+(n:Int)*18446744073709551616+(c:Int)
 |_=>0
def slcE (v:Value):Option (DataW Unit×List MemPlace):=match v with
 | .slice none 0 0=>some (.lit (.int .i64 0),[])
 | .slice (some ⟨b,0,none⟩) n c=>if n<18446744073709551616∧c<18446744073709551616 then some (.lit (.int .i64 (codeV (.slice (some ⟨b,0,none⟩) n c))),[])else none
 |_=>none
theorem slcE_inv {u v:Value}{ps qs:List MemPlace}(h:slcE u=some (.lit (.int .i64 (codeV v)),ps))(hv:slcE v=some (.lit (.int .i64 (codeV v)),qs)):u=v:=by
 unfold slcE at h hv;split at h
 ·split at hv
  ·rfl
  ·split at hv
   ·rename_i h1
    injection h with h;injection h with h2 _;injection h2 with h2;injection h2 with _ h2;unfold codeV at h2;simp only at h2;omega
   ·cases hv
  ·cases hv
 ·split at h
  ·rename_i h1
   split at hv
   ·injection h with h;injection h with h2 _;injection h2 with h2;injection h2 with _ h2
    unfold codeV at h2;simp only at h2;omega
   ·split at hv
    ·rename_i h3
     injection h with h;injection h with h2 _;injection h2 with h2;injection h2 with _ h2;unfold codeV at h2;simp only at h2
     have e1: ∀a b n m c d:Int,0≤n→0≤m→0≤c→0≤d→n<18446744073709551616→m<18446744073709551616→c<18446744073709551616→d<18446744073709551616→(a+1)*340282366920938463463374607431768211456+n*18446744073709551616+c=(b+1)*340282366920938463463374607431768211456+m*18446744073709551616+d→a=b∧n=m∧c=d:=by
      intro a b n m c d;omega
     have:=e1 _ _ _ _ _ _ (by omega) (by omega) (by omega) (by omega) (by omega) (by omega) (by omega) (by omega) h2;obtain⟨a1,a2,a3⟩:=this
     congr 3<;>omega
    ·cases hv
   ·cases hv
  ·cases h
 ·cases h
theorem slcE_own {w:World}{base:Nat}{e:TypeId}{size n:Nat}{v:Value}{xs:List Value}(h:w.ownsRow base e size v n xs)(hn:n≤maxLen):slcE v=some (.lit (.int .i64 (codeV v)),[]):=by
 rcases h.2 with⟨rfl,rfl⟩|⟨g,cap,cur,rfl,_,_,_,hc,_⟩
 ·rfl
 ·unfold slcE
  unfold maxLen at hn hc;simp only;rw[if_pos (by omega)]
def axP (X:List Prt):AV:=X.map fun q=>(q.r,codeV q.v)
def putX:List Prt→List Val→Value→Cnt→List Prt
 |[],k,v,c=>[⟨k,v,[c]⟩]
 |x::t,k,v,c=>if rowsF x.r k=0 then⟨x.r,v,x.l++[c]⟩::t else if rowsF x.r k<0 then x::putX t k v c else⟨k,v,[c]⟩::x::t
def lookP:List Prt→List Val→Value×List Cnt
 |[],_=>(.slice none 0 0,[])
 |x::t,k=>if rowsF x.r k=0 then(x.v,x.l)else lookP t k
theorem axP_put (X:List Prt)(k:List Val)(v:Value)(c:Cnt):axP (putX X k v c)=putA (axP X) k (codeV v):=by
 induction X with
 |nil=>rfl
 |cons x t ih=>
  show axP (if rowsF x.r k=0 then⟨x.r,v,x.l++[c]⟩::t else if rowsF x.r k<0 then x::putX t k v c else⟨k,v,[c]⟩::x::t)=(if rowsF x.r k=0 then(x.r,codeV v)::axP t else if rowsF x.r k<0 then(x.r,codeV x.v)::putA (axP t) k (codeV v)else(k,codeV v)::(x.r,codeV x.v)::axP t);by_cases h1:rowsF x.r k=0
  ·rw[if_pos h1,if_pos h1];rfl
  ·rw[if_neg h1,if_neg h1]
   by_cases h2:rowsF x.r k<0
   ·rw[if_pos h2,if_pos h2,←ih];rfl
   ·rw[if_neg h2,if_neg h2];rfl
theorem look_axP (X:List Prt)(k:List Val):lookA (axP X) k=codeV (lookP X k).1:=by
 induction X with
 |nil=>rfl
 |cons x t ih=>
  show(if rowsF x.r k=0 then codeV x.v else lookA (axP t) k)=codeV (if rowsF x.r k=0 then(x.v,x.l)else lookP t k).1;by_cases h1:rowsF x.r k=0
  ·rw[if_pos h1,if_pos h1]
  ·rw[if_neg h1,if_neg h1];exact ih
theorem putX_mem {X:List Prt}{k:List Val}{v:Value}{c:Cnt}{q:Prt}(hs:Rises (axP X))(hk:GoodR k)(h:q∈putX X k v c):(q.v=v∧q.l=(lookP X k).2++[c]∧q.r=k)∨(q∈X∧q.r≠k):=by
 induction X with
 |nil=>
  rw[List.mem_singleton.1 h];exact .inl ⟨rfl,rfl,rfl⟩
 |cons x t ih=>
  have hx:=hs.good (x.r,codeV x.v) (List.mem_cons_self ..);have hx:GoodR x.r:=hx;have ht:Rises (axP t):=⟨fun p hp=>hs.good p (List.mem_cons_of_mem _ hp),(List.pairwise_cons.1 hs.rise).2⟩;have hlt: ∀y∈t,rowsF x.r y.r<0:=fun y hy=>(List.pairwise_cons.1 hs.rise).1 (y.r,codeV y.v) (List.mem_map.2 ⟨y,hy,rfl⟩);have hgt: ∀y∈t,GoodR y.r:=fun y hy=>ht.good (y.r,codeV y.v) (List.mem_map.2 ⟨y,hy,rfl⟩);unfold putX at h;unfold lookP;by_cases h1:rowsF x.r k=0
  ·have e:x.r=k:=(rowsF_zero hx hk).1 h1
   rw[if_pos h1]at h⊢;rcases List.mem_cons.1 h with rfl|h
   ·exact .inl ⟨rfl,rfl,e⟩
   ·refine .inr ⟨List.mem_cons_of_mem _ h,fun e2=> ?_⟩
    have:=hlt q h;rw[e,e2,rowsF_self hk]at this;omega
  ·rw[if_neg h1]at h⊢
   by_cases h2:rowsF x.r k<0
   ·rw[if_pos h2]at h
    rcases List.mem_cons.1 h with rfl|h
    ·exact .inr ⟨List.mem_cons_self ..,fun e=>h1 (by rw[e];exact rowsF_self hk)⟩
    ·rcases ih ht h with h|h
     ·exact .inl h
     ·exact .inr ⟨List.mem_cons_of_mem _ h.1,h.2⟩
   ·rw[if_neg h2]at h
    have hnone: ∀s:List Prt,(∀y∈s,rowsF y.r k≠0)→lookP s k=(.slice none 0 0,[]):=by
     intro s
     induction s with
     |nil=>intro _;rfl
     |cons y s ih2=>
      intro hy;unfold lookP;rw[if_neg (hy y (by simp))];exact ih2 fun z hz=>hy z (by simp[hz])
    have hne: ∀y∈t,rowsF y.r k≠0:=fun y hy e=>by
     have e:=(rowsF_zero (hgt y hy) hk).1 e;have:=hlt y hy;rw[e]at this;omega
    rcases List.mem_cons.1 h with rfl|h
    ·rw[hnone t hne]
     exact .inl ⟨rfl,rfl,rfl⟩
    ·rcases List.mem_cons.1 h with rfl|h
     ·exact .inr ⟨List.mem_cons_self ..,fun e=>h1 (by rw[e];exact rowsF_self hk)⟩
     ·exact .inr ⟨List.mem_cons_of_mem _ h,fun e=>hne q h (by rw[e];exact rowsF_self hk)⟩
theorem lookP_mem {X:List Prt}{k:List Val}(hs:Rises (axP X))(hk:GoodR k):((lookP X k)=(.slice none 0 0,[])∧ ∀q∈X,q.r≠k)∨ ∃q∈X,q.r=k∧lookP X k=(q.v,q.l):=by
 induction X with
 |nil=>exact .inl ⟨rfl,nofun⟩
 |cons x t ih=>
  have hx:GoodR x.r:=hs.good (x.r,codeV x.v) (List.mem_cons_self ..);have ht:Rises (axP t):=⟨fun p hp=>hs.good p (List.mem_cons_of_mem _ hp),(List.pairwise_cons.1 hs.rise).2⟩;unfold lookP;by_cases h1:rowsF x.r k=0
  ·rw[if_pos h1]
   exact .inr ⟨x,by simp,(rowsF_zero hx hk).1 h1,rfl⟩
  ·rw[if_neg h1]
   rcases ih ht with⟨h2,h3⟩|⟨q,hq,h2,h3⟩
   ·refine .inl ⟨h2,fun q hq=> ?_⟩
    rcases List.mem_cons.1 hq with rfl|hq
    ·exact fun e=>h1 ((rowsF_zero hx hk).2 e)
    ·exact h3 q hq
   ·exact .inr ⟨q,by simp[hq],h2,h3⟩
structure PMap (w:World) (base M N:Nat) (X:List Prt):Prop where
 map: ∃n,n≤N∧w.ownsMap Tryz.prog 9 slcE M n (mkD (axP X))
 mb:base≤M
 rises:Rises (axP X)
 each: ∀q∈X,w.ownsRow base 45 2 q.v q.l.length (cntCells q.l)
 few: ∀q∈X,q.l.length≤N
 far: ∀q∈X,q.v.ownBlock≠some M
 apart: ∀p∈X,∀q∈X,p.r≠q.r→ ∀k,p.v.ownBlock=some k→q.v.ownBlock≠some k
def PBk (M:Nat) (X:List Prt) (k:Nat):Prop:=k=M∨ ∃q∈X,q.v.ownBlock=some k
theorem PMap.lt {w:World}{base M N:Nat}{X:List Prt}(h:PMap w base M N X):M<w.heap.size:=by
 obtain⟨n,-,h⟩:=h.map;exact h.lt
theorem PMap.range {w:World}{base M N:Nat}{X:List Prt}(h:PMap w base M N X){k:Nat}(hk:PBk M X k):base≤k∧k<w.heap.size:=by
 rcases hk with rfl|⟨q,hq,hk⟩
 ·exact⟨h.mb,h.lt⟩
 ·exact(h.each q hq).lt k hk
theorem PMap.turned {F:Nat→Prop}{w w':World}{base M N:Nat}{X:List Prt}(h:PMap w base M N X)(ht:Turned F w w')(hf: ∀k,PBk M X k→ ¬F k):PMap w' base M N X:=by
 obtain⟨n,hn,hm⟩:=h.map;exact⟨⟨n,hn,map_turned hm ht (hf M (.inl rfl))⟩,h.mb,h.rises,fun q hq=>own_turned (h.each q hq) ht fun k hk=>hf k (.inr ⟨q,hq,hk⟩),h.few,h.far,h.apart⟩
theorem PMap.below {w w':World}{base M N:Nat}{X:List Prt}(h:PMap w base M N X)(hb:Below w.heap.size w w'):PMap w' base M N X:=h.turned (turned_below (F:=fun _=>False) hb) fun _ _ hf=>hf
theorem PMap.made (w:World)(base:Nat)(hb:base≤w.heap.size):PMap (w.alloc (.map #[] 0)) base w.heap.size 0 []:=
 ⟨⟨0,Nat.le_refl _,World.ownsMap_made w Tryz.prog 9 slcE⟩,hb,Rises.nil,nofun,nofun,nofun,nofun⟩
theorem zeroLC (w:World):(zeroValue 27).run Tryz.prog w= .ok (.slice none 0 0) w:=by kernel_rfl
theorem PMap.found {w:World}{base M N:Nat}{X:List Prt}{k:List Val}(h:PMap w base M N X)(hk:GoodR k):w.ownsRow base 45 2 (lookP X k).1 (lookP X k).2.length (cntCells (lookP X k).2)∧(lookP X k).2.length≤N∧(lookP X k).1.ownBlock≠some M:=by
 rcases lookP_mem h.rises hk with⟨e,-⟩|⟨q,hq,-,e⟩
 ·rw[e]
  exact⟨⟨rfl,.inl ⟨rfl,rfl⟩⟩,Nat.zero_le _,by simp[Value.ownBlock]⟩
 ·rw[e]
  exact⟨h.each q hq,h.few q hq,h.far q hq⟩
theorem PMap.look {w:World}{base M N:Nat}{X:List Prt}{k:List Val}(h:PMap w base M N X)(hk:GoodR k)(hN:N≤1000000):(Instr.lookup 88 (.map (some M)) (.string (str (keyRow k))) false).run Tryz.prog w= .ok (lookP X k).1 w:=by
 obtain⟨n,-,hm⟩:=h.map;obtain⟨v,ps,hrun,hv⟩:=hm.lookup (t:=88) lawS Tryz.underlying88 (zeroLC w) (zd:= .lit (.int .i64 0)) (zp:=[]) rfl (keyS hk);rw[mkD_at h.rises.good hk,look_axP]at hv;have hf:=h.found hk;rw[hrun,slcE_inv hv (slcE_own hf.1 (by have:=hf.2.1;unfold maxLen;omega))]
theorem PMap.put {w w1 w2 w3:World}{base M N:Nat}{X:List Prt}{k:List Val}{c:Cnt}{v':Value}(h:PMap w base M N X)(hk:GoodR k)(hb:Below w.heap.size w w1)
 (hown:w2.ownsRow base 45 2 v' ((lookP X k).2.length+1) (cntCells ((lookP X k).2++[c]))) (hg:w1.grownBy w2 (lookP X k).1.ownBlock) (hat:v'.ownBlock=(lookP X k).1.ownBlock∨ ∀j,v'.ownBlock=some j→w1.heap.size≤j)
 (hm: ∀n,w.ownsMap Tryz.prog 9 slcE M n (mkD (axP X))→n≤N→ ∃m,m≤N+1∧w3.ownsMap Tryz.prog 9 slcE M m (mkD (putA (axP X) k (codeV v')))) (hg3:w2.grownBy w3 (some M)):
 PMap w3 base M (N+1) (putX X k v' c)∧Turned (PBk M X) w w3∧ ∀j,j<w.heap.size→PBk M (putX X k v' c) j→PBk M X j:=by
 have hf:=h.found hk;have hlt:=h.lt;have hsz:=hb.size;have hM: ∀ {j},some M=some j→j=M:=fun e=>by injection e with e;exact e.symm
 have hv': ∀j,v'.ownBlock=some j→(lookP X k).1.ownBlock=some j∨w.heap.size≤j:=fun j hj=>by
  rcases hat with e|e
  ·exact .inl (e▸hj)
  ·exact .inr (Nat.le_trans hsz (e j hj))
 have hvM:v'.ownBlock≠some M:=fun e=>by
  rcases hv' M e with h1|h1
  ·exact hf.2.2 h1
  ·omega
 have ho: ∀q∈X,q.r≠k→ ∀j,q.v.ownBlock=some j→(lookP X k).1.ownBlock≠some j:=fun q hq hne j hj e=>by
  rcases lookP_mem h.rises hk with⟨e1,-⟩|⟨q',hq',e2,e3⟩
  ·rw[e1]at e;cases e
  ·rw[e3]at e
   exact h.apart q hq q' hq' (fun e4=>hne (e4.trans e2)) j hj e
 have ht:Turned (PBk M X) w w3:=(((turned_below (F:=PBk M X) hb).transN (turned_grown hg) (fun i _ e=>by
  rcases lookP_mem h.rises hk with⟨e1,-⟩|⟨q',hq',e2,e3⟩
  ·rw[e1]at e;cases e
  ·rw[e3]at e
   exact .inr ⟨q',hq',e⟩))).transN (turned_grown hg3) fun i _ e=> .inl (hM e)
 refine⟨⟨?_,h.mb,?_,fun q hq=> ?_,fun q hq=> ?_,fun q hq=> ?_,fun p hp q hq hne j hj e=> ?_⟩,ht,fun j hj hpb=> ?_⟩
 ·obtain⟨n,hn,hmm⟩:=h.map
  rw[axP_put];exact hm n hmm hn
 ·rw[axP_put]
  exact rises_put h.rises hk
 ·rcases putX_mem h.rises hk hq with⟨e1,e2,-⟩|⟨hq,hne⟩
  ·rw[e1,e2,List.length_append]
   exact own_turned hown (turned_grown hg3) fun j hj e=>hvM (by rw[hj,hM e])
  ·refine own_turned (own_turned (own_below (h.each q hq) hb) (turned_grown hg) fun j hj e=>ho q hq hne j hj e) (turned_grown hg3) fun j hj e=>h.far q hq (by rw[hj,hM e])
 ·rcases putX_mem h.rises hk hq with⟨-,e2,-⟩|⟨hq,-⟩
  ·rw[e2,List.length_append];have:=hf.2.1;simp;omega
  ·have:=h.few q hq;omega
 ·rcases putX_mem h.rises hk hq with⟨e1,-,-⟩|⟨hq,-⟩
  ·rw[e1];exact hvM
  ·exact h.far q hq
 ·have hold: ∀q∈X,∀j,q.v.ownBlock=some j→j<w.heap.size:=fun q hq j hj=>((h.each q hq).lt j hj).2
  rcases putX_mem h.rises hk hp with⟨e1,-,e1'⟩|⟨hp,hpn⟩
  ·rcases putX_mem h.rises hk hq with⟨-,-,e2'⟩|⟨hq,hqn⟩
   ·exact hne (e1'.trans e2'.symm)
   ·rw[e1]at hj
    rcases hv' j hj with h1|h1
    ·exact ho q hq hqn j e h1
    ·have:=hold q hq j e;omega
  ·rcases putX_mem h.rises hk hq with⟨e2,-,-⟩|⟨hq,-⟩
   ·rw[e2]at e
    rcases hv' j e with h1|h1
    ·exact ho p hp hpn j hj h1
    ·have:=hold p hp j hj;omega
   ·exact h.apart p hp q hq hne j hj e
 ·rcases hpb with rfl|⟨q,hq,hj2⟩
  ·exact .inl rfl
  ·rcases putX_mem h.rises hk hq with⟨e1,-,-⟩|⟨hq,-⟩
   ·rw[e1]at hj2
    rcases hv' j hj2 with h1|h1
    ·rcases lookP_mem h.rises hk with⟨e2,-⟩|⟨q',hq',-,e3⟩
     ·rw[e2]at h1;cases h1
     ·rw[e3]at h1
      exact .inr ⟨q',hq',h1⟩
    ·omega
   ·exact .inr ⟨q,hq,hj2⟩
end Go.Proofs.YtjhbeecmdgglgaaGreatDoor
namespace Go.Proofs.YtjhbeecmdgglgaaGreatDoor
open Go.RowKit Go.Maps
structure PrtI where
 r:List Val
 v:Value
 l:List Int
def axI (X:List PrtI):AV:=X.map fun q=>(q.r,codeV q.v)
def putXI:List PrtI→List Val→Value→Int→List PrtI
 |[],k,v,c=>[⟨k,v,[c]⟩]
 |x::t,k,v,c=>if rowsF x.r k=0 then⟨x.r,v,x.l++[c]⟩::t else if rowsF x.r k<0 then x::putXI t k v c else⟨k,v,[c]⟩::x::t
def lookI:List PrtI→List Val→Value×List Int
 |[],_=>(.slice none 0 0,[])
 |x::t,k=>if rowsF x.r k=0 then(x.v,x.l)else lookI t k
theorem axI_put (X:List PrtI)(k:List Val)(v:Value)(c:Int):axI (putXI X k v c)=putA (axI X) k (codeV v):=by
 induction X with
 |nil=>rfl
 |cons x t ih=>
  show axI (if rowsF x.r k=0 then⟨x.r,v,x.l++[c]⟩::t else if rowsF x.r k<0 then x::putXI t k v c else⟨k,v,[c]⟩::x::t)=(if rowsF x.r k=0 then(x.r,codeV v)::axI t else if rowsF x.r k<0 then(x.r,codeV x.v)::putA (axI t) k (codeV v)else(k,codeV v)::(x.r,codeV x.v)::axI t);by_cases h1:rowsF x.r k=0
  ·rw[if_pos h1,if_pos h1];rfl
  ·rw[if_neg h1,if_neg h1]
   by_cases h2:rowsF x.r k<0
   ·rw[if_pos h2,if_pos h2,←ih];rfl
   ·rw[if_neg h2,if_neg h2];rfl
theorem look_axI (X:List PrtI)(k:List Val):lookA (axI X) k=codeV (lookI X k).1:=by
 induction X with
 |nil=>rfl
 |cons x t ih=>
  show(if rowsF x.r k=0 then codeV x.v else lookA (axI t) k)=codeV (if rowsF x.r k=0 then(x.v,x.l)else lookI t k).1;by_cases h1:rowsF x.r k=0
  ·rw[if_pos h1,if_pos h1]
  ·rw[if_neg h1,if_neg h1];exact ih
theorem putXI_mem {X:List PrtI}{k:List Val}{v:Value}{c:Int}{q:PrtI}(hs:Rises (axI X))(hk:GoodR k)(h:q∈putXI X k v c):(q.v=v∧q.l=(lookI X k).2++[c]∧q.r=k)∨(q∈X∧q.r≠k):=by
 induction X with
 |nil=>
  rw[List.mem_singleton.1 h];exact .inl ⟨rfl,rfl,rfl⟩
 |cons x t ih=>
  have hx:=hs.good (x.r,codeV x.v) (List.mem_cons_self ..);have hx:GoodR x.r:=hx;have ht:Rises (axI t):=⟨fun p hp=>hs.good p (List.mem_cons_of_mem _ hp),(List.pairwise_cons.1 hs.rise).2⟩;have hlt: ∀y∈t,rowsF x.r y.r<0:=fun y hy=>(List.pairwise_cons.1 hs.rise).1 (y.r,codeV y.v) (List.mem_map.2 ⟨y,hy,rfl⟩);have hgt: ∀y∈t,GoodR y.r:=fun y hy=>ht.good (y.r,codeV y.v) (List.mem_map.2 ⟨y,hy,rfl⟩);unfold putXI at h;unfold lookI;by_cases h1:rowsF x.r k=0
  ·have e:x.r=k:=(rowsF_zero hx hk).1 h1
   rw[if_pos h1]at h⊢;rcases List.mem_cons.1 h with rfl|h
   ·exact .inl ⟨rfl,rfl,e⟩
   ·refine .inr ⟨List.mem_cons_of_mem _ h,fun e2=> ?_⟩
    have:=hlt q h;rw[e,e2,rowsF_self hk]at this;omega
  ·rw[if_neg h1]at h⊢
   by_cases h2:rowsF x.r k<0
   ·rw[if_pos h2]at h
    rcases List.mem_cons.1 h with rfl|h
    ·exact .inr ⟨List.mem_cons_self ..,fun e=>h1 (by rw[e];exact rowsF_self hk)⟩
    ·rcases ih ht h with h|h
     ·exact .inl h
     ·exact .inr ⟨List.mem_cons_of_mem _ h.1,h.2⟩
   ·rw[if_neg h2]at h
    have hnone: ∀s:List PrtI,(∀y∈s,rowsF y.r k≠0)→lookI s k=(.slice none 0 0,[]):=by
     intro s
     induction s with
     |nil=>intro _;rfl
     |cons y s ih2=>
      intro hy;unfold lookI;rw[if_neg (hy y (by simp))];exact ih2 fun z hz=>hy z (by simp[hz])
    have hne: ∀y∈t,rowsF y.r k≠0:=fun y hy e=>by
     have e:=(rowsF_zero (hgt y hy) hk).1 e;have:=hlt y hy;rw[e]at this;omega
    rcases List.mem_cons.1 h with rfl|h
    ·rw[hnone t hne]
     exact .inl ⟨rfl,rfl,rfl⟩
    ·rcases List.mem_cons.1 h with rfl|h
     ·exact .inr ⟨List.mem_cons_self ..,fun e=>h1 (by rw[e];exact rowsF_self hk)⟩
     ·exact .inr ⟨List.mem_cons_of_mem _ h,fun e=>hne q h (by rw[e];exact rowsF_self hk)⟩
theorem lookI_mem {X:List PrtI}{k:List Val}(hs:Rises (axI X))(hk:GoodR k):((lookI X k)=(.slice none 0 0,[])∧ ∀q∈X,q.r≠k)∨ ∃q∈X,q.r=k∧lookI X k=(q.v,q.l):=by
 induction X with
 |nil=>exact .inl ⟨rfl,nofun⟩
 |cons x t ih=>
  have hx:GoodR x.r:=hs.good (x.r,codeV x.v) (List.mem_cons_self ..);have ht:Rises (axI t):=⟨fun p hp=>hs.good p (List.mem_cons_of_mem _ hp),(List.pairwise_cons.1 hs.rise).2⟩;unfold lookI;by_cases h1:rowsF x.r k=0
  ·rw[if_pos h1]
   exact .inr ⟨x,by simp,(rowsF_zero hx hk).1 h1,rfl⟩
  ·rw[if_neg h1]
   rcases ih ht with⟨h2,h3⟩|⟨q,hq,h2,h3⟩
   ·refine .inl ⟨h2,fun q hq=> ?_⟩
    rcases List.mem_cons.1 hq with rfl|hq
    ·exact fun e=>h1 ((rowsF_zero hx hk).2 e)
    ·exact h3 q hq
   ·exact .inr ⟨q,by simp[hq],h2,h3⟩
structure IMap (w:World) (base M N:Nat) (X:List PrtI):Prop where
 map: ∃n,n≤N∧w.ownsMap Tryz.prog 9 slcE M n (mkD (axI X))
 mb:base≤M
 rises:Rises (axI X)
 each: ∀q∈X,w.ownsRow base 3 1 q.v q.l.length (intCells q.l)
 few: ∀q∈X,q.l.length≤N
 far: ∀q∈X,q.v.ownBlock≠some M
 apart: ∀p∈X,∀q∈X,p.r≠q.r→ ∀k,p.v.ownBlock=some k→q.v.ownBlock≠some k
def IBk (M:Nat) (X:List PrtI) (k:Nat):Prop:=k=M∨ ∃q∈X,q.v.ownBlock=some k
theorem IMap.lt {w:World}{base M N:Nat}{X:List PrtI}(h:IMap w base M N X):M<w.heap.size:=by
 obtain⟨n,-,h⟩:=h.map;exact h.lt
theorem IMap.range {w:World}{base M N:Nat}{X:List PrtI}(h:IMap w base M N X){k:Nat}(hk:IBk M X k):base≤k∧k<w.heap.size:=by
 rcases hk with rfl|⟨q,hq,hk⟩
 ·exact⟨h.mb,h.lt⟩
 ·exact(h.each q hq).lt k hk
theorem IMap.turned {F:Nat→Prop}{w w':World}{base M N:Nat}{X:List PrtI}(h:IMap w base M N X)(ht:Turned F w w')(hf: ∀k,IBk M X k→ ¬F k):IMap w' base M N X:=by
 obtain⟨n,hn,hm⟩:=h.map;exact⟨⟨n,hn,map_turned hm ht (hf M (.inl rfl))⟩,h.mb,h.rises,fun q hq=>own_turned (h.each q hq) ht fun k hk=>hf k (.inr ⟨q,hq,hk⟩),h.few,h.far,h.apart⟩
theorem IMap.below {w w':World}{base M N:Nat}{X:List PrtI}(h:IMap w base M N X)(hb:Below w.heap.size w w'):IMap w' base M N X:=h.turned (turned_below (F:=fun _=>False) hb) fun _ _ hf=>hf
theorem IMap.made (w:World)(base:Nat)(hb:base≤w.heap.size):IMap (w.alloc (.map #[] 0)) base w.heap.size 0 []:=
 ⟨⟨0,Nat.le_refl _,World.ownsMap_made w Tryz.prog 9 slcE⟩,hb,Rises.nil,nofun,nofun,nofun,nofun⟩
theorem zeroLI (w:World):(zeroValue 22).run Tryz.prog w= .ok (.slice none 0 0) w:=by kernel_rfl
theorem IMap.found {w:World}{base M N:Nat}{X:List PrtI}{k:List Val}(h:IMap w base M N X)(hk:GoodR k):w.ownsRow base 3 1 (lookI X k).1 (lookI X k).2.length (intCells (lookI X k).2)∧(lookI X k).2.length≤N∧(lookI X k).1.ownBlock≠some M:=by
 rcases lookI_mem h.rises hk with⟨e,-⟩|⟨q,hq,-,e⟩
 ·rw[e]
  exact⟨⟨rfl,.inl ⟨rfl,rfl⟩⟩,Nat.zero_le _,by simp[Value.ownBlock]⟩
 ·rw[e]
  exact⟨h.each q hq,h.few q hq,h.far q hq⟩
theorem IMap.look {w:World}{base M N:Nat}{X:List PrtI}{k:List Val}(h:IMap w base M N X)(hk:GoodR k)(hN:N≤1000000):(Instr.lookup 70 (.map (some M)) (.string (str (keyRow k))) false).run Tryz.prog w= .ok (lookI X k).1 w:=by
 obtain⟨n,-,hm⟩:=h.map;obtain⟨v,ps,hrun,hv⟩:=hm.lookup (t:=70) lawS Tryz.underlying70 (zeroLI w) (zd:= .lit (.int .i64 0)) (zp:=[]) rfl (keyS hk);rw[mkD_at h.rises.good hk,look_axI]at hv;have hf:=h.found hk;rw[hrun,slcE_inv hv (slcE_own hf.1 (by have:=hf.2.1;unfold maxLen;omega))]
theorem IMap.put {w w1 w2 w3:World}{base M N:Nat}{X:List PrtI}{k:List Val}{c:Int}{v':Value}(h:IMap w base M N X)(hk:GoodR k)(hb:Below w.heap.size w w1)
 (hown:w2.ownsRow base 3 1 v' ((lookI X k).2.length+1) (intCells ((lookI X k).2++[c]))) (hg:w1.grownBy w2 (lookI X k).1.ownBlock) (hat:v'.ownBlock=(lookI X k).1.ownBlock∨ ∀j,v'.ownBlock=some j→w1.heap.size≤j)
 (hm: ∀n,w.ownsMap Tryz.prog 9 slcE M n (mkD (axI X))→n≤N→ ∃m,m≤N+1∧w3.ownsMap Tryz.prog 9 slcE M m (mkD (putA (axI X) k (codeV v')))) (hg3:w2.grownBy w3 (some M)):
 IMap w3 base M (N+1) (putXI X k v' c)∧Turned (IBk M X) w w3∧ ∀j,j<w.heap.size→IBk M (putXI X k v' c) j→IBk M X j:=by
 have hf:=h.found hk;have hlt:=h.lt;have hsz:=hb.size;have hM: ∀ {j},some M=some j→j=M:=fun e=>by injection e with e;exact e.symm
 have hv': ∀j,v'.ownBlock=some j→(lookI X k).1.ownBlock=some j∨w.heap.size≤j:=fun j hj=>by
  rcases hat with e|e
  ·exact .inl (e▸hj)
  ·exact .inr (Nat.le_trans hsz (e j hj))
 have hvM:v'.ownBlock≠some M:=fun e=>by
  rcases hv' M e with h1|h1
  ·exact hf.2.2 h1
  ·omega
 have ho: ∀q∈X,q.r≠k→ ∀j,q.v.ownBlock=some j→(lookI X k).1.ownBlock≠some j:=fun q hq hne j hj e=>by
  rcases lookI_mem h.rises hk with⟨e1,-⟩|⟨q',hq',e2,e3⟩
  ·rw[e1]at e;cases e
  ·rw[e3]at e
   exact h.apart q hq q' hq' (fun e4=>hne (e4.trans e2)) j hj e
 have ht:Turned (IBk M X) w w3:=(((turned_below (F:=IBk M X) hb).transN (turned_grown hg) (fun i _ e=>by
  rcases lookI_mem h.rises hk with⟨e1,-⟩|⟨q',hq',e2,e3⟩
  ·rw[e1]at e;cases e
  ·rw[e3]at e
   exact .inr ⟨q',hq',e⟩))).transN (turned_grown hg3) fun i _ e=> .inl (hM e)
 refine⟨⟨?_,h.mb,?_,fun q hq=> ?_,fun q hq=> ?_,fun q hq=> ?_,fun p hp q hq hne j hj e=> ?_⟩,ht,fun j hj hpb=> ?_⟩
 ·obtain⟨n,hn,hmm⟩:=h.map
  rw[axI_put];exact hm n hmm hn
 ·rw[axI_put]
  exact rises_put h.rises hk
 ·rcases putXI_mem h.rises hk hq with⟨e1,e2,-⟩|⟨hq,hne⟩
  ·rw[e1,e2,List.length_append]
   exact own_turned hown (turned_grown hg3) fun j hj e=>hvM (by rw[hj,hM e])
  ·refine own_turned (own_turned (own_below (h.each q hq) hb) (turned_grown hg) fun j hj e=>ho q hq hne j hj e) (turned_grown hg3) fun j hj e=>h.far q hq (by rw[hj,hM e])
 ·rcases putXI_mem h.rises hk hq with⟨-,e2,-⟩|⟨hq,-⟩
  ·rw[e2,List.length_append];have:=hf.2.1;simp;omega
  ·have:=h.few q hq;omega
 ·rcases putXI_mem h.rises hk hq with⟨e1,-,-⟩|⟨hq,-⟩
  ·rw[e1];exact hvM
  ·exact h.far q hq
 ·have hold: ∀q∈X,∀j,q.v.ownBlock=some j→j<w.heap.size:=fun q hq j hj=>((h.each q hq).lt j hj).2
  rcases putXI_mem h.rises hk hp with⟨e1,-,e1'⟩|⟨hp,hpn⟩
  ·rcases putXI_mem h.rises hk hq with⟨-,-,e2'⟩|⟨hq,hqn⟩
   ·exact hne (e1'.trans e2'.symm)
   ·rw[e1]at hj
    rcases hv' j hj with h1|h1
    ·exact ho q hq hqn j e h1
    ·have:=hold q hq j e;omega
  ·rcases putXI_mem h.rises hk hq with⟨e2,-,-⟩|⟨hq,-⟩
   ·rw[e2]at e
    rcases hv' j e with h1|h1
    ·exact ho p hp hpn j hj h1
    ·have:=hold p hp j hj;omega
   ·exact h.apart p hp q hq hne j hj e
 ·rcases hpb with rfl|⟨q,hq,hj2⟩
  ·exact .inl rfl
  ·rcases putXI_mem h.rises hk hq with⟨e1,-,-⟩|⟨hq,-⟩
   ·rw[e1]at hj2
    rcases hv' j hj2 with h1|h1
    ·rcases lookI_mem h.rises hk with⟨e2,-⟩|⟨q',hq',-,e3⟩
     ·rw[e2]at h1;cases h1
     ·rw[e3]at h1
      exact .inr ⟨q',hq',h1⟩
    ·omega
   ·exact .inr ⟨q,hq,hj2⟩
end Go.Proofs.YtjhbeecmdgglgaaGreatDoor
namespace Go.Proofs.YtjhbeecmdgglgaaGreatDoor
open Go.RowKit Go.Maps
set_option maxHeartbeats 2000000 in
set_option maxRecDepth 10000 in
theorem keyOf_any (p:Pl)(side:Int)(v:Value)(r:List Val)(w:World)(h:p.ok w)(hf:p.fit)(hr:Sl w v r.length (rowCells r))(hfr:Fine r)(hm:Mx w):
 Calls Tryz.prog 37 #[.agg #[.int .i64 p.kind,.int .i64 p.mode,.int .i64 p.low,.int .i64 p.high,.int .i64 p.size,.int .i64 p.limit,p.vl,p.vr,p.vk,p.vq,.bool p.grouped,p.vg,p.va],.int .i64 side,v] w fun e w'=>e= .returned (.tuple #[.string (keyOfR p side r).1,.bool (keyOfR p side r).2,.int .i64 (rowR p side r)])∧Below w.heap.size w w':=by
 have HROW:=Lib.hid (fun w' (hb:Below w.heap.size w w')=>row_any p side v r w' (h.below hb) hf (hr.below hb) hfr.small);have HMX:=Lib.hid hm;by_cases hq:rowR p side r=0
 ·have hrow:=rowR_fine hq
  have HE:Hid (keyOfR p side r=if allB (fun x:Val=>x.k != 0) ((colsT p side).map (pickV r))then(str (keyRow ((colsT p side).map (pickV r))),true)else(⟨#[]⟩,false)):=Lib.hid (if_pos hq);rw[hq]at HROW⊢;have HPF:=Lib.hid (picked_fine hrow hfr);have HCO:=Lib.hid hrow.cols;have HFW:=hrow.few;have HSD:=hrow.sides;have HS:=Lib.hid hrow.one;have HS':=Lib.hid hrow.two;have HL:=Lib.hid h.k;have HR:=Lib.hid h.q;have HV:=Lib.hid hr;clear h hf hrow hq hfr hm;generalize keyOfR p side r=R at HE⊢;generalize colsT p side=t at HE HS HS' HPF HCO HFW;obtain⟨kind,mode,low,high,size,limit,vl,vr,vk,vq,grouped,vg,va,left,right,lkeys,rkeys,group,aggs⟩:=p;simp only at HE HL HR HS HS' HPF HCO HFW HROW⊢;obtain⟨A0,c0,rfl,n0,m0,-⟩:=id HL.out;obtain⟨A1,c1,rfl,n1,m1,-⟩:=id HR.out;obtain⟨A,c,rfl,n2,m2,-⟩:=hr;unfold maxLen at m0 m1 m2;have hB:=below_alloc w (.cells #[.int .i64 kind,.int .i64 mode,.int .i64 low,.int .i64 high,.int .i64 size,.int .i64 limit,vl,vr,.slice A0 lkeys.length c0,.slice A1 rkeys.length c1,.bool grouped,vg,va] 25);have K1:=Blk.new w 25 #[.int .i64 kind,.int .i64 mode,.int .i64 low,.int .i64 high,.int .i64 size,.int .i64 limit,vl,vr,.slice A0 lkeys.length c0,.slice A1 rkeys.length c1,.bool grouped,vg,va];have HE2:=HE;obtain⟨s,hss⟩: ∃s,t.map (pickV r)=s:=⟨_,rfl⟩;rw[hss]at HPF HE2;have HSS:=Lib.hid hss;have hsl:s.length=t.length:=by rw[←hss,List.length_map]
  clear hss HE;rcases HSD with hs|hs
  ·have b1:(side==2)=false:=beqF (by omega)
   obtain rfl:=HS.out hs;have HTT:=HL;clear HS HS' hs;go_enter Tryz.func37,Tryz.ntmps37
   go_wp2_with fail
   refine(HROW.out _ hB).mono ?_;rintro e w1 ⟨rfl,hb1⟩;have B1:=below_trans hB hb1;have K2:=K1.below hb1;have y8:=K2.cell 8 _ rfl;have y9:=K2.cell 9 _ rfl;clear K1 hB hb1 HROW
   go_wp2_with fail
   go_loopw[11,13,31] (fun out _ i wr=> ∃(k:Nat) (u:Value),u=out∧k≤t.length∧i= .int .i64 k∧Hid (∀x∈s.take k,(x.k != 0)=true)∧wr.ownsRow w1.heap.size 68 3 u k (rowCells (s.take k))∧Below w1.heap.size w1 wr) (fun _ _ i _=>t.length-(intOf i).toNat)
   case atStart=>exact⟨0,_,rfl,by omega,rfl,by simp[Hid],⟨rfl,.inl ⟨rfl,rfl⟩⟩,Below.refl _ _⟩
   case round=>
    obtain⟨k,u,rfl,hk,rfl,H,hown,hbw⟩:=hrel;have hBw:=B1.trans (hbw.mono B1.size);by_cases hlt:k<t.length
    ·obtain⟨bt,ot,hAt,-,hct⟩:=int_at HTT.out rfl hlt
     have d0:=hct _ hBw;have gt:t[k]?=some (t.getD k 0):=by simp[hlt]
     generalize t.getD k 0=y at d0 gt;have ry:=HCO.out y (List.mem_of_getElem? gt);obtain⟨m,rfl⟩: ∃m:Nat,y=m:=⟨y.toNat,by omega⟩;have hm:m<r.length:=by omega
     have hx:=pick_at hm;have gs:s[k]?=some (pickV r (m:Int)):=by rw[←HSS.out,List.getElem?_map,gt];rfl
     have hst:s.take (k+1)=s.take k++[pickV r (m:Int)]:=by rw[List.take_add_one,gs];rfl
     generalize pickV r (m:Int)=x at hx hst gs;obtain⟨g,off,rfl,-,hc⟩:=val_at HV.out rfl hx;obtain⟨d1,d2,d3⟩:=hc _ hBw;have HST:=Lib.hid hst;have HM:=Lib.hid (List.mem_of_getElem? gs);clear hx hc hct gt hst ry gs;subst hAt;have m0':(0:Int)≤(m:Int):=by omega
     have m1':(m:Int)<(r.length:Int):=by omega
     cases hz:(x.k==0)
     ·have hz2:=bne_of hz
      simp only[Bool.not_false]at hz2
      go_wp2_with (at_builtin;refine wpList_app rfl (.tmp 41) (.tmp 46) 43 rfl w1.heap.size 68 3 32 Tryz.underlying43 valJ _ k _ rfl (hown.alloc _) _ 1 x.cells rfl (one_val _ x) rfl (val_cell x) ?_ ?_ ?_ ?_)
      ·unfold maxLen;omega
      ·omega
      ·have:=hbw.size;simp;omega
      ·intro v2 w3 hown3 hg3 hat3
       have hbw3:=below_grown (hbw.alloc hbw.size (.cells #[.int .i64 x.k,.int .i64 x.n,.string x.s] 68)) hg3 (own_ge hown)
       have O3:Hid (w3.ownsRow w1.heap.size 68 3 v2 (k+1) (rowCells (s.take (k+1)))):=by
        rw[rowCells_step,←HST.out]at hown3;exact hown3
       have HZ:Hid (∀x∈s.take (k+1),(x.k != 0)=true):=by
        rw[HST.out];intro z hzz;rcases List.mem_append.1 hzz with hzz|hzz
        ·exact H.out z hzz
        ·simp only[List.mem_singleton]at hzz;rw[hzz];exact hz2
       clear hown3 hg3 hat3 hown;go_wp2;go_roundw
       case rel=>exact⟨k+1,_,rfl,by omega,by go_num,HZ.out,O3.out,hbw3⟩
       case measure=>simp[intOf];omega
     ·have hz2:=bne_of hz
      simp only[Bool.not_true]at hz2
      have EE:Hid (R=(⟨#[]⟩,false)):=Lib.hid (by
       rw[HE2.out];refine if_neg ?_;rw[Bool.not_eq_true,allB,List.all_eq_false];exact⟨x,HM.out,by simp[hz2]⟩)
      clear hown;go_wp2
      go_ret3
      exact⟨by rw[EE.out];rfl,hBw⟩
    ·obtain rfl:k=t.length:=by omega
     have HO:=Lib.hid (Sl.of_own hown);clear hown;rw[List.take_of_length_le (by omega)]at HO H
     have EE:Hid (R=(str (keyRow s),true)):=Lib.hid (by
      rw[HE2.out];refine if_pos ?_;rw[allB,List.all_eq_true];exact H.out)
     have HO2:Hid (Sl wr u s.length (rowCells s)):=Lib.hid (by rw[hsl];exact HO.out)
     go_wp2_with fail
     refine(key_any u s _ HO2.out HPF.out.1 (HMX.out.below hBw)).mono ?_;rw[show keyR s=(str (keyRow s),0)from if_neg (by rw[HPF.out.2];simp)];rintro e w2 ⟨rfl,hb2⟩;go_wp2
     go_ret3
     exact⟨by rw[EE.out];rfl,below_trans hBw hb2⟩
  ·have b1:=beqT hs
   obtain rfl:=HS'.out hs;have HTT:=HR;clear HS HS' hs;go_enter Tryz.func37,Tryz.ntmps37
   go_wp2_with fail
   refine(HROW.out _ hB).mono ?_;rintro e w1 ⟨rfl,hb1⟩;have B1:=below_trans hB hb1;have K2:=K1.below hb1;have y8:=K2.cell 8 _ rfl;have y9:=K2.cell 9 _ rfl;clear K1 hB hb1 HROW
   go_wp2_with fail
   go_loopw[11,13,31] (fun out _ i wr=> ∃(k:Nat) (u:Value),u=out∧k≤t.length∧i= .int .i64 k∧Hid (∀x∈s.take k,(x.k != 0)=true)∧wr.ownsRow w1.heap.size 68 3 u k (rowCells (s.take k))∧Below w1.heap.size w1 wr) (fun _ _ i _=>t.length-(intOf i).toNat)
   case atStart=>exact⟨0,_,rfl,by omega,rfl,by simp[Hid],⟨rfl,.inl ⟨rfl,rfl⟩⟩,Below.refl _ _⟩
   case round=>
    obtain⟨k,u,rfl,hk,rfl,H,hown,hbw⟩:=hrel;have hBw:=B1.trans (hbw.mono B1.size);by_cases hlt:k<t.length
    ·obtain⟨bt,ot,hAt,-,hct⟩:=int_at HTT.out rfl hlt
     have d0:=hct _ hBw;have gt:t[k]?=some (t.getD k 0):=by simp[hlt]
     generalize t.getD k 0=y at d0 gt;have ry:=HCO.out y (List.mem_of_getElem? gt);obtain⟨m,rfl⟩: ∃m:Nat,y=m:=⟨y.toNat,by omega⟩;have hm:m<r.length:=by omega
     have hx:=pick_at hm;have gs:s[k]?=some (pickV r (m:Int)):=by rw[←HSS.out,List.getElem?_map,gt];rfl
     have hst:s.take (k+1)=s.take k++[pickV r (m:Int)]:=by rw[List.take_add_one,gs];rfl
     generalize pickV r (m:Int)=x at hx hst gs;obtain⟨g,off,rfl,-,hc⟩:=val_at HV.out rfl hx;obtain⟨d1,d2,d3⟩:=hc _ hBw;have HST:=Lib.hid hst;have HM:=Lib.hid (List.mem_of_getElem? gs);clear hx hc hct gt hst ry gs;subst hAt;have m0':(0:Int)≤(m:Int):=by omega
     have m1':(m:Int)<(r.length:Int):=by omega
     cases hz:(x.k==0)
     ·have hz2:=bne_of hz
      simp only[Bool.not_false]at hz2
      go_wp2_with (at_builtin;refine wpList_app rfl (.tmp 41) (.tmp 46) 43 rfl w1.heap.size 68 3 32 Tryz.underlying43 valJ _ k _ rfl (hown.alloc _) _ 1 x.cells rfl (one_val _ x) rfl (val_cell x) ?_ ?_ ?_ ?_)
      ·unfold maxLen;omega
      ·omega
      ·have:=hbw.size;simp;omega
      ·intro v2 w3 hown3 hg3 hat3
       have hbw3:=below_grown (hbw.alloc hbw.size (.cells #[.int .i64 x.k,.int .i64 x.n,.string x.s] 68)) hg3 (own_ge hown)
       have O3:Hid (w3.ownsRow w1.heap.size 68 3 v2 (k+1) (rowCells (s.take (k+1)))):=by
        rw[rowCells_step,←HST.out]at hown3;exact hown3
       have HZ:Hid (∀x∈s.take (k+1),(x.k != 0)=true):=by
        rw[HST.out];intro z hzz;rcases List.mem_append.1 hzz with hzz|hzz
        ·exact H.out z hzz
        ·simp only[List.mem_singleton]at hzz;rw[hzz];exact hz2
       clear hown3 hg3 hat3 hown;go_wp2;go_roundw
       case rel=>exact⟨k+1,_,rfl,by omega,by go_num,HZ.out,O3.out,hbw3⟩
       case measure=>simp[intOf];omega
     ·have hz2:=bne_of hz
      simp only[Bool.not_true]at hz2
      have EE:Hid (R=(⟨#[]⟩,false)):=Lib.hid (by
       rw[HE2.out];refine if_neg ?_;rw[Bool.not_eq_true,allB,List.all_eq_false];exact⟨x,HM.out,by simp[hz2]⟩)
      clear hown;go_wp2
      go_ret3
      exact⟨by rw[EE.out];rfl,hBw⟩
    ·obtain rfl:k=t.length:=by omega
     have HO:=Lib.hid (Sl.of_own hown);clear hown;rw[List.take_of_length_le (by omega)]at HO H
     have EE:Hid (R=(str (keyRow s),true)):=Lib.hid (by
      rw[HE2.out];refine if_pos ?_;rw[allB,List.all_eq_true];exact H.out)
     have HO2:Hid (Sl wr u s.length (rowCells s)):=Lib.hid (by rw[hsl];exact HO.out)
     go_wp2_with fail
     refine(key_any u s _ HO2.out HPF.out.1 (HMX.out.below hBw)).mono ?_;rw[show keyR s=(str (keyRow s),0)from if_neg (by rw[HPF.out.2];simp)];rintro e w2 ⟨rfl,hb2⟩;go_wp2
     go_ret3
     exact⟨by rw[EE.out];rfl,below_trans hBw hb2⟩
 ·have HE:Hid (keyOfR p side r=(⟨#[]⟩,false)):=Lib.hid (if_neg hq)
  rw[HE.out];generalize rowR p side r=q at HROW hq⊢;have hb:=beqF hq;have hb':=bne_of hb;simp only[Bool.not_false]at hb';clear hq;obtain⟨kind,mode,low,high,size,limit,vl,vr,vk,vq,grouped,vg,va,left,right,lkeys,rkeys,group,aggs⟩:=p;simp only at HROW⊢;have hB:=below_alloc w (.cells #[.int .i64 kind,.int .i64 mode,.int .i64 low,.int .i64 high,.int .i64 size,.int .i64 limit,vl,vr,vk,vq,.bool grouped,vg,va] 25);go_enter Tryz.func37,Tryz.ntmps37
  go_wp2_with fail
  refine(HROW.out _ hB).mono ?_;rintro e w1 ⟨rfl,hb1⟩;go_wp2
  go_ret3
  exact⟨rfl,below_trans hB hb1⟩
end Go.Proofs.YtjhbeecmdgglgaaGreatDoor
namespace Go.Proofs.YtjhbeecmdgglgaaGreatDoor
open Go.RowKit Go.Maps
def keyVs (p:Pl) (side:Int) (r:List Val):List Val:=(colsT p side).map (pickV r)
def hasK (p:Pl) (side:Int) (r:List Val):Bool:=allB (fun x:Val=>x.k != 0) (keyVs p side r)
theorem keyFor_eq (p:Pl)(side:Int)(r:List Val):keyFor p side r=if hasK p side r then(str (keyRow (keyVs p side r)),true)else(⟨#[]⟩,false):=rfl
theorem keyVs_good {p:Pl}{side:Int}{r:List Val}(hz:checkP p=0)(h:rowE p side r=0)(hf:Fine r):GoodR (keyVs p side r):=by
 have hq:rowR p side r=0:=by unfold rowR;rw[if_pos hz];exact h
 have h1:=picked_fine (rowR_fine hq) hf;exact goodR_of h1.1 h1.2
theorem str_row_inj {a b:List Val}(ha:GoodR a)(hb:GoodR b):str (keyRow a)=str (keyRow b)↔a=b:=by
 constructor
 ·intro h
  have h1:=str_same ha hb;rw[h]at h1;simp only[beq_self_eq_true]at h1;exact(rowsF_zero ha hb).1 (by simpa using h1.symm)
 ·rintro rfl;rfl
theorem keyed_iff {p:Pl}{side:Int}{r s:List Val}(hr:GoodR (keyVs p side r))(hs:GoodR s):keyed p side r (str (keyRow s))=(hasK p side r&&decide (keyVs p side r=s)):=by
 unfold keyed;rw[keyFor_eq];cases h:hasK p side r with
 |false=>rfl
 |true=>
  simp only[if_true,Bool.true_and];rw[decide_eq_decide];exact str_row_inj hr hs
theorem idxs_step {p:Pl}{R:List Cg}{n:Nat}{x:Cg}{k:ByteArray}(h:R[n]?=some x):idxs p (R.take (n+1)) k=idxs p (R.take n) k++(if keyed p 2 x.2 k then[(n:Int)]else[]):=by
 obtain⟨hn,e⟩:=List.getElem?_eq_some_iff.1 h
 have hr: ∀m i,i<m→m≤R.length→rowAt (R.take m) i=rowAt R i:=by
  intro m i hi hm;unfold rowAt;rw[List.getD_eq_getElem?_getD,List.getD_eq_getElem?_getD,List.getElem?_take_of_lt hi]
 have hx:rowAt R n=x.2:=by unfold rowAt;rw[List.getD_eq_getElem?_getD,h];rfl
 unfold idxs;rw[List.length_take,List.length_take,Nat.min_eq_left (by omega),Nat.min_eq_left (by omega),List.range_succ,List.filter_append,List.map_append]
 congr 1
 ·congr 1
  refine List.filter_congr fun i hi=> ?_;rw[List.mem_range]at hi;rw[hr (n+1) i (by omega) (by omega),hr n i hi (by omega)]
 ·rw[List.filter_cons,List.filter_nil,hr (n+1) n (by omega) (by omega),hx]
  cases keyed p 2 x.2 k<;>rfl
theorem lookI_put {X:List PrtI}{k s:List Val}{v:Value}{c:Int}(hs:Rises (axI X))(hk:GoodR k)(hg:GoodR s):(lookI (putXI X k v c) s).2=if k=s then(lookI X k).2++[c]else(lookI X s).2:=by
 induction X with
 |nil=>
  show(if rowsF k s=0 then(v,[c])else(Value.slice none 0 0,[])).2=if k=s then[]++[c]else[]
  by_cases h:k=s
  ·subst h;rw[if_pos (rowsF_self hk),if_pos rfl];rfl
  ·rw[if_neg (fun e=>h ((rowsF_zero hk hg).1 e)),if_neg h]
 |cons x t ih=>
  have hx:GoodR x.r:=hs.good (x.r,codeV x.v) (List.mem_cons_self ..);have ht:Rises (axI t):=⟨fun p hp=>hs.good p (List.mem_cons_of_mem _ hp),(List.pairwise_cons.1 hs.rise).2⟩;have hlt: ∀y∈t,rowsF x.r y.r<0:=fun y hy=>(List.pairwise_cons.1 hs.rise).1 (y.r,codeV y.v) (List.mem_map.2 ⟨y,hy,rfl⟩);have hgt: ∀y∈t,GoodR y.r:=fun y hy=>ht.good (y.r,codeV y.v) (List.mem_map.2 ⟨y,hy,rfl⟩);show(lookI (if rowsF x.r k=0 then⟨x.r,v,x.l++[c]⟩::t else if rowsF x.r k<0 then x::putXI t k v c else⟨k,v,[c]⟩::x::t) s).2=if k=s then(if rowsF x.r k=0 then(x.v,x.l)else lookI t k).2++[c]else(if rowsF x.r s=0 then(x.v,x.l)else lookI t s).2
  by_cases h1:rowsF x.r k=0
  ·have e:=(rowsF_zero hx hk).1 h1
   rw[if_pos h1,if_pos h1];show(if rowsF x.r s=0 then(v,x.l++[c])else lookI t s).2=_;by_cases h:k=s
   ·subst h;rw[if_pos h1,if_pos rfl]
   ·rw[if_neg h,e,if_neg (fun e2=>h ((rowsF_zero hk hg).1 e2)),if_neg (fun e2=>h ((rowsF_zero hk hg).1 e2))]
  ·rw[if_neg h1,if_neg h1]
   by_cases h2:rowsF x.r k<0
   ·rw[if_pos h2]
    show(if rowsF x.r s=0 then(x.v,x.l)else lookI (putXI t k v c) s).2=_;by_cases h3:rowsF x.r s=0
    ·have e:=(rowsF_zero hx hg).1 h3
     rw[if_pos h3,if_pos h3];by_cases h:k=s
     ·subst h;exact absurd h3 h1
     ·rw[if_neg h]
    ·rw[if_neg h3,if_neg h3];exact ih ht
   ·rw[if_neg h2]
    show(if rowsF k s=0 then(v,[c])else if rowsF x.r s=0 then(x.v,x.l)else lookI t s).2=_;by_cases h:k=s
    ·subst h
     rw[if_pos (rowsF_self hk),if_pos rfl]
     have hnone: ∀u:List PrtI,(∀y∈u,rowsF y.r k≠0)→lookI u k=(.slice none 0 0,[]):=by
      intro u
      induction u with
      |nil=>intro _;rfl
      |cons y u ih2=>
       intro hy;unfold lookI;rw[if_neg (hy y (by simp))];exact ih2 fun z hz=>hy z (by simp[hz])
     rw[hnone t fun y hy e=>by
      have e:=(rowsF_zero (hgt y hy) hk).1 e;have:=hlt y hy;rw[e]at this;omega]
     rfl
    ·rw[if_neg (fun e=>h ((rowsF_zero hk hg).1 e)),if_neg h]
def IxTo (p:Pl) (R:List Cg) (n:Nat) (X:List PrtI):Prop:= ∀s,GoodR s→(lookI X s).2=idxs p (R.take n) (str (keyRow s))
theorem IxTo.start {p:Pl}{R:List Cg}:IxTo p R 0 []:=fun _ _=>rfl
theorem IxTo.skip {p:Pl}{R:List Cg}{n:Nat}{X:List PrtI}{x:Cg}(h:IxTo p R n X)(hx:R[n]?=some x)(hk:hasK p 2 x.2=false):IxTo p R (n+1) X:=fun s hs=>by
 rw[h s hs,idxs_step hx];have:keyed p 2 x.2 (str (keyRow s))=false:=by unfold keyed;rw[keyFor_eq,hk];rfl
 rw[this];simp
theorem IxTo.put {p:Pl}{R:List Cg}{n:Nat}{X:List PrtI}{x:Cg}{v:Value}(h:IxTo p R n X)(hr:Rises (axI X))(hx:R[n]?=some x)(hk:hasK p 2 x.2=true)(hg:GoodR (keyVs p 2 x.2)):IxTo p R (n+1) (putXI X (keyVs p 2 x.2) v (n:Int)):=fun s hs=>by
 rw[lookI_put hr hg hs,idxs_step hx,keyed_iff hg hs,hk,Bool.true_and];by_cases e:keyVs p 2 x.2=s
 ·subst e;rw[if_pos rfl,h _ hg];simp
 ·rw[if_neg e,h s hs];simp[e]
theorem IMap.few_le {w:World}{base M N N':Nat}{X:List PrtI}(h:IMap w base M N X)(hn:N≤N'):IMap w base M N' X:=by
 obtain⟨n,h1,h2⟩:=h.map;exact⟨⟨n,Nat.le_trans h1 hn,h2⟩,h.mb,h.rises,h.each,fun q hq=>Nat.le_trans (h.few q hq) hn,h.far,h.apart⟩
set_option maxHeartbeats 4000000 in
set_option maxRecDepth 10000 in
theorem index_any (p:Pl)(vR:Value)(R:List Chn)(w:World)(h:p.ok w)(hfit:p.fit)(hz:checkP p=0)(hR:Chs w vR R)(hfr: ∀x∈R,Fine x.r)(hrow: ∀x∈R,rowE p 2 x.r=0)(hl:R.length≤4096)(hm:Mx w):
 Calls Tryz.prog 36 #[.agg #[.int .i64 p.kind,.int .i64 p.mode,.int .i64 p.low,.int .i64 p.high,.int .i64 p.size,.int .i64 p.limit,p.vl,p.vr,p.vk,p.vq,.bool p.grouped,p.vg,p.va],.int .i64 2,vR] w fun e w'=> ∃(M:Nat) (X:List PrtI),e= .returned (.map (some M))∧IMap w' (w.heap.size+1) M R.length X∧IxTo p (ac R) R.length X∧Below w.heap.size w w':=by
 have HV:=Lib.hid hR;have HM:=Lib.hid hm;have HKO:=Lib.hid (fun(W:World) (hb:Below w.heap.size w W) (x:Chn) (hx:x∈R)=>keyOf_any p 2 x.v x.r W (h.below hb) hfit ((hR.rows x hx).below hb) (hfr x hx) (hm.below hb))
 have HKE:=Lib.hid (fun(x:Chn) (hx:x∈R)=>show keyOfR p 2 x.r=(if hasK p 2 x.r then(str (keyRow (keyVs p 2 x.r)),true)else(⟨#[]⟩,false))∧GoodR (keyVs p 2 x.r)∧rowR p 2 x.r=0 from by
  have hq:rowR p 2 x.r=0:=by unfold rowR;rw[if_pos hz];exact hrow x hx
  exact⟨if_pos hq,keyVs_good hz (hrow x hx) (hfr x hx),hq⟩)
 obtain⟨A0,c0,h0,n0,m0,-⟩:=id h.l;obtain⟨A1,c1,h1,n1,m1,-⟩:=id h.r;obtain⟨A2,c2,h2,n2,m2,-⟩:=id h.k;obtain⟨A3,c3,h3,n3,m3,-⟩:=id h.q;obtain⟨A4,c4,h4,n4,m4,-⟩:=id h.g;obtain⟨A5,c5,h5,n5,m5,-⟩:=id h.a;obtain⟨Av,cv,rfl,nv,mv,-⟩:=id hR.sl;unfold maxLen at mv;rw[h0,h1,h2,h3,h4,h5]at HKO⊢;have HB:=Lib.hid (below_alloc w (.cells #[.int .i64 p.kind,.int .i64 p.mode,.int .i64 p.low,.int .i64 p.high,.int .i64 p.size,.int .i64 p.limit,.slice A0 p.left.length c0,.slice A1 p.right.length c1,.slice A2 p.lkeys.length c2,.slice A3 p.rkeys.length c3,.bool p.grouped,.slice A4 p.group.length c4,.slice A5 p.aggs.length c5] 25));have HK0:=Lib.hid (Blk.new w 25 #[.int .i64 p.kind,.int .i64 p.mode,.int .i64 p.low,.int .i64 p.high,.int .i64 p.size,.int .i64 p.limit,.slice A0 p.left.length c0,.slice A1 p.right.length c1,.slice A2 p.lkeys.length c2,.slice A3 p.rkeys.length c3,.bool p.grouped,.slice A4 p.group.length c4,.slice A5 p.aggs.length c5]);obtain⟨W1,hW1⟩: ∃V,w.alloc (.cells #[.int .i64 p.kind,.int .i64 p.mode,.int .i64 p.low,.int .i64 p.high,.int .i64 p.size,.int .i64 p.limit,.slice A0 p.left.length c0,.slice A1 p.right.length c1,.slice A2 p.lkeys.length c2,.slice A3 p.rkeys.length c3,.bool p.grouped,.slice A4 p.group.length c4,.slice A5 p.aggs.length c5] 25)=V:=⟨_,rfl⟩;have HW1:Hid (W1.heap.size=w.heap.size+1):=Lib.hid (by rw[←hW1];simp);rw[hW1]at HB HK0;have hyW:Below W1.heap.size W1 W1:=Below.refl _ _;have HPM:=Lib.hid (IMap.made W1 W1.heap.size (Nat.le_refl _));have hy5:=hyW.alloc hyW.size (.map #[] 0);obtain⟨M,hM⟩: ∃y,W1.heap.size=y:=⟨_,rfl⟩;rw[hM]at HPM;have HMW:=Lib.hid hM;obtain⟨w5,hw5⟩: ∃V,W1.alloc (.map #[] 0)=V:=⟨_,rfl⟩;rw[hw5]at HPM hy5;clear h h0 h1 h2 h3 h4 h5 n0 n1 n2 n3 n4 n5 m0 m1 m2 m3 m4 m5 hR hm hyW hfit hz hfr hrow;have hmm:= @run_makeMap Tryz.prog;go_enter Tryz.func36,Tryz.ntmps36
 go_upto_region 2 with fail
 clear hw5 hM hW1 hmm
 go_wp2_with fail
 go_loopw[8,9,10,11,12,16] (fun _ _ _ _ _ iv wr=> ∃(k:Nat) (X:List PrtI),k≤R.length∧iv= .int .i64 k∧Hid (IMap wr M M k X)∧Hid (IxTo p (ac R) k X)∧Below W1.heap.size W1 wr) (fun _ _ _ _ _ iv _=>R.length-(intOf iv).toNat)
 case atStart=>exact⟨0,[],by omega,rfl,HPM,Lib.hid IxTo.start,hy5⟩
 case round=>
  clear HPM hy5;rename World=>wr
  obtain⟨k,X,hk,rfl,HX,HIX,hyr⟩:=hrel;have hbr:=below_trans HB.out hyr;by_cases hlt:k<R.length
  ·have hx:=List.getElem?_eq_getElem (l:=R) hlt
   generalize R[k]=x at hx;have hxm:=List.mem_of_getElem? hx;obtain⟨Ax,cx,ex,nx,mx,-⟩:=id (HV.out.rows x hxm);obtain⟨xv,xr,xk⟩:=x;simp only at ex nx;subst ex;obtain⟨x,hxe⟩: ∃x,x=(⟨.slice Ax xr.length cx,xr,xk⟩:Chn):=⟨_,rfl⟩;have hxr:xr=x.r:=by rw[hxe]
   have hxk:xk=x.k:=by rw[hxe]
   have hxv:x.v= .slice Ax x.r.length cx:=by rw[hxe]
   rw[←hxe]at hx hxm;clear hxe;subst hxr hxk;obtain⟨bv,ov,hAv,-,hcb⟩:=chn_at HV.out.sl rfl hx;subst hAv;obtain⟨d0,d1⟩:=hcb _ hbr;rw[hxv]at d1;obtain⟨hke,hgk,hq⟩:=HKE.out x hxm;have HKX:=Lib.hid (fun(W:World) (hb:Below w.heap.size w W)=>HKO.out W hb x hxm);rw[hxv,hke,hq]at HKX;have HGK:=Lib.hid hgk;have hac:(ac R)[k]?=some (x.k,x.r):=by unfold ac;rw[List.getElem?_map,hx];rfl
   have HAC:=Lib.hid hac;have k0:(0:Int)≤(k:Int):=by omega
   have k1:(k:Int)<(R.length:Int):=by omega
   have hyc:=hyr.alloc hyr.size (.cells #[.int .i64 x.k,.slice Ax x.r.length cx] 53);have HKC:=Lib.hid (Blk.new wr 53 #[.int .i64 x.k,.slice Ax x.r.length cx]);have HBC:=Lib.hid (below_alloc wr (.cells #[.int .i64 x.k,.slice Ax x.r.length cx] 53));obtain⟨wc,hwc⟩: ∃V,wr.alloc (.cells #[.int .i64 x.k,.slice Ax x.r.length cx] 53)=V:=⟨_,rfl⟩;rw[hwc]at hyc HKC HBC;have HYC:=Lib.hid hyc;have hbc:=below_trans HB.out hyc;obtain⟨z0,z1,z2,z3,z4,z5,z6,z7,z8,z9,z10,z11,z12⟩:=pl_cells (HK0.out.below hyc);have hy1:=HKC.out.cell 1 _ rfl;clear hx hcb hxm hke hgk hq hac hxv hbr
   go_upto_region 5 with fail
   clear hwc;cases hz:hasK p 2 x.r with
   |false=>
    rw[hz]at HKX;have HZ:=Lib.hid hz;clear hz
    go_wp2_with fail
    refine Calls.mono (by with_reducible exact HKX.out _ hbc) ?_;rintro e w6 ⟨rfl,hb6⟩;have hb26:=hyc.trans (hb6.mono hyc.size);have HX6:=Lib.hid ((HX.out.below (below_trans HBC.out hb6)).few_le (Nat.le_succ k));have HI6:=Lib.hid (HIX.out.skip HAC.out HZ.out);clear hb6 z0 z1 z2 z3 z4 z5 z6 z7 z8 z9 z10 z11 z12
    go_wp2_with fail
    go_roundw
    case rel=>exact⟨k+1,X,by omega,by go_num,HX6,HI6,hb26⟩
    case measure=>simp[intOf];omega
   |true=>
    rw[hz]at HKX;have HZ:=Lib.hid hz;clear hz
    go_wp2_with fail
    refine Calls.mono (by with_reducible exact HKX.out _ hbc) ?_;rintro e w6 ⟨rfl,hb6⟩;have HY6:=Lib.hid (hyc.trans (hb6.mono hyc.size));have HX6:=Lib.hid (HX.out.below (below_trans HBC.out hb6));have hlook:=HX6.out.look HGK.out (by omega);have hfound:=HX6.out.found HGK.out;have HKS:=Lib.hid (keyS HGK.out);obtain⟨LP,hLP⟩: ∃y,lookI X (keyVs p 2 x.r)=y:=⟨_,rfl⟩;rw[hLP]at hlook hfound;have HLP:=Lib.hid hLP;obtain⟨LV,LL⟩:=LP;simp only at hlook hfound;obtain⟨fo,fl,fM⟩:=hfound;obtain⟨A9,n9,c9,rfl⟩:=own_slice fo;have HFO:=Lib.hid (fo.alloc (.cells #[.int .i64 k] 3));have HCN:=Lib.hid (Sl.block (Blk.new w6 3 #[.int .i64 k]) 1 1 (Nat.le_refl _) (by decide));have HBA:=Lib.hid (below_alloc w6 (.cells #[.int .i64 k] 3));have HFL:=Lib.hid fl;generalize hky:str (keyRow (keyVs p 2 x.r))=ky at hlook HKS;clear hLP fo hb6 hky z0 z1 z2 z3 z4 z5 z6 z7 z8 z9 z10 z11 z12
    go_wp2_with (first
     |(at_builtin;refine wpList_app rfl (.tmp 35) (.tmp 37) 22 rfl M 3 1 8 Tryz.underlying22 intI _ LL.length _ rfl HFO.out _ 1 [.int .i64 k] rfl HCN.out rfl (by simp[Value.oneCell']) ?_ ?_ ?_ ?_)
     |go_in)
    ·unfold maxLen;have:=HFL.out;omega
    ·have:=HFL.out;omega
    ·have:=HY6.out.size;have:=HMW.out;simp;omega
    ·intro v7 w7 hown7 hg7 hat7
     obtain⟨nm,hnm,hm6⟩:=(HX6.out.below HBA.out).map;have hm7:=map_turned hm6 (turned_grown hg7) (fun e=>fM e);have HN:Hid (nm<maxLen):=Lib.hid (by unfold maxLen;omega);have HO7:=Lib.hid hown7;have HG7:=Lib.hid hg7;have HT7:=Lib.hid hat7;have HSE:=Lib.hid (slcE_own hown7 (by unfold maxLen;have:=HFL.out;omega));clear hm6 hown7 hg7 hat7
     go_wp2_with (at_mapUpdate;refine wpList_mapUpdate_own _ rfl _ _ _ 70 rfl 9 22 lawS Tryz.underlying70 slcE M nm _ rfl hm7 HN.out _ _ _ rfl rfl HKS.out _ [] HSE.out ?_;intro w8 hown8 hg8)
     have HPUT:=Lib.hid (HX6.out.put (c:=(k:Int)) (v':=v7) (w1:=w6.alloc (.cells #[.int .i64 k] 3)) (w2:=w7) (w3:=w8) HGK.out HBA.out
      (by rw[HLP.out,intCells_app];exact HO7.out)
      (by rw[HLP.out];exact HG7.out) (by rw[HLP.out];rcases HT7.out with e|e;exact .inl e;exact .inr (fun j hj=>by rw[e]at hj;injection hj with hj;rw[World.size_alloc];omega))
      (fun _ _ _=>⟨nm+1,by omega,by have:=hown8;rw[mkD_put HX6.out.rises HGK.out]at this;exact this⟩) hg8)
     have hy8:=below_turned (HY6.out) HPUT.out.2.1 (fun j hj=>by rw[HMW.out];exact(HX6.out.range hj).1);have HXN:=Lib.hid HPUT.out.1;have HIN:=Lib.hid (HIX.out.put (v:=v7) HX6.out.rises HAC.out HZ.out HGK.out);clear hown8 hg8 hm7 hlook
     go_wp2_with fail
     go_roundw
     case rel=>exact⟨k+1,_,by omega,by go_num,HXN,HIN,hy8⟩
     case measure=>simp[intOf];omega
  ·obtain rfl:k=R.length:=by omega
   go_wp2;go_ret;exact⟨M,X,rfl,by rw[←HW1.out,HMW.out];exact HX.out,HIX.out,hbr⟩
end Go.Proofs.YtjhbeecmdgglgaaGreatDoor
