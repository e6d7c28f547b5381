/-Batches: a map of keys to parts of a view, each a list of one's own. Plans: the reference's wrongMany, once, Types. Plans, plain law: the reference's  -/
import Derived.Test.YtjhbeecmdgglgaaGreatDoorGrpV22
import Derived.Test.YtjhbeecmdgglgaaGreatDoorGrpV28
import Derived.Test.YtjhbeecmdgglgaaGreatDoorGrpV29
import Derived.Test.YtjhbeecmdgglgaaGreatDoorGrpV10
set_option linter.unusedSimpArgs false
set_option linter.unusedVariables false
namespace Go.Proofs.YtjhbeecmdgglgaaGreatDoor
open Go.RowKit Go.Maps
theorem entry_rowB {A:AV}{kl:Lit}{y:DataW Unit}(hat: ∀zd,(mkD A).atKey kl zd=y): ∃p∈A,(kOf p.1).sameKey kl=true∧y= .lit (.int .i64 p.2):=by
 have h0:=hat (.lit (.int .i64 0));have h1:=hat (.lit (.int .i64 1));unfold mkD DataW.atKey at h0 h1;simp only at h0 h1;cases hf:(A.map ent).find? (fun p=>p.1.sameKey kl)with
 |none=>rw[hf]at h0 h1;simp at h0 h1;rw[←h0]at h1;simp at h1
 |some q=>
  have hm:=List.mem_of_find?_eq_some hf;have hk:=List.find?_some hf;obtain⟨p,hp,rfl⟩:=List.mem_map.1 hm;rw[hf]at h0;exact⟨p,hp,hk,h0.symm⟩
theorem same_strB {p:List Val}{x:List UInt8}(h:(kOf p).sameKey (.string x)=true):x=keyRow p:=by
 have:(keyRow p==x)=true:=h;exact(by simpa using this:keyRow p=x).symm
structure Prt where
 r:List Val
 v:Value
 l:List Cnt
def codeV (v:Value):Int:=match v with
 | .slice (some ⟨b,_,_⟩) n c=>((b:Int)+1)*340282366920938463463374607431768211456+(n:Int)*18446744073709551616+(c:Int)
 |_=>0
def slcE (v:Value):Option (DataW Unit×List MemPlace):=match v with
 | .slice none 0 0=>some (.lit (.int .i64 0),[])
 | .slice (some ⟨b,0,none⟩) n c=>if n<18446744073709551616∧c<18446744073709551616 then some (.lit (.int .i64 (codeV (.slice (some ⟨b,0,none⟩) n c))),[])else none
 |_=>none
theorem slcE_inv {u v:Value}{ps qs:List MemPlace}(h:slcE u=some (.lit (.int .i64 (codeV v)),ps))(hv:slcE v=some (.lit (.int .i64 (codeV v)),qs)):u=v:=by
 unfold slcE at h hv;split at h
 ·split at hv
  ·rfl
  ·split at hv
   ·rename_i h1
    injection h with h;injection h with h2 _;injection h2 with h2;injection h2 with _ h2;unfold codeV at h2;simp only at h2;omega
   ·cases hv
  ·cases hv
 ·split at h
  ·rename_i h1
   split at hv
   ·injection h with h;injection h with h2 _;injection h2 with h2;injection h2 with _ h2
    unfold codeV at h2;simp only at h2;omega
   ·split at hv
    ·rename_i h3
     injection h with h;injection h with h2 _;injection h2 with h2;injection h2 with _ h2;unfold codeV at h2;simp only at h2
     have e1: ∀a b n m c d:Int,0≤n→0≤m→0≤c→0≤d→n<18446744073709551616→m<18446744073709551616→c<18446744073709551616→d<18446744073709551616→(a+1)*340282366920938463463374607431768211456+n*18446744073709551616+c=(b+1)*340282366920938463463374607431768211456+m*18446744073709551616+d→a=b∧n=m∧c=d:=by
      intro a b n m c d;omega
     have:=e1 _ _ _ _ _ _ (by omega) (by omega) (by omega) (by omega) (by omega) (by omega) (by omega) (by omega) h2;obtain⟨a1,a2,a3⟩:=this
     congr 3<;>omega
    ·cases hv
   ·cases hv
  ·cases h
 ·cases h
theorem slcE_own {w:World}{base:Nat}{e:TypeId}{size n:Nat}{v:Value}{xs:List Value}(h:w.ownsRow base e size v n xs)(hn:n≤maxLen):slcE v=some (.lit (.int .i64 (codeV v)),[]):=by
 rcases h.2 with⟨rfl,rfl⟩|⟨g,cap,cur,rfl,_,_,_,hc,_⟩
 ·rfl
 ·unfold slcE
  unfold maxLen at hn hc;simp only;rw[if_pos (by omega)]
def axP (X:List Prt):AV:=X.map fun q=>(q.r,codeV q.v)
def putX:List Prt→List Val→Value→Cnt→List Prt
 |[],k,v,c=>[⟨k,v,[c]⟩]
 |x::t,k,v,c=>if rowsF x.r k=0 then⟨x.r,v,x.l++[c]⟩::t else if rowsF x.r k<0 then x::putX t k v c else⟨k,v,[c]⟩::x::t
def lookP:List Prt→List Val→Value×List Cnt
 |[],_=>(.slice none 0 0,[])
 |x::t,k=>if rowsF x.r k=0 then(x.v,x.l)else lookP t k
theorem axP_put (X:List Prt)(k:List Val)(v:Value)(c:Cnt):axP (putX X k v c)=putA (axP X) k (codeV v):=by
 induction X with
 |nil=>rfl
 |cons x t ih=>
  show axP (if rowsF x.r k=0 then⟨x.r,v,x.l++[c]⟩::t else if rowsF x.r k<0 then x::putX t k v c else⟨k,v,[c]⟩::x::t)=(if rowsF x.r k=0 then(x.r,codeV v)::axP t else if rowsF x.r k<0 then(x.r,codeV x.v)::putA (axP t) k (codeV v)else(k,codeV v)::(x.r,codeV x.v)::axP t);by_cases h1:rowsF x.r k=0
  ·rw[if_pos h1,if_pos h1];rfl
  ·rw[if_neg h1,if_neg h1]
   by_cases h2:rowsF x.r k<0
   ·rw[if_pos h2,if_pos h2,←ih];rfl
   ·rw[if_neg h2,if_neg h2];rfl
theorem look_axP (X:List Prt)(k:List Val):lookA (axP X) k=codeV (lookP X k).1:=by
 induction X with
 |nil=>rfl
 |cons x t ih=>
  show(if rowsF x.r k=0 then codeV x.v else lookA (axP t) k)=codeV (if rowsF x.r k=0 then(x.v,x.l)else lookP t k).1;by_cases h1:rowsF x.r k=0
  ·rw[if_pos h1,if_pos h1]
  ·rw[if_neg h1,if_neg h1];exact ih
theorem putX_mem {X:List Prt}{k:List Val}{v:Value}{c:Cnt}{q:Prt}(hs:Rises (axP X))(hk:GoodR k)(h:q∈putX X k v c):(q.v=v∧q.l=(lookP X k).2++[c]∧q.r=k)∨(q∈X∧q.r≠k):=by
 induction X with
 |nil=>
  rw[List.mem_singleton.1 h];exact .inl ⟨rfl,rfl,rfl⟩
 |cons x t ih=>
  have hx:=hs.good (x.r,codeV x.v) (List.mem_cons_self ..);have hx:GoodR x.r:=hx;have ht:Rises (axP t):=⟨fun p hp=>hs.good p (List.mem_cons_of_mem _ hp),(List.pairwise_cons.1 hs.rise).2⟩;have hlt: ∀y∈t,rowsF x.r y.r<0:=fun y hy=>(List.pairwise_cons.1 hs.rise).1 (y.r,codeV y.v) (List.mem_map.2 ⟨y,hy,rfl⟩);have hgt: ∀y∈t,GoodR y.r:=fun y hy=>ht.good (y.r,codeV y.v) (List.mem_map.2 ⟨y,hy,rfl⟩);unfold putX at h;unfold lookP;by_cases h1:rowsF x.r k=0
  ·have e:x.r=k:=(rowsF_zero hx hk).1 h1
   rw[if_pos h1]at h⊢;rcases List.mem_cons.1 h with rfl|h
   ·exact .inl ⟨rfl,rfl,e⟩
   ·refine .inr ⟨List.mem_cons_of_mem _ h,fun e2=> ?_⟩
    have:=hlt q h;rw[e,e2,rowsF_self hk]at this;omega
  ·rw[if_neg h1]at h⊢
   by_cases h2:rowsF x.r k<0
   ·rw[if_pos h2]at h
    rcases List.mem_cons.1 h with rfl|h
    ·exact .inr ⟨List.mem_cons_self ..,fun e=>h1 (by rw[e];exact rowsF_self hk)⟩
    ·rcases ih ht h with h|h
     ·exact .inl h
     ·exact .inr ⟨List.mem_cons_of_mem _ h.1,h.2⟩
   ·rw[if_neg h2]at h
    have hnone: ∀s:List Prt,(∀y∈s,rowsF y.r k≠0)→lookP s k=(.slice none 0 0,[]):=by
     intro s
     induction s with
     |nil=>intro _;rfl
     |cons y s ih2=>
      intro hy;unfold lookP;rw[if_neg (hy y (by simp))];exact ih2 fun z hz=>hy z (by simp[hz])
    have hne: ∀y∈t,rowsF y.r k≠0:=fun y hy e=>by
     have e:=(rowsF_zero (hgt y hy) hk).1 e;have:=hlt y hy;rw[e]at this;omega
    rcases List.mem_cons.1 h with rfl|h
    ·rw[hnone t hne]
     exact .inl ⟨rfl,rfl,rfl⟩
    ·rcases List.mem_cons.1 h with rfl|h
     ·exact .inr ⟨List.mem_cons_self ..,fun e=>h1 (by rw[e];exact rowsF_self hk)⟩
     ·exact .inr ⟨List.mem_cons_of_mem _ h,fun e=>hne q h (by rw[e];exact rowsF_self hk)⟩
theorem lookP_mem {X:List Prt}{k:List Val}(hs:Rises (axP X))(hk:GoodR k):((lookP X k)=(.slice none 0 0,[])∧ ∀q∈X,q.r≠k)∨ ∃q∈X,q.r=k∧lookP X k=(q.v,q.l):=by
 induction X with
 |nil=>exact .inl ⟨rfl,nofun⟩
 |cons x t ih=>
  have hx:GoodR x.r:=hs.good (x.r,codeV x.v) (List.mem_cons_self ..);have ht:Rises (axP t):=⟨fun p hp=>hs.good p (List.mem_cons_of_mem _ hp),(List.pairwise_cons.1 hs.rise).2⟩;unfold lookP;by_cases h1:rowsF x.r k=0
  ·rw[if_pos h1]
   exact .inr ⟨x,by simp,(rowsF_zero hx hk).1 h1,rfl⟩
  ·rw[if_neg h1]
   rcases ih ht with⟨h2,h3⟩|⟨q,hq,h2,h3⟩
   ·refine .inl ⟨h2,fun q hq=> ?_⟩
    rcases List.mem_cons.1 hq with rfl|hq
    ·exact fun e=>h1 ((rowsF_zero hx hk).2 e)
    ·exact h3 q hq
   ·exact .inr ⟨q,by simp[hq],h2,h3⟩
structure PMap (w:World) (base M N:Nat) (X:List Prt):Prop where
 map: ∃n,n≤N∧w.ownsMap Tryz.prog 9 slcE M n (mkD (axP X))
 mb:base≤M
 rises:Rises (axP X)
 each: ∀q∈X,w.ownsRow base 45 2 q.v q.l.length (cntCells q.l)
 few: ∀q∈X,q.l.length≤N
 far: ∀q∈X,q.v.ownBlock≠some M
 apart: ∀p∈X,∀q∈X,p.r≠q.r→ ∀k,p.v.ownBlock=some k→q.v.ownBlock≠some k
def PBk (M:Nat) (X:List Prt) (k:Nat):Prop:=k=M∨ ∃q∈X,q.v.ownBlock=some k
theorem PMap.lt {w:World}{base M N:Nat}{X:List Prt}(h:PMap w base M N X):M<w.heap.size:=by
 obtain⟨n,-,h⟩:=h.map;exact h.lt
theorem PMap.range {w:World}{base M N:Nat}{X:List Prt}(h:PMap w base M N X){k:Nat}(hk:PBk M X k):base≤k∧k<w.heap.size:=by
 rcases hk with rfl|⟨q,hq,hk⟩
 ·exact⟨h.mb,h.lt⟩
 ·exact(h.each q hq).lt k hk
theorem PMap.turned {F:Nat→Prop}{w w':World}{base M N:Nat}{X:List Prt}(h:PMap w base M N X)(ht:Turned F w w')(hf: ∀k,PBk M X k→ ¬F k):PMap w' base M N X:=by
 obtain⟨n,hn,hm⟩:=h.map;exact⟨⟨n,hn,map_turned hm ht (hf M (.inl rfl))⟩,h.mb,h.rises,fun q hq=>own_turned (h.each q hq) ht fun k hk=>hf k (.inr ⟨q,hq,hk⟩),h.few,h.far,h.apart⟩
theorem PMap.below {w w':World}{base M N:Nat}{X:List Prt}(h:PMap w base M N X)(hb:Below w.heap.size w w'):PMap w' base M N X:=h.turned (turned_below (F:=fun _=>False) hb) fun _ _ hf=>hf
theorem PMap.made (w:World)(base:Nat)(hb:base≤w.heap.size):PMap (w.alloc (.map #[] 0)) base w.heap.size 0 []:=
 ⟨⟨0,Nat.le_refl _,World.ownsMap_made w Tryz.prog 9 slcE⟩,hb,Rises.nil,nofun,nofun,nofun,nofun⟩
theorem zeroLC (w:World):(zeroValue 27).run Tryz.prog w= .ok (.slice none 0 0) w:=by kernel_rfl
theorem PMap.found {w:World}{base M N:Nat}{X:List Prt}{k:List Val}(h:PMap w base M N X)(hk:GoodR k):w.ownsRow base 45 2 (lookP X k).1 (lookP X k).2.length (cntCells (lookP X k).2)∧(lookP X k).2.length≤N∧(lookP X k).1.ownBlock≠some M:=by
 rcases lookP_mem h.rises hk with⟨e,-⟩|⟨q,hq,-,e⟩
 ·rw[e]
  exact⟨⟨rfl,.inl ⟨rfl,rfl⟩⟩,Nat.zero_le _,by simp[Value.ownBlock]⟩
 ·rw[e]
  exact⟨h.each q hq,h.few q hq,h.far q hq⟩
theorem PMap.look {w:World}{base M N:Nat}{X:List Prt}{k:List Val}(h:PMap w base M N X)(hk:GoodR k)(hN:N≤1000000):(Instr.lookup 88 (.map (some M)) (.string (str (keyRow k))) false).run Tryz.prog w= .ok (lookP X k).1 w:=by
 obtain⟨n,-,hm⟩:=h.map;obtain⟨v,ps,hrun,hv⟩:=hm.lookup (t:=88) lawS Tryz.underlying88 (zeroLC w) (zd:= .lit (.int .i64 0)) (zp:=[]) rfl (keyS hk);rw[mkD_at h.rises.good hk,look_axP]at hv;have hf:=h.found hk;rw[hrun,slcE_inv hv (slcE_own hf.1 (by have:=hf.2.1;unfold maxLen;omega))]
theorem PMap.put {w w1 w2 w3:World}{base M N:Nat}{X:List Prt}{k:List Val}{c:Cnt}{v':Value}(h:PMap w base M N X)(hk:GoodR k)(hb:Below w.heap.size w w1)
 (hown:w2.ownsRow base 45 2 v' ((lookP X k).2.length+1) (cntCells ((lookP X k).2++[c]))) (hg:w1.grownBy w2 (lookP X k).1.ownBlock) (hat:v'.ownBlock=(lookP X k).1.ownBlock∨ ∀j,v'.ownBlock=some j→w1.heap.size≤j)
 (hm: ∀n,w.ownsMap Tryz.prog 9 slcE M n (mkD (axP X))→n≤N→ ∃m,m≤N+1∧w3.ownsMap Tryz.prog 9 slcE M m (mkD (putA (axP X) k (codeV v')))) (hg3:w2.grownBy w3 (some M)):
 PMap w3 base M (N+1) (putX X k v' c)∧Turned (PBk M X) w w3∧ ∀j,j<w.heap.size→PBk M (putX X k v' c) j→PBk M X j:=by
 have hf:=h.found hk;have hlt:=h.lt;have hsz:=hb.size;have hM: ∀ {j},some M=some j→j=M:=fun e=>by injection e with e;exact e.symm
 have hv': ∀j,v'.ownBlock=some j→(lookP X k).1.ownBlock=some j∨w.heap.size≤j:=fun j hj=>by
  rcases hat with e|e
  ·exact .inl (e▸hj)
  ·exact .inr (Nat.le_trans hsz (e j hj))
 have hvM:v'.ownBlock≠some M:=fun e=>by
  rcases hv' M e with h1|h1
  ·exact hf.2.2 h1
  ·omega
 have ho: ∀q∈X,q.r≠k→ ∀j,q.v.ownBlock=some j→(lookP X k).1.ownBlock≠some j:=fun q hq hne j hj e=>by
  rcases lookP_mem h.rises hk with⟨e1,-⟩|⟨q',hq',e2,e3⟩
  ·rw[e1]at e;cases e
  ·rw[e3]at e
   exact h.apart q hq q' hq' (fun e4=>hne (e4.trans e2)) j hj e
 have ht:Turned (PBk M X) w w3:=(((turned_below (F:=PBk M X) hb).transN (turned_grown hg) (fun i _ e=>by
  rcases lookP_mem h.rises hk with⟨e1,-⟩|⟨q',hq',e2,e3⟩
  ·rw[e1]at e;cases e
  ·rw[e3]at e
   exact .inr ⟨q',hq',e⟩))).transN (turned_grown hg3) fun i _ e=> .inl (hM e)
 refine⟨⟨?_,h.mb,?_,fun q hq=> ?_,fun q hq=> ?_,fun q hq=> ?_,fun p hp q hq hne j hj e=> ?_⟩,ht,fun j hj hpb=> ?_⟩
 ·obtain⟨n,hn,hmm⟩:=h.map
  rw[axP_put];exact hm n hmm hn
 ·rw[axP_put]
  exact rises_put h.rises hk
 ·rcases putX_mem h.rises hk hq with⟨e1,e2,-⟩|⟨hq,hne⟩
  ·rw[e1,e2,List.length_append]
   exact own_turned hown (turned_grown hg3) fun j hj e=>hvM (by rw[hj,hM e])
  ·refine own_turned (own_turned (own_below (h.each q hq) hb) (turned_grown hg) fun j hj e=>ho q hq hne j hj e) (turned_grown hg3) fun j hj e=>h.far q hq (by rw[hj,hM e])
 ·rcases putX_mem h.rises hk hq with⟨-,e2,-⟩|⟨hq,-⟩
  ·rw[e2,List.length_append];have:=hf.2.1;simp;omega
  ·have:=h.few q hq;omega
 ·rcases putX_mem h.rises hk hq with⟨e1,-,-⟩|⟨hq,-⟩
  ·rw[e1];exact hvM
  ·exact h.far q hq
 ·have hold: ∀q∈X,∀j,q.v.ownBlock=some j→j<w.heap.size:=fun q hq j hj=>((h.each q hq).lt j hj).2
  rcases putX_mem h.rises hk hp with⟨e1,-,e1'⟩|⟨hp,hpn⟩
  ·rcases putX_mem h.rises hk hq with⟨-,-,e2'⟩|⟨hq,hqn⟩
   ·exact hne (e1'.trans e2'.symm)
   ·rw[e1]at hj
    rcases hv' j hj with h1|h1
    ·exact ho q hq hqn j e h1
    ·have:=hold q hq j e;omega
  ·rcases putX_mem h.rises hk hq with⟨e2,-,-⟩|⟨hq,-⟩
   ·rw[e2]at e
    rcases hv' j e with h1|h1
    ·exact ho p hp hpn j hj h1
    ·have:=hold p hp j hj;omega
   ·exact h.apart p hp q hq hne j hj e
 ·rcases hpb with rfl|⟨q,hq,hj2⟩
  ·exact .inl rfl
  ·rcases putX_mem h.rises hk hq with⟨e1,-,-⟩|⟨hq,-⟩
   ·rw[e1]at hj2
    rcases hv' j hj2 with h1|h1
    ·rcases lookP_mem h.rises hk with⟨e2,-⟩|⟨q',hq',-,e3⟩
     ·rw[e2]at h1;cases h1
     ·rw[e3]at h1
      exact .inr ⟨q',hq',h1⟩
    ·omega
   ·exact .inr ⟨q,hq,hj2⟩
end Go.Proofs.YtjhbeecmdgglgaaGreatDoor
namespace Go.Proofs.YtjhbeecmdgglgaaGreatDoor
open Go.RowKit Go.Maps
end Go.Proofs.YtjhbeecmdgglgaaGreatDoor
namespace Go.Proofs.YtjhbeecmdgglgaaGreatDoor
open Go.RowKit Go.Maps
end Go.Proofs.YtjhbeecmdgglgaaGreatDoor
namespace Go.Proofs.YtjhbeecmdgglgaaGreatDoor
open Go.RowKit
end Go.Proofs.YtjhbeecmdgglgaaGreatDoor
