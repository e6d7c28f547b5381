/-Batches: a map of keys to parts of a view, each a list of one's own. Plain law: rows that are put in, one by one, make a view. Batches: rows (ErrMany  -/
import Derived.Test.YtjhbeecmdgglgaaGreatDoorGrpX23
import Derived.Test.YtjhbeecmdgglgaaGreatDoorGrpX25
import Derived.Test.YtjhbeecmdgglgaaGreatDoorGrpX22
import Derived.Test.YtjhbeecmdgglgaaGreatDoorGrpX15
import Derived.Test.YtjhbeecmdgglgaaGreatDoorGrpX14
import Derived.Test.YtjhbeecmdgglgaaGreatDoorGrpX8
set_option linter.unusedSimpArgs false
set_option linter.unusedVariables false
namespace Go.Proofs.YtjhbeecmdgglgaaGreatDoor
open Go.RowKit Go.Maps
theorem entry_rowB {A:AV}{kl:Lit}{y:DataW Unit}(hat: ∀zd,(mkD A).atKey kl zd=y): ∃p∈A,(kOf p.1).sameKey kl=true∧y= .lit (.int .i64 p.2):=by
 have h0:=hat (.lit (.int .i64 0));have h1:=hat (.lit (.int .i64 1));unfold mkD DataW.atKey at h0 h1;simp only at h0 h1;cases hf:(A.map ent).find? (fun p=>p.1.sameKey kl)with
 |none=>rw[hf]at h0 h1;simp at h0 h1;rw[←h0]at h1;simp at h1
 |some q=>
  have hm:=List.mem_of_find?_eq_some hf;have hk:=List.find?_some hf;obtain⟨p,hp,rfl⟩:=List.mem_map.1 hm;rw[hf]at h0;exact⟨p,hp,hk,h0.symm⟩
theorem same_strB {p:List Val}{x:List UInt8}(h:(kOf p).sameKey (.string x)=true):x=keyRow p:=by
 have:(keyRow p==x)=true:=h;exact(by simpa using this:keyRow p=x).symm
structure Prt where
 r:List Val
 v:Value
 l:List Cnt
def codeV (v:Value):Int:=match v with
 | .slice (some ⟨b,_,_⟩) n c=>((b:Int)+1)*340282366920938463463374607431768211456+(n:Int)*18446744073709551616+(c:Int)
 |_=>0
def slcE (v:Value):Option (DataW Unit×List MemPlace):=match v with
 | .slice none 0 0=>some (.lit (.int .i64 0),[])
 | .slice (some ⟨b,0,none⟩) n c=>if n<18446744073709551616∧c<18446744073709551616 then some (.lit (.int .i64 (codeV (.slice (some ⟨b,0,none⟩) n c))),[])else none
 |_=>none
theorem slcE_inv {u v:Value}{ps qs:List MemPlace}(h:slcE u=some (.lit (.int .i64 (codeV v)),ps))(hv:slcE v=some (.lit (.int .i64 (codeV v)),qs)):u=v:=by
 unfold slcE at h hv;split at h
 ·split at hv
  ·rfl
  ·split at hv
   ·rename_i h1
    injection h with h;injection h with h2 _;injection h2 with h2;injection h2 with _ h2;unfold codeV at h2;simp only at h2;omega
   ·cases hv
  ·cases hv
 ·split at h
  ·rename_i h1
   split at hv
   ·injection h with h;injection h with h2 _;injection h2 with h2;injection h2 with _ h2
    unfold codeV at h2;simp only at h2;omega
   ·split at hv
    ·rename_i h3
     injection h with h;injection h with h2 _;injection h2 with h2;injection h2 with _ h2;unfold codeV at h2;simp only at h2
     have e1: ∀a b n m c d:Int,0≤n→0≤m→0≤c→0≤d→n<18446744073709551616→m<18446744073709551616→c<18446744073709551616→d<18446744073709551616→(a+1)*340282366920938463463374607431768211456+n*18446744073709551616+c=(b+1)*340282366920938463463374607431768211456+m*18446744073709551616+d→a=b∧n=m∧c=d:=by
      intro a b n m c d;omega
     have:=e1 _ _ _ _ _ _ (by omega) (by omega) (by omega) (by omega) (by omega) (by omega) (by omega) (by omega) h2;obtain⟨a1,a2,a3⟩:=this
     congr 3<;>omega
    ·cases hv
   ·cases hv
  ·cases h
 ·cases h
theorem slcE_own {w:World}{base:Nat}{e:TypeId}{size n:Nat}{v:Value}{xs:List Value}(h:w.ownsRow base e size v n xs)(hn:n≤maxLen):slcE v=some (.lit (.int .i64 (codeV v)),[]):=by
 rcases h.2 with⟨rfl,rfl⟩|⟨g,cap,cur,rfl,_,_,_,hc,_⟩
 ·rfl
 ·unfold slcE
  unfold maxLen at hn hc;simp only;rw[if_pos (by omega)]
def axP (X:List Prt):AV:=X.map fun q=>(q.r,codeV q.v)
def putX:List Prt→List Val→Value→Cnt→List Prt
 |[],k,v,c=>[⟨k,v,[c]⟩]
 |x::t,k,v,c=>if rowsF x.r k=0 then⟨x.r,v,x.l++[c]⟩::t else if rowsF x.r k<0 then x::putX t k v c else⟨k,v,[c]⟩::x::t
def lookP:List Prt→List Val→Value×List Cnt
 |[],_=>(.slice none 0 0,[])
 |x::t,k=>if rowsF x.r k=0 then(x.v,x.l)else lookP t k
theorem axP_put (X:List Prt)(k:List Val)(v:Value)(c:Cnt):axP (putX X k v c)=putA (axP X) k (codeV v):=by
 induction X with
 |nil=>rfl
 |cons x t ih=>
  show axP (if rowsF x.r k=0 then⟨x.r,v,x.l++[c]⟩::t else if rowsF x.r k<0 then x::putX t k v c else⟨k,v,[c]⟩::x::t)=(if rowsF x.r k=0 then(x.r,codeV v)::axP t else if rowsF x.r k<0 then(x.r,codeV x.v)::putA (axP t) k (codeV v)else(k,codeV v)::(x.r,codeV x.v)::axP t);by_cases h1:rowsF x.r k=0
  ·rw[if_pos h1,if_pos h1];rfl
  ·rw[if_neg h1,if_neg h1]
   by_cases h2:rowsF x.r k<0
   ·rw[if_pos h2,if_pos h2,←ih];rfl
   ·rw[if_neg h2,if_neg h2];rfl
theorem look_axP (X:List Prt)(k:List Val):lookA (axP X) k=codeV (lookP X k).1:=by
 induction X with
 |nil=>rfl
 |cons x t ih=>
  show(if rowsF x.r k=0 then codeV x.v else lookA (axP t) k)=codeV (if rowsF x.r k=0 then(x.v,x.l)else lookP t k).1;by_cases h1:rowsF x.r k=0
  ·rw[if_pos h1,if_pos h1]
  ·rw[if_neg h1,if_neg h1];exact ih
theorem putX_mem {X:List Prt}{k:List Val}{v:Value}{c:Cnt}{q:Prt}(hs:Rises (axP X))(hk:GoodR k)(h:q∈putX X k v c):(q.v=v∧q.l=(lookP X k).2++[c]∧q.r=k)∨(q∈X∧q.r≠k):=by
 induction X with
 |nil=>
  rw[List.mem_singleton.1 h];exact .inl ⟨rfl,rfl,rfl⟩
 |cons x t ih=>
  have hx:=hs.good (x.r,codeV x.v) (List.mem_cons_self ..);have hx:GoodR x.r:=hx;have ht:Rises (axP t):=⟨fun p hp=>hs.good p (List.mem_cons_of_mem _ hp),(List.pairwise_cons.1 hs.rise).2⟩;have hlt: ∀y∈t,rowsF x.r y.r<0:=fun y hy=>(List.pairwise_cons.1 hs.rise).1 (y.r,codeV y.v) (List.mem_map.2 ⟨y,hy,rfl⟩);have hgt: ∀y∈t,GoodR y.r:=fun y hy=>ht.good (y.r,codeV y.v) (List.mem_map.2 ⟨y,hy,rfl⟩);unfold putX at h;unfold lookP;by_cases h1:rowsF x.r k=0
  ·have e:x.r=k:=(rowsF_zero hx hk).1 h1
   rw[if_pos h1]at h⊢;rcases List.mem_cons.1 h with rfl|h
   ·exact .inl ⟨rfl,rfl,e⟩
   ·refine .inr ⟨List.mem_cons_of_mem _ h,fun e2=> ?_⟩
    have:=hlt q h;rw[e,e2,rowsF_self hk]at this;omega
  ·rw[if_neg h1]at h⊢
   by_cases h2:rowsF x.r k<0
   ·rw[if_pos h2]at h
    rcases List.mem_cons.1 h with rfl|h
    ·exact .inr ⟨List.mem_cons_self ..,fun e=>h1 (by rw[e];exact rowsF_self hk)⟩
    ·rcases ih ht h with h|h
     ·exact .inl h
     ·exact .inr ⟨List.mem_cons_of_mem _ h.1,h.2⟩
   ·rw[if_neg h2]at h
    have hnone: ∀s:List Prt,(∀y∈s,rowsF y.r k≠0)→lookP s k=(.slice none 0 0,[]):=by
     intro s
     induction s with
     |nil=>intro _;rfl
     |cons y s ih2=>
      intro hy;unfold lookP;rw[if_neg (hy y (by simp))];exact ih2 fun z hz=>hy z (by simp[hz])
    have hne: ∀y∈t,rowsF y.r k≠0:=fun y hy e=>by
     have e:=(rowsF_zero (hgt y hy) hk).1 e;have:=hlt y hy;rw[e]at this;omega
    rcases List.mem_cons.1 h with rfl|h
    ·rw[hnone t hne]
     exact .inl ⟨rfl,rfl,rfl⟩
    ·rcases List.mem_cons.1 h with rfl|h
     ·exact .inr ⟨List.mem_cons_self ..,fun e=>h1 (by rw[e];exact rowsF_self hk)⟩
     ·exact .inr ⟨List.mem_cons_of_mem _ h,fun e=>hne q h (by rw[e];exact rowsF_self hk)⟩
theorem lookP_mem {X:List Prt}{k:List Val}(hs:Rises (axP X))(hk:GoodR k):((lookP X k)=(.slice none 0 0,[])∧ ∀q∈X,q.r≠k)∨ ∃q∈X,q.r=k∧lookP X k=(q.v,q.l):=by
 induction X with
 |nil=>exact .inl ⟨rfl,nofun⟩
 |cons x t ih=>
  have hx:GoodR x.r:=hs.good (x.r,codeV x.v) (List.mem_cons_self ..);have ht:Rises (axP t):=⟨fun p hp=>hs.good p (List.mem_cons_of_mem _ hp),(List.pairwise_cons.1 hs.rise).2⟩;unfold lookP;by_cases h1:rowsF x.r k=0
  ·rw[if_pos h1]
   exact .inr ⟨x,by simp,(rowsF_zero hx hk).1 h1,rfl⟩
  ·rw[if_neg h1]
   rcases ih ht with⟨h2,h3⟩|⟨q,hq,h2,h3⟩
   ·refine .inl ⟨h2,fun q hq=> ?_⟩
    rcases List.mem_cons.1 hq with rfl|hq
    ·exact fun e=>h1 ((rowsF_zero hx hk).2 e)
    ·exact h3 q hq
   ·exact .inr ⟨q,by simp[hq],h2,h3⟩
structure PMap (w:World) (base M N:Nat) (X:List Prt):Prop where
 map: ∃n,n≤N∧w.ownsMap Tryz.prog 9 slcE M n (mkD (axP X))
 mb:base≤M
 rises:Rises (axP X)
 each: ∀q∈X,w.ownsRow base 45 2 q.v q.l.length (cntCells q.l)
 few: ∀q∈X,q.l.length≤N
 far: ∀q∈X,q.v.ownBlock≠some M
 apart: ∀p∈X,∀q∈X,p.r≠q.r→ ∀k,p.v.ownBlock=some k→q.v.ownBlock≠some k
def PBk (M:Nat) (X:List Prt) (k:Nat):Prop:=k=M∨ ∃q∈X,q.v.ownBlock=some k
theorem PMap.lt {w:World}{base M N:Nat}{X:List Prt}(h:PMap w base M N X):M<w.heap.size:=by
 obtain⟨n,-,h⟩:=h.map;exact h.lt
theorem PMap.range {w:World}{base M N:Nat}{X:List Prt}(h:PMap w base M N X){k:Nat}(hk:PBk M X k):base≤k∧k<w.heap.size:=by
 rcases hk with rfl|⟨q,hq,hk⟩
 ·exact⟨h.mb,h.lt⟩
 ·exact(h.each q hq).lt k hk
theorem PMap.turned {F:Nat→Prop}{w w':World}{base M N:Nat}{X:List Prt}(h:PMap w base M N X)(ht:Turned F w w')(hf: ∀k,PBk M X k→ ¬F k):PMap w' base M N X:=by
 obtain⟨n,hn,hm⟩:=h.map;exact⟨⟨n,hn,map_turned hm ht (hf M (.inl rfl))⟩,h.mb,h.rises,fun q hq=>own_turned (h.each q hq) ht fun k hk=>hf k (.inr ⟨q,hq,hk⟩),h.few,h.far,h.apart⟩
theorem PMap.below {w w':World}{base M N:Nat}{X:List Prt}(h:PMap w base M N X)(hb:Below w.heap.size w w'):PMap w' base M N X:=h.turned (turned_below (F:=fun _=>False) hb) fun _ _ hf=>hf
theorem PMap.made (w:World)(base:Nat)(hb:base≤w.heap.size):PMap (w.alloc (.map #[] 0)) base w.heap.size 0 []:=
 ⟨⟨0,Nat.le_refl _,World.ownsMap_made w Tryz.prog 9 slcE⟩,hb,Rises.nil,nofun,nofun,nofun,nofun⟩
theorem zeroLC (w:World):(zeroValue 27).run Tryz.prog w= .ok (.slice none 0 0) w:=by kernel_rfl
theorem PMap.found {w:World}{base M N:Nat}{X:List Prt}{k:List Val}(h:PMap w base M N X)(hk:GoodR k):w.ownsRow base 45 2 (lookP X k).1 (lookP X k).2.length (cntCells (lookP X k).2)∧(lookP X k).2.length≤N∧(lookP X k).1.ownBlock≠some M:=by
 rcases lookP_mem h.rises hk with⟨e,-⟩|⟨q,hq,-,e⟩
 ·rw[e]
  exact⟨⟨rfl,.inl ⟨rfl,rfl⟩⟩,Nat.zero_le _,by simp[Value.ownBlock]⟩
 ·rw[e]
  exact⟨h.each q hq,h.few q hq,h.far q hq⟩
theorem PMap.look {w:World}{base M N:Nat}{X:List Prt}{k:List Val}(h:PMap w base M N X)(hk:GoodR k)(hN:N≤1000000):(Instr.lookup 88 (.map (some M)) (.string (str (keyRow k))) false).run Tryz.prog w= .ok (lookP X k).1 w:=by
 obtain⟨n,-,hm⟩:=h.map;obtain⟨v,ps,hrun,hv⟩:=hm.lookup (t:=88) lawS Tryz.underlying88 (zeroLC w) (zd:= .lit (.int .i64 0)) (zp:=[]) rfl (keyS hk);rw[mkD_at h.rises.good hk,look_axP]at hv;have hf:=h.found hk;rw[hrun,slcE_inv hv (slcE_own hf.1 (by have:=hf.2.1;unfold maxLen;omega))]
theorem PMap.put {w w1 w2 w3:World}{base M N:Nat}{X:List Prt}{k:List Val}{c:Cnt}{v':Value}(h:PMap w base M N X)(hk:GoodR k)(hb:Below w.heap.size w w1)
 (hown:w2.ownsRow base 45 2 v' ((lookP X k).2.length+1) (cntCells ((lookP X k).2++[c]))) (hg:w1.grownBy w2 (lookP X k).1.ownBlock) (hat:v'.ownBlock=(lookP X k).1.ownBlock∨ ∀j,v'.ownBlock=some j→w1.heap.size≤j)
 (hm: ∀n,w.ownsMap Tryz.prog 9 slcE M n (mkD (axP X))→n≤N→ ∃m,m≤N+1∧w3.ownsMap Tryz.prog 9 slcE M m (mkD (putA (axP X) k (codeV v')))) (hg3:w2.grownBy w3 (some M)):
 PMap w3 base M (N+1) (putX X k v' c)∧Turned (PBk M X) w w3∧ ∀j,j<w.heap.size→PBk M (putX X k v' c) j→PBk M X j:=by
 have hf:=h.found hk;have hlt:=h.lt;have hsz:=hb.size;have hM: ∀ {j},some M=some j→j=M:=fun e=>by injection e with e;exact e.symm
 have hv': ∀j,v'.ownBlock=some j→(lookP X k).1.ownBlock=some j∨w.heap.size≤j:=fun j hj=>by
  rcases hat with e|e
  ·exact .inl (e▸hj)
  ·exact .inr (Nat.le_trans hsz (e j hj))
 have hvM:v'.ownBlock≠some M:=fun e=>by
  rcases hv' M e with h1|h1
  ·exact hf.2.2 h1
  ·omega
 have ho: ∀q∈X,q.r≠k→ ∀j,q.v.ownBlock=some j→(lookP X k).1.ownBlock≠some j:=fun q hq hne j hj e=>by
  rcases lookP_mem h.rises hk with⟨e1,-⟩|⟨q',hq',e2,e3⟩
  ·rw[e1]at e;cases e
  ·rw[e3]at e
   exact h.apart q hq q' hq' (fun e4=>hne (e4.trans e2)) j hj e
 have ht:Turned (PBk M X) w w3:=(((turned_below (F:=PBk M X) hb).transN (turned_grown hg) (fun i _ e=>by
  rcases lookP_mem h.rises hk with⟨e1,-⟩|⟨q',hq',e2,e3⟩
  ·rw[e1]at e;cases e
  ·rw[e3]at e
   exact .inr ⟨q',hq',e⟩))).transN (turned_grown hg3) fun i _ e=> .inl (hM e)
 refine⟨⟨?_,h.mb,?_,fun q hq=> ?_,fun q hq=> ?_,fun q hq=> ?_,fun p hp q hq hne j hj e=> ?_⟩,ht,fun j hj hpb=> ?_⟩
 ·obtain⟨n,hn,hmm⟩:=h.map
  rw[axP_put];exact hm n hmm hn
 ·rw[axP_put]
  exact rises_put h.rises hk
 ·rcases putX_mem h.rises hk hq with⟨e1,e2,-⟩|⟨hq,hne⟩
  ·rw[e1,e2,List.length_append]
   exact own_turned hown (turned_grown hg3) fun j hj e=>hvM (by rw[hj,hM e])
  ·refine own_turned (own_turned (own_below (h.each q hq) hb) (turned_grown hg) fun j hj e=>ho q hq hne j hj e) (turned_grown hg3) fun j hj e=>h.far q hq (by rw[hj,hM e])
 ·rcases putX_mem h.rises hk hq with⟨-,e2,-⟩|⟨hq,-⟩
  ·rw[e2,List.length_append];have:=hf.2.1;simp;omega
  ·have:=h.few q hq;omega
 ·rcases putX_mem h.rises hk hq with⟨e1,-,-⟩|⟨hq,-⟩
  ·rw[e1];exact hvM
  ·exact h.far q hq
 ·have hold: ∀q∈X,∀j,q.v.ownBlock=some j→j<w.heap.size:=fun q hq j hj=>((h.each q hq).lt j hj).2
  rcases putX_mem h.rises hk hp with⟨e1,-,e1'⟩|⟨hp,hpn⟩
  ·rcases putX_mem h.rises hk hq with⟨-,-,e2'⟩|⟨hq,hqn⟩
   ·exact hne (e1'.trans e2'.symm)
   ·rw[e1]at hj
    rcases hv' j hj with h1|h1
    ·exact ho q hq hqn j e h1
    ·have:=hold q hq j e;omega
  ·rcases putX_mem h.rises hk hq with⟨e2,-,-⟩|⟨hq,-⟩
   ·rw[e2]at e
    rcases hv' j e with h1|h1
    ·exact ho p hp hpn j hj h1
    ·have:=hold p hp j hj;omega
   ·exact h.apart p hp q hq hne j hj e
 ·rcases hpb with rfl|⟨q,hq,hj2⟩
  ·exact .inl rfl
  ·rcases putX_mem h.rises hk hq with⟨e1,-,-⟩|⟨hq,-⟩
   ·rw[e1]at hj2
    rcases hv' j hj2 with h1|h1
    ·rcases lookP_mem h.rises hk with⟨e2,-⟩|⟨q',hq',-,e3⟩
     ·rw[e2]at h1;cases h1
     ·rw[e3]at h1
      exact .inr ⟨q',hq',h1⟩
    ·omega
   ·exact .inr ⟨q,hq,hj2⟩
end Go.Proofs.YtjhbeecmdgglgaaGreatDoor
namespace Go.Proofs.YtjhbeecmdgglgaaGreatDoor
def viewR (rows:List (List Val)):AV:=(foldR [] 0 (rows.map fun r=>(1,r))).1
theorem i_look {A:AV}{r:List Val}{m:Int}(hm:0≤m)(h: ∀q∈A,1≤q.2∧q.2≤m):0≤lookA A r∧lookA A r≤m:=by
 induction A with
 |nil=>unfold lookA;omega
 |cons q A ih=>
  unfold lookA;split
  ·have:=h q (by simp);omega
  ·exact ih fun x hx=>h x (by simp[hx])
theorem i_len {A:AV}{r:List Val}{n:Int}:(putA A r n).length≤A.length+1:=by
 induction A with
 |nil=>simp[putA]
 |cons q A ih=>
  obtain⟨x,m⟩:=q;unfold putA;split
  ·simp
  ·split<;>simp<;>omega
theorem i_add {A:AV}{r:List Val}{m:Nat}(hq: ∀q∈A,1≤q.2∧q.2≤(m:Int))(hA:A.length≤m)(hm:m<4096):addR A r 1=(putA A r (lookA A r+1),0):=by
 have hlk:=i_look (r:=r) (m:=m) (by omega) hq;unfold addR;rw[if_neg (by omega),if_neg (by rintro(h|⟨-,-,h⟩)<;>omega),if_neg (by omega)]
structure VR (rows:List (List Val)) (A:AV):Prop where
 eq:A=rows.foldl (fun A r=>(addR A r 1).1) []
 rises:Rises A
 nums: ∀q∈A,1≤q.2∧q.2≤(rows.length:Int)
 len:A.length≤rows.length
theorem VR.start:VR [] []:=⟨rfl,Rises.nil,nofun,Nat.le_refl _⟩
theorem VR.look {rows:List (List Val)}{A:AV}(h:VR rows A)(r:List Val):0≤lookA A r∧lookA A r≤rows.length:=i_look (by omega) h.nums
theorem VR.code {rows:List (List Val)}{A:AV}(h:VR rows A)(hl:rows.length<4096)(r:List Val):(addR A r 1).2=0:=by rw[i_add h.nums h.len hl]
theorem VR.step {rows:List (List Val)}{A:AV}{r:List Val}(h:VR rows A)(hl:rows.length<4096)(hg:GoodR r):VR (rows++[r]) (addR A r 1).1:=by
 have hlk:=h.look r;have e:=i_add (r:=r) h.nums h.len hl;refine⟨?_,?_,?_,?_⟩
 ·rw[List.foldl_append,←h.eq];rfl
 ·rw[e];exact rises_put h.rises hg
 ·rw[e,List.length_append]
  intro q hq;rcases put_mem2 hq with h1|h1
  ·have:=h.nums q h1;simp;omega
  ·rw[h1];simp;omega
 ·rw[e,List.length_append];exact Nat.le_trans i_len (by have:=h.len;simp;omega)
theorem i_foldR: ∀ {rows:List (List Val)} {A:AV} {m:Nat} {i:Int},(∀q∈A,1≤q.2∧q.2≤(m:Int))→A.length≤m→m+rows.length≤4096→foldR A i (rows.map fun r=>(1,r))=(rows.foldl (fun A r=>(addR A r 1).1) A,0,0)
 |[],_,_,_,_,_,_=>rfl
 |r::l,A,m,i,hq,hA,hl=>by
  simp only[List.length_cons]at hl;have hlk:=i_look (r:=r) (m:=m) (by omega) hq;have e:=i_add (r:=r) hq hA (by omega);have h1:stepI 1=1:=rfl;rw[List.map_cons];unfold foldR;simp only[h1,e];rw[if_pos trivial,List.foldl_cons,e];refine i_foldR (m:=m+1) (fun q hq'=> ?_) (Nat.le_trans i_len (by omega)) (by omega);rcases put_mem2 hq' with h|h
  ·have:=hq q h;omega
  ·rw[h];omega
theorem VR.done {rows:List (List Val)}{A:AV}(h:VR rows A)(hl:rows.length≤4096):A=viewR rows:=by
 unfold viewR;rw[i_foldR (m:=0) (fun q hq=>by cases hq) (Nat.le_refl _) (by omega),h.eq]
theorem i_fine {r:List Val}(h:GoodR r):Fine r:=⟨fun x hx=>Nat.le_trans (good_size (h.good x hx).1) (by omega),fun x hx=>(h.good x hx).2⟩
theorem i_keyErr {r:List Val}(h:GoodR r):keyErr r=0:=by
 unfold keyErr;rw[if_neg (by have:=h.few;omega)]
 exact firstNZ_none fun x hx=>by
  obtain⟨y,hy,rfl⟩:=List.mem_map.1 hx;exact(h.good y hy).1
theorem ins_fold {rows:List (List Val)}{m:List Chn}(h:ac m=rows.map fun r=>(1,r))(hg: ∀r∈rows,GoodR r)(hl:rows.length≤4096):FineC m∧foldS [] m=(viewR rows,0,0):=by
 have hlen:m.length=rows.length:=by
  have h1:=congrArg List.length h;unfold ac at h1;rwa[List.length_map,List.length_map]at h1
 have hin: ∀c∈m,c.k=1∧GoodR c.r:=fun c hc=>by
  have h1:(c.k,c.r)∈ac m:=List.mem_map.2 ⟨c,hc,rfl⟩;rw[h]at h1;obtain⟨r,hr,e⟩:=List.mem_map.1 h1;injection e with e1 e2;exact⟨e1.symm,by rw[←e2];exact hg r hr⟩
 refine⟨⟨fun c hc=>i_fine (hin c hc).2,fun c hc=>by rw[(hin c hc).1];omega⟩,?_⟩
 have hf:formC m=0:=by
  unfold formC;rw[if_neg (by omega)];refine firstNZ_none fun x hx=> ?_;obtain⟨i,hi,rfl⟩:=List.mem_map.1 hx;have e:=List.getElem?_eq_getElem (l:=m) (List.mem_range.1 hi);have h1:=hin _ (List.getElem_mem (List.mem_range.1 hi));exact err_no e (by omega) (by omega) (i_keyErr h1.2) (by rw[h1.1];omega)
 unfold foldS;rw[show chkV []=0 from rfl,if_neg (by omega),hf,if_neg (by omega),h,show av []=[]from rfl,i_foldR (m:=0) (fun q hq=>by cases hq) (Nat.le_refl _) (by omega)];unfold viewR;rw[i_foldR (m:=0) (fun q hq=>by cases hq) (Nat.le_refl _) (by omega)]
end Go.Proofs.YtjhbeecmdgglgaaGreatDoor
namespace Go.Proofs.YtjhbeecmdgglgaaGreatDoor
open Go.RowKit
def longB (n:Nat) (l:List (List Val)):Bool:=l.all fun r=>r.length==n
def typB (t:List Int) (l:List (List Val)):Bool:=l.all fun r=>allB fitOne (t.zip r)
def rowsE (t:List Int) (l:List (List Val)):Int:=if longB t.length l=false then 2 else if typB t l=false then 5 else 0
def rsV (l:List Cnt):List (List Val):=l.map (·.r)
theorem rsV_at {l:List Cnt}{k:Nat}{x:Cnt}(h:l[k]?=some x):(rsV l)[k]?=some x.r:=by unfold rsV;rw[List.getElem?_map,h];rfl
theorem rsV_len (l:List Cnt):(rsV l).length=l.length:=List.length_map _
set_option maxHeartbeats 4000000 in
set_option maxRecDepth 10000 in
theorem brows_any (p:Pl)(v:Value)(l:List Cnt)(w:World)(h:p.ok w)(hz:checkP p=0)(hV:View w v l):
 Calls Tryz.prog 54 #[.agg #[.int .i64 p.kind,.int .i64 p.mode,.int .i64 p.low,.int .i64 p.high,.int .i64 p.size,.int .i64 p.limit,p.vl,p.vr,p.vk,p.vq,.bool p.grouped,p.vg,p.va],v] w fun e w'=>e= .returned (.int .i64 (rowsE (allT p) (rsV l)))∧Below w.heap.size w w':=by
 have HL:=Lib.hid h.l;have HR:=Lib.hid h.r;have HV:=Lib.hid hV;have hsh:=counts_short (check_ok hz).2.2.1;have hl1:=hsh.l1;have hl2:=hsh.l2;have hr1:=hsh.r1;have hr2:=hsh.r2;obtain⟨A0,c0,h0,n0,m0,-⟩:=id HL.out;obtain⟨A1,c1,h1,n1,m1,-⟩:=id HR.out;obtain⟨A2,c2,h2,-⟩:=h.k;obtain⟨A3,c3,h3,-⟩:=h.q;obtain⟨A4,c4,h4,-⟩:=h.g;obtain⟨A5,c5,h5,-⟩:=h.a;obtain⟨Av,cv,rfl,nv,mv,-⟩:=id hV.sl;rw[h0]at HL;rw[h1]at HR;rw[h0,h1,h2,h3,h4,h5];unfold maxLen at m0 m1 mv;have hcat:allT p=p.left++p.right:=rfl;rw[hcat];have hB:=below_alloc w (.cells #[.int .i64 p.kind,.int .i64 p.mode,.int .i64 p.low,.int .i64 p.high,.int .i64 p.size,.int .i64 p.limit,.slice A0 p.left.length c0,.slice A1 p.right.length c1,.slice A2 p.lkeys.length c2,.slice A3 p.rkeys.length c3,.bool p.grouped,.slice A4 p.group.length c4,.slice A5 p.aggs.length c5] 25);have K1:=Blk.new w 25 #[.int .i64 p.kind,.int .i64 p.mode,.int .i64 p.low,.int .i64 p.high,.int .i64 p.size,.int .i64 p.limit,.slice A0 p.left.length c0,.slice A1 p.right.length c1,.slice A2 p.lkeys.length c2,.slice A3 p.rkeys.length c3,.bool p.grouped,.slice A4 p.group.length c4,.slice A5 p.aggs.length c5];have y6:=K1.cell 6 _ rfl;have y7:=K1.cell 7 _ rfl;obtain⟨wa,hwa⟩: ∃V,w.alloc (.cells #[.int .i64 p.kind,.int .i64 p.mode,.int .i64 p.low,.int .i64 p.high,.int .i64 p.size,.int .i64 p.limit,.slice A0 p.left.length c0,.slice A1 p.right.length c1,.slice A2 p.lkeys.length c2,.slice A3 p.rkeys.length c3,.bool p.grouped,.slice A4 p.group.length c4,.slice A5 p.aggs.length c5] 25)=V:=⟨_,rfl⟩;rw[hwa]at hB y6 y7;have hB2:=hB.alloc hB.size (.cells #[.slice A0 p.left.length c0,.slice A1 p.right.length c1] 22);have HT:=Lib.hid (two_sl wa (.slice A0 p.left.length c0) (.slice A1 p.right.length c1));have HC:=Lib.hid (concat_any _ _ _ p.left p.right _ HT.out (HL.out.below hB2) (HR.out.below hB2) (by omega) (by omega));clear K1 h h0 h1 h2 h3 h4 h5 hV hsh hcat HT;generalize p.left++p.right=t at HC⊢;obtain⟨R,hR⟩: ∃R,rowsE t (rsV l)=R:=⟨_,rfl⟩;rw[hR];have HRR:Hid (R=if longB t.length (rsV l)=false then 2 else if typB t (rsV l)=false then 5 else 0):=Lib.hid hR.symm;clear hR;go_enter Tryz.func54,Tryz.ntmps54
 go_wp2_with (rw[hwa];clear hwa;skip)
 refine Calls.mono (by with_reducible exact HC.out) ?_;rintro e w2 ⟨vt,rfl,hst,-,hb2⟩;have hbw2:=below_trans hB2 hb2;have HST:=Lib.hid hst;obtain⟨At,ct,rfl,nt,mt,-⟩:=id hst;unfold maxLen at mt;clear y6 y7 hB hB2 hb2 HC hst
 go_wp2_with fail
 go_loopw[7,20] (fun _ i wr=> ∃k:Nat,k≤l.length∧i= .int .i64 k∧Hid (∀r∈(rsV l).take k,(r.length==t.length)=true)∧Below w.heap.size w wr∧Below w2.heap.size w2 wr) (fun _ i _=>l.length-(intOf i).toNat)
 case atStart=>exact⟨0,by omega,rfl,by simp[Hid],hbw2,Below.refl _ _⟩
 case round=>
  rename World=>wr
  obtain⟨k,hk,rfl,H,hbr,hb2r⟩:=hrel;by_cases hlt:k<l.length
  ·have hx:=List.getElem?_eq_getElem (l:=l) hlt
   generalize l[k]=x at hx;obtain⟨bv,ov,hAv,-,hc⟩:=cnt_at HV.out.sl rfl hx;subst hAv;obtain⟨d0,d1⟩:=hc _ hbr;obtain⟨Ax,cx,ex,nx,mx,-⟩:=id (HV.out.rows x (List.mem_of_getElem? hx));rw[ex]at d0;have HX:=Lib.hid (rsV_at hx);have k0:(0:Int)≤(k:Int):=by omega
   have k1:(k:Int)<(l.length:Int):=by omega
   have HBZ:=Lib.hid (hbr.alloc hbr.size (.cells #[.slice Ax x.r.length cx,.int .i64 x.n] 45));have HBZ2:=Lib.hid (hb2r.alloc hb2r.size (.cells #[.slice Ax x.r.length cx,.int .i64 x.n] 45));clear hx hc ex;unfold maxLen at mx;by_cases hq:x.r.length=t.length
   ·have q1:((x.r.length:Int) !=(t.length:Int))=false:=by rw[hq];simp
    have HN:=Lib.hid (all_step (f:=fun r:List Val=>r.length==t.length) H.out HX.out (by simpa using hq));clear hq
    go_wp2_with fail
    go_roundw
    case rel=>exact⟨k+1,by omega,by go_num,HN.out,HBZ.out,HBZ2.out⟩
    case measure=>simp[intOf];omega
   ·have q1:((x.r.length:Int) !=(t.length:Int))=true:=by simp;omega
    have HE:Hid (R=2):=Lib.hid (by
     have e:=all_no (f:=fun r:List Val=>r.length==t.length) HX.out (by simpa using hq);rw[HRR.out,if_pos (show longB t.length (rsV l)=false from e)])
    clear hq
    go_wp2_with fail
    go_ret;exact⟨by rw[HE.out];rfl,HBZ.out⟩
  ·obtain rfl:k=l.length:=by omega
   have HLL:Hid (longB t.length (rsV l)=true):=Lib.hid (all_yes (by rw[rsV_len];exact H.out));have HR2:Hid (R=if typB t (rsV l)=false then 5 else 0):=Lib.hid (by rw[HRR.out,HLL.out];rfl)
   have HLA:Hid (∀x∈l,x.r.length=t.length):=Lib.hid (fun x hx=>by
    have h1:=HLL.out;unfold longB at h1;rw[List.all_eq_true]at h1;simpa using h1 x.r (List.mem_map.2 ⟨x,hx,rfl⟩))
   clear H HRR HLL hbw2;have hbw2:=hbr
   go_wp2_with fail
   go_loopw[9,33] (fun _ i wr=> ∃k:Nat,k≤l.length∧i= .int .i64 k∧Hid (∀r∈(rsV l).take k,allB fitOne (t.zip r)=true)∧Below w.heap.size w wr∧Below w2.heap.size w2 wr) (fun _ i _=>l.length-(intOf i).toNat)
   case atStart=>exact⟨0,by omega,rfl,by simp[Hid],hbr,hb2r⟩
   case round=>
    clear hbr hb2r hbw2 hk hlt;rename World=>wr1
    obtain⟨k,hk,rfl,H,hbr,hb2r⟩:=hrel;by_cases hlt:k<l.length
    ·have hx:=List.getElem?_eq_getElem (l:=l) hlt
     generalize l[k]=x at hx;obtain⟨bv,ov,hAv,-,hc⟩:=cnt_at HV.out.sl rfl hx;subst hAv;obtain⟨d0,d1⟩:=hc _ hbr;have hxm:=List.mem_of_getElem? hx;obtain⟨Ax,cx,ex,nx,mx,-⟩:=id (HV.out.rows x hxm);have HXR:=Lib.hid (HV.out.rows x hxm);rw[ex]at d0 HXR;have HX:=Lib.hid (rsV_at hx);have hxl:=HLA.out x hxm;have k0:(0:Int)≤(k:Int):=by omega
     have k1:(k:Int)<(l.length:Int):=by omega
     have HBZ:=Lib.hid (hbr.alloc hbr.size (.cells #[.slice Ax x.r.length cx,.int .i64 x.n] 45));have HBZ2:=Lib.hid (hb2r.alloc hb2r.size (.cells #[.slice Ax x.r.length cx,.int .i64 x.n] 45));have hle:x.r.length≤t.length:=by omega
     have HLE:=Lib.hid hle;clear hx hc ex hxm hxl;unfold maxLen at mx
     go_wp2_with fail
     go_loopw[10,11,40] (fun _ _ i wr=> ∃j:Nat,j≤x.r.length∧i= .int .i64 j∧Hid (∀q∈(t.zip x.r).take j,fitOne q=true)∧Below w.heap.size w wr∧Below w2.heap.size w2 wr) (fun _ _ i _=>x.r.length-(intOf i).toNat)
     case atStart=>exact⟨0,by omega,rfl,by simp[Hid],HBZ.out,HBZ2.out⟩
     case round=>
      clear HBZ HBZ2 hbr hb2r d0 d1;rename World=>wr2
      obtain⟨j,hj,rfl,HJ,hbr,hb2r⟩:=hrel;by_cases hjl:j<x.r.length
      ·have hy:=List.getElem?_eq_getElem (l:=x.r) hjl
       generalize x.r[j]=y at hy;obtain⟨g,off,hAg,-,hc⟩:=val_at HXR.out rfl hy;subst hAg;obtain⟨d1,d2,d3⟩:=hc _ hbr;have hj2:j<t.length:=by omega
       obtain⟨bt,ot,hAt,-,hct⟩:=int_at HST.out rfl hj2;subst hAt;have HBY:=hbr.alloc hbr.size (.cells #[.int .i64 y.k,.int .i64 y.n,.string y.s] 68);have HBY2:=hb2r.alloc hb2r.size (.cells #[.int .i64 y.k,.int .i64 y.n,.string y.s] 68);have d4:=hct _ HBY2;have gt:t[j]?=some (t.getD j 0):=by simp[hj2]
       generalize t.getD j 0=z at d4 gt;have HG:=Lib.hid (show(t.zip x.r)[j]?=some (z,y)from by rw[List.getElem?_zip_eq_some];exact⟨gt,hy⟩);have HFO:=Lib.hid (show fitOne (z,y)=(y.k==0||y.k==z)from rfl);clear hy hc hct gt;have j0:(0:Int)≤(j:Int):=by omega
       have j1:(j:Int)<(t.length:Int):=by omega
       have j2:(j:Int)<(x.r.length:Int):=by omega
       cases hq:(y.k==0)
       ·have hq2:=bne_of hq
        simp only[Bool.not_false]at hq2;cases hz:(y.k==z)
        ·have hz2:=bne_of hz
         simp only[Bool.not_false]at hz2;have e1:=Lib.hid (all_no (f:=fitOne) HG.out (by rw[HFO.out,hq,hz];rfl))
         have EE:Hid (R=5):=Lib.hid (by
          have e:=all_no (f:=fun r:List Val=>allB fitOne (t.zip r)) HX.out e1.out;rw[HR2.out,if_pos (show typB t (rsV l)=false from e)])
         go_wp2_with fail
         go_quiet (fail)
         go_wp2;go_ret;exact⟨by rw[EE.out];rfl,below_drewN HBY _⟩
        ·have hz2:=bne_of hz
         simp only[Bool.not_true]at hz2;have e1:=Lib.hid (all_step (f:=fitOne) HJ.out HG.out (by rw[HFO.out,hz,Bool.or_true]))
         go_wp2_with fail
         go_quiet (fail)
         go_wp2;go_roundw
         case rel=>exact⟨j+1,by omega,by go_num,e1.out,below_drewN HBY _,below_drewN HBY2 _⟩
         case measure=>simp[intOf];omega
       ·have hq2:=bne_of hq
        simp only[Bool.not_true]at hq2;have e1:=Lib.hid (all_step (f:=fitOne) HJ.out HG.out (by rw[HFO.out,hq,Bool.true_or]))
        go_wp2_with fail
        go_quiet (fail)
        go_wp2;go_roundw
        case rel=>exact⟨j+1,by omega,by go_num,e1.out,below_drewN HBY _,below_drewN HBY2 _⟩
        case measure=>simp[intOf];omega
      ·obtain rfl:j=x.r.length:=by omega
       have e1:allB fitOne (t.zip x.r)=true:=all_yes (by
        have hzl:(t.zip x.r).length=x.r.length:=by rw[List.length_zip];omega
        rw[hzl];exact HJ.out)
       have HN:=Lib.hid (all_step (f:=fun r:List Val=>allB fitOne (t.zip r)) H.out HX.out e1);clear e1
       go_wp2_with fail
       go_roundw
       case rel=>exact⟨k+1,by omega,by go_num,HN.out,hbr,hb2r⟩
       case measure=>simp[intOf];omega
    ·obtain rfl:k=l.length:=by omega
     have HE:Hid (R=0):=Lib.hid (by
      have e:typB t (rsV l)=true:=all_yes (by rw[rsV_len];exact H.out);rw[HR2.out,e];rfl)
     go_wp2;go_ret;exact⟨by rw[HE.out];rfl,hbr⟩
end Go.Proofs.YtjhbeecmdgglgaaGreatDoor
namespace Go.Proofs.YtjhbeecmdgglgaaGreatDoor
def hasR (rows:List (List Val)) (r:List Val):Bool:=rows.any fun x=>decide (x=r)
def cntR (rows:List (List Val)) (r:List Val):Int:=((rows.filter fun x=>decide (x=r)).length:Nat)
theorem viewN_tells: ∀n,∀rows:List (List Val),rows.length=n→(∀r∈rows,GoodR r)→n≤4096→VR rows (rows.foldl (fun A r=>(addR A r 1).1) [])∧ ∀r,GoodR r→hasA (rows.foldl (fun A r=>(addR A r 1).1) []) r=hasR rows r∧lookA (rows.foldl (fun A r=>(addR A r 1).1) []) r=cntR rows r
 |0,rows,hl,_,_=>by
  have:rows=[]:=List.eq_nil_of_length_eq_zero hl;subst this;exact⟨VR.start,fun r _=>⟨rfl,rfl⟩⟩
 |n+1,rows,hl,hg,hn=>by
  rcases List.eq_nil_or_concat rows with rfl|⟨l,x,rfl⟩
  ·simp at hl
  ·rw[List.concat_eq_append]at hl hg⊢
   rw[List.length_append]at hl;have hl':l.length=n:=by simpa using hl
   obtain⟨h1,h2⟩:=viewN_tells n l hl' (fun r hr=>hg r (by simp[hr])) (by omega);have hx:=hg x (by simp);have h3:=h1.step (r:=x) (by omega) hx;rw[List.foldl_append];generalize l.foldl (fun A r=>(addR A r 1).1) []=A at h1 h2 h3;refine⟨h3,fun r hr=> ?_⟩;have e:=i_add (r:=x) h1.nums h1.len (by omega);show hasA (addR A x 1).1 r=_∧lookA (addR A x 1).1 r=_;rw[e];show hasA (putA A x (lookA A x+1)) r=_∧lookA (putA A x (lookA A x+1)) r=_;rw[has_put h1.rises hx hr,look_put h1.rises hx hr,(h2 r hr).1,(h2 r hr).2,(h2 x hx).2];unfold hasR cntR;rw[List.any_append,List.filter_append,List.length_append];by_cases exr:x=r
   ·subst exr
    simp
   ·simp[exr]
theorem viewR_N {rows:List (List Val)}(hg: ∀r∈rows,GoodR r)(hl:rows.length≤4096):viewR rows=rows.foldl (fun A r=>(addR A r 1).1) []:=((viewN_tells _ rows rfl hg hl).1.done hl).symm
theorem viewR_perm {rows rows':List (List Val)}(hg: ∀r∈rows,GoodR r)(hl:rows.length≤4096)(h:rows.Perm rows'):viewR rows=viewR rows':=by
 have hg': ∀r∈rows',GoodR r:=fun r hr=>hg r (h.mem_iff.2 hr);have hl':rows'.length≤4096:=by rw[←h.length_eq];exact hl
 rw[viewR_N hg hl,viewR_N hg' hl'];obtain⟨a1,a2⟩:=viewN_tells _ rows rfl hg hl;obtain⟨b1,b2⟩:=viewN_tells _ rows' rfl hg' hl';refine rises_ext a1.rises b1.rises fun r hr=> ?_;rw[(a2 r hr).1,(a2 r hr).2,(b2 r hr).1,(b2 r hr).2];refine⟨?_,?_⟩
 ·unfold hasR
  rw[Bool.eq_iff_iff,List.any_eq_true,List.any_eq_true];exact⟨fun⟨x,hx,e⟩=>⟨x,h.mem_iff.1 hx,e⟩,fun⟨x,hx,e⟩=>⟨x,h.mem_iff.2 hx,e⟩⟩
 ·unfold cntR
  rw[(h.filter _).length_eq]
theorem one_tells: ∀ {rows:List (List Val)},(∀r∈rows,GoodR r)→rows.Pairwise (fun a b=>rowsF a b<0)→ ∀r,GoodR r→hasA (rows.map fun x=>(x,1)) r=hasR rows r∧lookA (rows.map fun x=>(x,1)) r=cntR rows r
 |[],_,_,r,_=>⟨rfl,rfl⟩
 |x::l,hg,hp,r,hr=>by
  have hx:=hg x (by simp);obtain⟨h1,h2⟩:=one_tells (rows:=l) (fun r hr=>hg r (by simp[hr])) (List.pairwise_cons.1 hp).2 r hr;rw[List.map_cons,has_good hx hr,look_good hx hr,h1,h2];unfold hasR cntR;rw[List.any_cons,List.filter_cons];by_cases e:x=r
  ·subst e
   have:l.filter (fun y=>decide (y=x))=[]:=by
    rw[List.filter_eq_nil_iff];intro y hy e;have:=(List.pairwise_cons.1 hp).1 y hy;rw[show y=x by simpa using e,rowsF_self hx]at this;omega
   simp[this]
  ·simp[e]
theorem viewR_rise {rows:List (List Val)}(hg: ∀r∈rows,GoodR r)(hl:rows.length≤4096)(hp:rows.Pairwise fun a b=>rowsF a b<0):viewR rows=rows.map fun x=>(x,1):=by
 rw[viewR_N hg hl];obtain⟨a1,a2⟩:=viewN_tells _ rows rfl hg hl;refine rises_ext a1.rises ⟨fun q hq=> ?_,?_⟩ fun r hr=> ?_
 ·obtain⟨x,hx,rfl⟩:=List.mem_map.1 hq
  exact hg x hx
 ·rw[List.pairwise_map];exact hp
 ·rw[(a2 r hr).1,(a2 r hr).2,(one_tells hg hp r hr).1,(one_tells hg hp r hr).2]
  exact⟨rfl,rfl⟩
abbrev PT:=List (List Val×AV)
def putP:PT→List Val→List Val×Int→PT
 |[],k,c=>[(k,[c])]
 |(x,l)::t,k,c=>if rowsF x k=0 then(x,l++[c])::t else if rowsF x k<0 then(x,l)::putP t k c else(k,[c])::(x,l)::t
def partsP (p:Pl) (A:AV):PT:=A.foldl (fun P c=>putP P (cellsG p c.1) c) []
def figsP (p:Pl) (A:AV):List Val:=p.aggs.map fun a=>figF a.1 (A.map fun c=>(c.1.getD a.2.toNat nullG,c.2))
def headRow (p:Pl) (q:List Val×AV):List Val:=q.1++figsP p q.2
def groupV (p:Pl) (A:AV):AV:=(partsP p A).map fun q=>(headRow p q,1)
structure PG (p:Pl) (A:AV) (P:PT):Prop where
 rise:P.Pairwise fun q r=>rowsF q.1 r.1<0
 good: ∀q∈P,GoodR q.1∧q.1.length=p.group.length
 mem: ∀q∈P,∀c∈q.2,c∈A
 few:P.length≤A.length
 ne: ∀q∈P,q.2≠[]
theorem putP_mem {P:PT}{k:List Val}{c:List Val×Int}{q:List Val×AV}(h:q∈putP P k c):q∈P∨(q.1=k∧q.2=[c])∨ ∃r∈P,q.1=r.1∧q.2=r.2++[c]:=by
 induction P with
 |nil=>rw[List.mem_singleton.1 h];exact .inr (.inl ⟨rfl,rfl⟩)
 |cons x t ih=>
  obtain⟨x,l⟩:=x;unfold putP at h;split at h
  ·rcases List.mem_cons.1 h with rfl|h
   ·exact .inr (.inr ⟨(x,l),by simp,rfl,rfl⟩)
   ·exact .inl (by simp[h])
  ·split at h
   ·rcases List.mem_cons.1 h with rfl|h
    ·exact .inl (by simp)
    ·rcases ih h with h|h|⟨r,hr,h⟩
     ·exact .inl (by simp[h])
     ·exact .inr (.inl h)
     ·exact .inr (.inr ⟨r,by simp[hr],h⟩)
   ·rcases List.mem_cons.1 h with rfl|h
    ·exact .inr (.inl ⟨rfl,rfl⟩)
    ·exact .inl h
theorem putP_heads {P:PT}{k:List Val}{c:List Val×Int}{q:List Val×AV}(h:q∈putP P k c):q.1=k∨ ∃r∈P,q.1=r.1:=by
 rcases putP_mem h with h|h|⟨r,hr,h,-⟩
 ·exact .inr ⟨q,h,rfl⟩
 ·exact .inl h.1
 ·exact .inr ⟨r,hr,h⟩
theorem putP_len (P:PT)(k:List Val)(c:List Val×Int):(putP P k c).length≤P.length+1:=by
 induction P with
 |nil=>simp[putP]
 |cons x t ih=>
  obtain⟨x,l⟩:=x;unfold putP;split
  ·simp
  ·split<;>simp<;>omega
theorem putP_rise {P:PT}{k:List Val}{c:List Val×Int}(hk:GoodR k)(hg: ∀q∈P,GoodR q.1)(h:P.Pairwise fun q r=>rowsF q.1 r.1<0):(putP P k c).Pairwise fun q r=>rowsF q.1 r.1<0:=by
 induction P with
 |nil=>exact List.pairwise_singleton _ _
 |cons x t ih=>
  obtain⟨x,l⟩:=x;obtain⟨h1,h2⟩:=List.pairwise_cons.1 h;have hx:GoodR x:=hg (x,l) (by simp);have ht: ∀q∈t,GoodR q.1:=fun q hq=>hg q (by simp[hq]);unfold putP;by_cases e:rowsF x k=0
  ·rw[if_pos e]
   exact List.pairwise_cons.2 ⟨h1,h2⟩
  ·rw[if_neg e]
   by_cases e2:rowsF x k<0
   ·rw[if_pos e2]
    refine List.pairwise_cons.2 ⟨fun q hq=> ?_,ih ht h2⟩;rcases putP_heads hq with h|⟨r,hr,h⟩
    ·show rowsF x q.1<0
     rw[h];exact e2
    ·show rowsF x q.1<0
     rw[h];exact h1 r hr
   ·rw[if_neg e2]
    have e3:rowsF k x<0:=by rw[rowsF_flip hx hk];omega
    refine List.pairwise_cons.2 ⟨fun q hq=> ?_,h⟩;rcases List.mem_cons.1 hq with rfl|hq
    ·exact e3
    ·exact rowsF_trans hk hx (ht q hq) e3 (h1 q hq)
theorem PG.start (p:Pl):PG p [] []:=⟨.nil,nofun,nofun,Nat.le_refl _,nofun⟩
theorem PG.step {p:Pl}{A:AV}{P:PT}{k:List Val}{c:List Val×Int}(h:PG p A P)(hk:GoodR k)(hl:k.length=p.group.length):PG p (A++[c]) (putP P k c):=by
 refine⟨putP_rise hk (fun q hq=>(h.good q hq).1) h.rise,fun q hq=> ?_,fun q hq d hd=> ?_,?_,fun q hq=> ?_⟩
 ·rcases putP_heads hq with e|⟨r,hr,e⟩
  ·rw[e];exact⟨hk,hl⟩
  ·rw[e];exact h.good r hr
 ·rcases putP_mem hq with hq|⟨-,e⟩|⟨r,hr,-,e⟩
  ·exact List.mem_append_left _ (h.mem q hq d hd)
  ·rw[e]at hd;exact List.mem_append_right _ hd
  ·rw[e]at hd
   rcases List.mem_append.1 hd with hd|hd
   ·exact List.mem_append_left _ (h.mem r hr d hd)
   ·exact List.mem_append_right _ hd
 ·rw[List.length_append]
  have:=h.few;have:=putP_len P k c;simp;omega
 ·rcases putP_mem hq with hq|⟨-,e⟩|⟨r,hr,-,e⟩
  ·exact h.ne q hq
  ·rw[e];simp
  ·rw[e];simp
theorem parts_all {p:Pl}: ∀ {A:AV},(∀c∈A,GoodR (cellsG p c.1))→PG p A (partsP p A):=by
 have key: ∀(B:AV) {A:AV} {P:PT},PG p A P→(∀c∈B,GoodR (cellsG p c.1))→PG p (A++B) (B.foldl (fun P c=>putP P (cellsG p c.1) c) P):=by
  intro B
  induction B with
  |nil=>intro A P h _;rw[List.append_nil];exact h
  |cons c B ih=>
   intro A P h hg;have:=ih (h.step (hg c (by simp)) (c:=c) (by unfold cellsG;exact List.length_map _)) fun d hd=>hg d (by simp[hd]);rw[List.append_assoc]at this;exact this
 intro A hg;have:=key A (PG.start p) hg;rwa[List.nil_append]at this
theorem rowsF_app: ∀ {a b x y:List Val},a.length=b.length→rowsF a b<0→rowsF (a++x) (b++y)<0
 |[],[],_,_,_,h=>by simp[rowsF]at h
 |[],_::_,_,_,hl,_=>by simp at hl
 |_::_,[],_,_,hl,_=>by simp at hl
 |u::a,v::b,x,y,hl,h=>by
  show(if cmpV u v≠0 then cmpV u v else rowsF (a++x) (b++y))<0;have h':(if cmpV u v≠0 then cmpV u v else rowsF a b)<0:=h;by_cases e:cmpV u v≠0
  ·rw[if_pos e]at h'⊢;exact h'
  ·rw[if_neg e]at h'⊢
   exact rowsF_app (by simpa using hl) h'
theorem heads_rise {p:Pl}{A:AV}{P:PT}(h:PG p A P):(P.map (headRow p)).Pairwise fun a b=>rowsF a b<0:=by
 rw[List.pairwise_map];refine h.rise.imp_of_mem fun{q r} hq hr hlt=>rowsF_app ?_ hlt;rw[(h.good q hq).2,(h.good r hr).2]
theorem stepF_good {fn:Int}{o:Val}{q:Val×Int}(ho:GoodR [o])(hq:GoodR [q.1]):GoodR [stepF fn o q]:=by
 unfold stepF;split
 ·exact ho
 ·split
  ·exact int_good (wrapI_range _)
  ·split
   ·exact hq
   ·exact ho
theorem figF_good {fn:Int}{L:List (Val×Int)}(h: ∀q∈L,GoodR [q.1]):GoodR [figF fn L]:=by
 unfold figF;split
 ·refine int_good ?_
  have: ∀(L:List (Val×Int)) (s:Int),(-9223372036854775808≤s∧s≤9223372036854775807)→ -9223372036854775808≤L.foldl cntF s∧L.foldl cntF s≤9223372036854775807:=by
   intro L
   induction L with
   |nil=>intro s h;exact h
   |cons q L ih=>intro s _;exact ih _ (wrapI_range _)
  exact this L 0 (by omega)
 ·have: ∀(L:List (Val×Int)) (o:Val),GoodR [o]→(∀q∈L,GoodR [q.1])→GoodR [L.foldl (stepF fn) o]:=by
   intro L
   induction L with
   |nil=>intro o h _;exact h
   |cons q L ih=>intro o ho h;exact ih _ (stepF_good ho (h q (by simp))) fun r hr=>h r (by simp[hr])
  exact this L nullG null_good h
theorem getD_good {r:List Val}(h:GoodR r)(i:Nat):GoodR [r.getD i nullG]:=by
 by_cases hi:i<r.length
 ·have:r.getD i nullG=r[i]:=by simp[List.getD,hi]
  rw[this];exact⟨fun x hx=>by rw[List.mem_singleton.1 hx];exact h.good _ (List.getElem_mem hi),by simp⟩
 ·have:r.getD i nullG=nullG:=by simp[List.getD,hi]
  rw[this];exact null_good
theorem head_good {p:Pl}{A:AV}{P:PT}(hp:checkP p=0)(hg:p.grouped=true)(h:PG p A P)(hA: ∀c∈A,GoodR c.1): ∀r∈P.map (headRow p),GoodR r:=by
 intro r hr;obtain⟨q,hq,rfl⟩:=List.mem_map.1 hr;obtain⟨g1,g2⟩:=h.good q hq;have h8:=(group_few hp hg).1;refine⟨fun x hx=> ?_,?_⟩
 ·rcases List.mem_append.1 hx with hx|hx
  ·exact g1.good x hx
  ·obtain⟨a,-,rfl⟩:=List.mem_map.1 hx
   refine(figF_good fun z hz=> ?_).good _ (List.mem_singleton.2 rfl);obtain⟨c,hc,rfl⟩:=List.mem_map.1 hz;exact getD_good (hA c (h.mem q hq c hc)) _
 ·show(q.1++figsP p q.2).length≤8
  unfold figsP;rw[List.length_append,List.length_map,g2];exact h8
theorem heads_view {p:Pl}{A:AV}(hp:checkP p=0)(hg:p.grouped=true)(hA: ∀c∈A,GoodR c.1)(hc: ∀c∈A,GoodR (cellsG p c.1))(hl:A.length≤4096){rows:List (List Val)}(h:rows.Perm ((partsP p A).map (headRow p))):(∀r∈rows,GoodR r)∧rows.length≤4096∧viewR rows=groupV p A:=by
 have hP:=parts_all hc;have g:=head_good hp hg hP hA;have hlen:((partsP p A).map (headRow p)).length≤4096:=by rw[List.length_map];have:=hP.few;omega
 have hg': ∀r∈rows,GoodR r:=fun r hr=>g r (h.mem_iff.1 hr);have hl':rows.length≤4096:=by rw[h.length_eq];exact hlen
 refine⟨hg',hl',?_⟩;rw[viewR_perm hg' hl' h,viewR_rise g hlen (heads_rise hP)];unfold groupV;rw[List.map_map];rfl
end Go.Proofs.YtjhbeecmdgglgaaGreatDoor
