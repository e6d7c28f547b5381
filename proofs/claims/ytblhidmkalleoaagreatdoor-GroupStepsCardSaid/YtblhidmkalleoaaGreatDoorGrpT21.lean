/-Groups: maps to groups that turn. Groups: a change's turn, in parts. -/
import Derived.Test.YtblhidmkalleoaaGreatDoorGrpT20
set_option linter.unusedSimpArgs false
set_option linter.unusedVariables false
namespace Go.Proofs.YtblhidmkalleoaaGreatDoor
open Go.RowKit Go.Maps
theorem mem_mid {α:Type}{p a:α}{X1 X2:List α}(h:p∈X1++a::X2):p=a∨p∈X1++X2:=by
 rcases List.mem_append.1 h with h|h
 ·exact .inr (List.mem_append.2 (.inl h))
 ·rcases List.mem_cons.1 h with h|h
  ·exact .inl h
  ·exact .inr (List.mem_append.2 (.inr h))
theorem mem_rest {α:Type}{p a:α}{X1 X2:List α}(h:p∈X1++X2):p∈X1++a::X2:=by
 rcases List.mem_append.1 h with h|h
 ·exact List.mem_append.2 (.inl h)
 ·exact List.mem_append.2 (.inr (List.mem_cons_of_mem _ h))
theorem mem_at {α:Type}(a:α)(X1 X2:List α):a∈X1++a::X2:=List.mem_append.2 (.inr (List.mem_cons_self ..))
theorem gbk_symm {p q:Nat×Gm}(h: ∀k,GBk p.1 p.2 k→ ¬GBk q.1 q.2 k): ∀k,GBk q.1 q.2 k→ ¬GBk p.1 p.2 k:=fun k hq hp=>h k hp hq
theorem mapTurned_turned {w w':World}{b:Nat}(h:w.mapTurned w' b):Turned (fun k=>k=b) w w':=by
 exact(turned_grown h.grown).imp fun k _ e=>by injection e with e;exact e.symm
theorem look_mid {A B:AV}{r:List Val}{n:Int}(hA: ∀p∈A,rowsF p.1 r<0)(hr:rowsF r r=0):lookA (A++(r,n)::B) r=n:=by
 induction A with
 |nil=>exact if_pos hr
 |cons x A ih=>
  obtain⟨xr,m⟩:=x;have:=hA (xr,m) (by simp);show(if rowsF xr r=0 then m else lookA (A++(r,n)::B) r)=n;rw[if_neg (by simp only at this;omega)];exact ih fun p hp=>hA p (by simp[hp])
theorem look_none {A:AV}{r:List Val}(hA: ∀p∈A,rowsF p.1 r≠0):lookA A r=0:=by
 induction A with
 |nil=>rfl
 |cons x A ih=>
  obtain⟨xr,m⟩:=x;show(if rowsF xr r=0 then m else lookA A r)=0;rw[if_neg (hA (xr,m) (by simp))];exact ih fun p hp=>hA p (by simp[hp])
theorem del_mid {A B:AV}{r:List Val}{n:Int}(hA: ∀p∈A,rowsF p.1 r<0)(hr:rowsF r r=0):delA (A++(r,n)::B) r=A++B:=by
 induction A with
 |nil=>exact if_pos hr
 |cons x A ih=>
  obtain⟨xr,m⟩:=x;have:=hA (xr,m) (by simp);show(if rowsF xr r=0 then A++(r,n)::B else(xr,m)::delA (A++(r,n)::B) r)=_;rw[if_neg (by simp only at this;omega),ih fun p hp=>hA p (by simp[hp])];rfl
theorem put_mid {A B:AV}{r:List Val}{n:Int}(hA: ∀p∈A,rowsF p.1 r<0)(hB: ∀p∈B,0<rowsF p.1 r):putA (A++B) r n=A++(r,n)::B:=by
 induction A with
 |nil=>
  cases B with
  |nil=>rfl
  |cons x B=>
   obtain⟨xr,m⟩:=x;have:=hB (xr,m) (by simp);show(if rowsF xr r=0 then(xr,n)::B else if rowsF xr r<0 then(xr,m)::putA B r n else(r,n)::(xr,m)::B)=_;rw[if_neg (by simp only at this;omega),if_neg (by simp only at this;omega)];rfl
 |cons x A ih=>
  obtain⟨xr,m⟩:=x;have:=hA (xr,m) (by simp);show(if rowsF xr r=0 then(xr,n)::(A++B)else if rowsF xr r<0 then(xr,m)::putA (A++B) r n else _)=_;rw[if_neg (by simp only at this;omega),if_pos (by exact this),ih fun p hp=>hA p (by simp[hp])];rfl
theorem ax_mid (X1 X2:List (Nat×Gm))(b:Nat)(x:Gm):ax (X1++(b,x)::X2)=ax X1++(x.r,(b:Int)+1)::ax X2:=by
 unfold ax;rw[List.map_append,List.map_cons]
theorem ax_app (X1 X2:List (Nat×Gm)):ax (X1++X2)=ax X1++ax X2:=List.map_append
theorem gx_mid (X1 X2:List (Nat×Gm))(b:Nat)(x:Gm):gx (X1++(b,x)::X2)=gx X1++x.gp::gx X2:=by
 unfold gx;rw[List.map_append,List.map_cons]
theorem gx_app (X1 X2:List (Nat×Gm)):gx (X1++X2)=gx X1++gx X2:=List.map_append
theorem ax_gx {X:List (Nat×Gm)}{p:List Val×Int}(h:p∈ax X): ∃g∈gx X,g.r=p.1:=by
 have:p.1∈(ax X).map (·.1):=List.mem_map.2 ⟨p,h,rfl⟩;rw[ax_rows]at this;obtain⟨g,hg,e⟩:=List.mem_map.1 this;exact⟨g,hg,e⟩
theorem GMap.upd {w w':World}{base M N b:Nat}{X1 X2:List (Nat×Gm)}{x x':Gm}(h:GMap w base M N (X1++(b,x)::X2))(ht:Turned (GBk b x) w w')(ho:GpO w' base b x')(hr:x'.r=x.r)(hk: ∀k,GBk b x' k→GBk b x k∨w.heap.size≤k):GMap w' base M N (X1++(b,x')::X2):=by
 obtain⟨hp1,hp2⟩:=List.pairwise_cons.1 ((List.pairwise_middle (fun{p q} h=>gbk_symm h)).1 h.apart);have hfar:=h.far (b,x) (mem_at _ _ _);have hlt:=h.lt;obtain⟨n,hn,hm⟩:=h.map;refine⟨⟨n,hn,?_⟩,h.mb,fun p hp=> ?_,fun p hp=> ?_,(List.pairwise_middle (fun{p q} h=>gbk_symm h)).2 (List.pairwise_cons.2 ⟨fun p hp k hk' e=> ?_,hp2⟩)⟩
 ·have h1:=map_turned hm ht hfar
  rw[ax_mid]at h1⊢;rw[hr];exact h1
 ·rcases mem_mid hp with rfl|hp
  ·exact ho
  ·exact(h.each p (mem_rest hp)).turned ht fun k hk hg=>hp1 p hp k hg hk
 ·rcases mem_mid hp with rfl|hp
  ·intro hf
   rcases hk M hf with h1|h1
   ·exact hfar h1
   ·omega
  ·exact h.far p (mem_rest hp)
 ·rcases hk k hk' with h1|h1
  ·exact hp1 p hp k h1 e
  ·have:=((h.each p (mem_rest hp)).range k e).2;omega
structure Tn (w:World) (base M:Nat) (X:List (Nat×Gm)) (w':World) (N:Nat) (X':List (Nat×Gm)):Prop where
 map:GMap w' base M N X'
 turned:Turned (MBk M X) w w'
 old: ∀k,k<w.heap.size→MBk M X' k→MBk M X k
theorem Tn.start {w:World}{base M N:Nat}{X:List (Nat×Gm)}(h:GMap w base M N X):Tn w base M X w N X:=⟨h,Turned.refl _ _,fun _ _ h=>h⟩
theorem Tn.below {w w1 w2:World}{base M N:Nat}{X X':List (Nat×Gm)}(h:Tn w base M X w1 N X')(hb:Below w1.heap.size w1 w2):Tn w base M X w2 N X':=⟨h.map.below hb,h.turned.transN (turned_below (F:=fun _=>False) hb) (fun _ _ f=>f.elim),h.old⟩
theorem Tn.more {w w1:World}{base M N N':Nat}{X X':List (Nat×Gm)}(h:Tn w base M X w1 N X')(hN:N≤N'):Tn w base M X w1 N' X':=by
 obtain⟨⟨⟨n,hn,hm⟩,h1,h2,h3,h4⟩,h5,h6⟩:=h;exact⟨⟨⟨n,Nat.le_trans hn hN,hm⟩,h1,h2,h3,h4⟩,h5,h6⟩
theorem Tn.upd {w w1 w2:World}{base M N b:Nat}{X X1 X2:List (Nat×Gm)}{x x':Gm}(h:Tn w base M X w1 N (X1++(b,x)::X2))(ht:Turned (GBk b x) w1 w2)(ho:GpO w2 base b x')(hr:x'.r=x.r)(hk: ∀k,GBk b x' k→GBk b x k∨w1.heap.size≤k):Tn w base M X w2 N (X1++(b,x')::X2):=by
 refine⟨h.map.upd ht ho hr hk,h.turned.transN ht (fun i hi hg=>h.old i hi (.inr ⟨(b,x),mem_at _ _ _,hg⟩)),fun k hl hm=> ?_⟩;rcases hm with hm|⟨p,hp,hm⟩
 ·exact h.old k hl (.inl hm)
 ·rcases mem_mid hp with rfl|hp
  ·rcases hk k hm with h1|h1
   ·exact h.old k hl (.inr ⟨(b,x),mem_at _ _ _,h1⟩)
   ·have:=h.turned.size;omega
  ·exact h.old k hl (.inr ⟨p,mem_rest hp,hm⟩)
theorem Tn.put {w w1 w2 w3:World}{base M N b:Nat}{X X1 X2:List (Nat×Gm)}{x:Gm}(h:Tn w base M X w1 N (X1++X2))(hb:Below w1.heap.size w1 w2)(ho:GpO w2 w1.heap.size b x)(hm: ∃n,n≤N+1∧w3.ownsMap Tryz.prog 9 ptrE M n (mkD (ax (X1++(b,x)::X2))))(hg:w2.grownBy w3 (some M))(hbase:base≤w1.heap.size):Tn w base M X w3 (N+1) (X1++(b,x)::X2):=by
 have ht:=turned_grown hg;have hlt:=h.map.lt;have hr: ∀k,GBk b x k→w1.heap.size≤k:=fun k hk=>(ho.range k hk).1;have hsz:=h.turned.size;have hM: ∀ {k},some M=some k→k=M:=fun e=>by injection e with e;exact e.symm
 refine⟨⟨hm,h.map.mb,fun p hp=> ?_,fun p hp=> ?_,(List.pairwise_middle (fun{p q} h=>gbk_symm h)).2 (List.pairwise_cons.2 ⟨fun p hp k hk e=> ?_,h.map.apart⟩)⟩,?_,fun k hl hm=> ?_⟩
 ·rcases mem_mid hp with rfl|hp
  ·have h1:=ho.turned ht fun k hk e=>by have:=hM e;have:=hr k hk;omega
   exact⟨h1.cell,h1.row,own_le h1.sl hbase,fun q hq=>own_le (h1.bag q hq) hbase,fun k hk=>⟨Nat.le_trans hbase (h1.range k hk).1,(h1.range k hk).2⟩,h1.bv,h1.bvb,h1.bq,h1.vvb,h1.vq,h1.vbq,h1.pair⟩
  ·exact((h.map.each p hp).below hb).turned ht fun k hk e=>h.map.far p hp (by rw[←hM e];exact hk)
 ·rcases mem_mid hp with rfl|hp
  ·exact fun hk=>by have:=hr M hk;omega
  ·exact h.map.far p hp
 ·have:=hr k hk
  have:=((h.map.each p hp).range k e).2;omega
 ·exact(h.turned.transN (turned_below (F:=fun _=>False) hb) (fun _ _ f=>f.elim)).transN ht fun i hi e=>h.old i hi (.inl (hM e))
 ·rcases hm with hm|⟨p,hp,hm⟩
  ·exact h.old k hl (.inl hm)
  ·rcases mem_mid hp with rfl|hp
   ·have:=hr k hm;omega
   ·exact h.old k hl (.inr ⟨p,hp,hm⟩)
theorem Tn.drop {w w1 w2:World}{base M N b:Nat}{X X1 X2:List (Nat×Gm)}{x:Gm}(h:Tn w base M X w1 N (X1++(b,x)::X2))(hm: ∃n,n≤N∧w2.ownsMap Tryz.prog 9 ptrE M n (mkD (ax (X1++X2))))(ht:w1.mapTurned w2 M):Tn w base M X w2 N (X1++X2):=by
 have ht:=mapTurned_turned ht;obtain⟨hp1,hp2⟩:=List.pairwise_cons.1 ((List.pairwise_middle (fun{p q} h=>gbk_symm h)).1 h.map.apart);refine⟨⟨hm,h.map.mb,fun p hp=>(h.map.each p (mem_rest hp)).turned ht fun k hk e=>h.map.far p (mem_rest hp) (e▸hk),fun p hp=>h.map.far p (mem_rest hp),hp2⟩,h.turned.transN ht (fun i hi e=>h.old i hi (.inl e)),fun k hl hm=> ?_⟩;rcases hm with hm|⟨p,hp,hm⟩
 ·exact h.old k hl (.inl hm)
 ·exact h.old k hl (.inr ⟨p,mem_rest hp,hm⟩)
end Go.Proofs.YtblhidmkalleoaaGreatDoor
namespace Go.Proofs.YtblhidmkalleoaaGreatDoor
open Go.RowKit Go.Maps
structure BagSt (r:List Val) (n:Int) (al:List (Int×Int)) (B0 B:List (List Tl)) (i:Nat):Prop where
 ok:(bagsG r n al B0).2=(bagsG r n (al.drop i) (B.drop i)).2
 list:(bagsG r n (al.drop i) (B.drop i)).2=true→(bagsG r n al B0).1=B.take i++(bagsG r n (al.drop i) (B.drop i)).1
 rest:B.drop i=B0.drop i
 len:B.length=B0.length
theorem BagSt.start (r:List Val)(n:Int)(al:List (Int×Int))(B0:List (List Tl)):BagSt r n al B0 B0 0:=⟨rfl,fun _=>rfl,rfl,rfl⟩
theorem BagSt.same {r:List Val}{n:Int}{al:List (Int×Int)}{B0 B:List (List Tl)}{i:Nat}{a:Int×Int}(h:BagSt r n al B0 B i)(ha:al[i]?=some a)(hB:i<B.length)(h1:a.1=1):BagSt r n al B0 B (i+1):=by
 obtain⟨hl,rfl⟩:=List.getElem?_eq_some_iff.1 ha;have e1:=List.drop_eq_getElem_cons hl;have e2:=List.drop_eq_getElem_cons hB;have hs:bagsG r n (al.drop i) (B.drop i)=(B[i]::(bagsG r n (al.drop (i+1)) (B.drop (i+1))).1,(bagsG r n (al.drop (i+1)) (B.drop (i+1))).2):=by rw[e1,e2];exact if_pos h1
 refine⟨by rw[h.ok,hs],fun h2=> ?_,?_,h.len⟩
 ·rw[h.list (by rw[hs];exact h2),hs,List.take_add_one,List.getElem?_eq_getElem hB,Option.toList_some,List.append_assoc]
  rfl
 ·have:=congrArg (List.drop 1) h.rest
  rw[List.drop_drop,List.drop_drop]at this;exact this
theorem BagSt.done {r:List Val}{n:Int}{al:List (Int×Int)}{B0 B:List (List Tl)}{i:Nat}{a:Int×Int}{q:List Tl}(h:BagSt r n al B0 B i)(ha:al[i]?=some a)(hB:B[i]?=some q)(h1:a.1≠1)(h2:(tallyG q (r.getD a.2.toNat nullG) n).2=true):BagSt r n al B0 (B.set i (tallyG q (r.getD a.2.toNat nullG) n).1) (i+1):=by
 obtain⟨hl,rfl⟩:=List.getElem?_eq_some_iff.1 ha;obtain⟨hb,rfl⟩:=List.getElem?_eq_some_iff.1 hB;have e1:=List.drop_eq_getElem_cons hl;have e2:=List.drop_eq_getElem_cons hb;have hs:bagsG r n (al.drop i) (B.drop i)=((tallyG B[i] (r.getD al[i].2.toNat nullG) n).1::(bagsG r n (al.drop (i+1)) (B.drop (i+1))).1,(bagsG r n (al.drop (i+1)) (B.drop (i+1))).2):=by rw[e1,e2];exact(if_neg h1).trans (if_pos h2)
 have e3:(B.set i (tallyG B[i] (r.getD al[i].2.toNat nullG) n).1).drop (i+1)=B.drop (i+1):=List.drop_set_of_lt (by omega);refine⟨by rw[h.ok,hs,e3],fun h3=> ?_,?_,by rw[List.length_set];exact h.len⟩
 ·rw[e3]at h3⊢
  rw[h.list (by rw[hs];exact h3),hs,List.take_add_one,List.getElem?_set_self hb,List.take_set_of_le (Nat.le_refl _),Option.toList_some,List.append_assoc];rfl
 ·rw[e3]
  have:=congrArg (List.drop 1) h.rest;rw[List.drop_drop,List.drop_drop]at this;exact this
theorem BagSt.fail {r:List Val}{n:Int}{al:List (Int×Int)}{B0 B:List (List Tl)}{i:Nat}{a:Int×Int}{q:List Tl}(h:BagSt r n al B0 B i)(ha:al[i]?=some a)(hB:B[i]?=some q)(h1:a.1≠1)(h2:(tallyG q (r.getD a.2.toNat nullG) n).2=false):(bagsG r n al B0).2=false:=by
 obtain⟨hl,rfl⟩:=List.getElem?_eq_some_iff.1 ha;obtain⟨hb,rfl⟩:=List.getElem?_eq_some_iff.1 hB;rw[h.ok,List.drop_eq_getElem_cons hl,List.drop_eq_getElem_cons hb];show(if al[i].1=1 then _ else if _=true then _ else(([]:List (List Tl)),false)).2=false;rw[if_neg h1,if_neg (by rw[h2];simp)]
theorem BagSt.end_ {r:List Val}{n:Int}{al:List (Int×Int)}{B0 B:List (List Tl)}(h:BagSt r n al B0 B al.length)(hl:B.length=al.length):(bagsG r n al B0).2=true∧(bagsG r n al B0).1=B:=by
 have e:bagsG r n (al.drop al.length) (B.drop al.length)=([],true):=by rw[List.drop_length];unfold bagsG;rfl
 have h1:=h.ok;have h2:=h.list;rw[e]at h1 h2;exact⟨h1,by rw[h2 rfl,←hl,List.take_length];simp⟩
def turnP (p:Pl) (r:List Val) (n:Int) (L1:List Gp) (g:Gp) (L2:List Gp):List Gp×Int:=
 if(bagsG r n p.aggs g.bags).2=true then(L1++((if g.n+n=0 then[]else[⟨g.r,g.n+n,(bagsG r n p.aggs g.bags).1⟩])++L2),0)else([],9)
theorem turn_has {p:Pl}{G:List Gp}{c:Int×List Val}{g:Gp}(h:hasG G (cellsG p c.2)=true)(hg:G[placeG G (cellsG p c.2)]?=some g):
 turnG p G c=if 0<stepI c.1∧g.n=1073741824 then([],2)else turnP p c.2 (stepI c.1) (G.take (placeG G (cellsG p c.2))) g (G.drop (placeG G (cellsG p c.2)+1)):=by
 unfold turnG turnP;have e:G.getD (placeG G (cellsG p c.2)) (gp0 p [])=g:=by simp[List.getD,hg]
 rw[if_pos h,e]
theorem turn_new {p:Pl}{G:List Gp}{c:Int×List Val}(h:hasG G (cellsG p c.2)=false):
 turnG p G c=if stepI c.1<0 then([],9)else if G.length=4096 then([],2)else turnP p c.2 (stepI c.1) (G.take (placeG G (cellsG p c.2))) ⟨cellsG p c.2,0,p.aggs.map fun _=>[]⟩ (G.drop (placeG G (cellsG p c.2))):=by
 unfold turnG turnP;rw[if_neg (by rw[h];simp)];have h1:=stepI_two c.1;by_cases h2:stepI c.1<0
 ·rw[if_pos h2,if_pos h2]
 ·rw[if_neg h2,if_neg h2]
  by_cases h3:G.length=4096
  ·rw[if_pos h3,if_pos h3]
  ·rw[if_neg h3,if_neg h3,if_neg (show ¬(0:Int)+stepI c.1=0 by omega)]
   unfold gp0;simp
theorem splitX {X:List (Nat×Gm)}{i:Nat}{g:Gp}(h:(gx X)[i]?=some g): ∃b x,X=X.take i++(b,x)::X.drop (i+1)∧x.gp=g∧gx (X.take i)=(gx X).take i∧gx (X.drop (i+1))=(gx X).drop (i+1):=by
 unfold gx at h⊢;rw[List.getElem?_map]at h;obtain⟨q,hq,e⟩:=Option.map_eq_some_iff.1 h;obtain⟨hl,rfl⟩:=List.getElem?_eq_some_iff.1 hq;refine⟨X[i].1,X[i].2,?_,e,List.map_take,List.map_drop⟩;rw[←List.drop_eq_getElem_cons hl,List.take_append_drop]
end Go.Proofs.YtblhidmkalleoaaGreatDoor
