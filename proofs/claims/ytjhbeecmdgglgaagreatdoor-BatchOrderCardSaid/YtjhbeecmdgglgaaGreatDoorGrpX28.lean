/-Plain law: times that meet. Plain law of a stable sort of numbers by their times. Plain law of batches: what is wrong with rows that are to be joined, -/
import Derived.Test.YtjhbeecmdgglgaaGreatDoorGrpX4
import Derived.Test.YtjhbeecmdgglgaaGreatDoorGrpX1
import Derived.Test.YtjhbeecmdgglgaaGreatDoorGrpX9
import Derived.Test.YtjhbeecmdgglgaaGreatDoorGrpX14
import Derived.Test.YtjhbeecmdgglgaaGreatDoorGrpX13
import Derived.Test.YtjhbeecmdgglgaaGreatDoorGrpX27
import Derived.Test.YtjhbeecmdgglgaaGreatDoorGrpX26
import Derived.Test.YtjhbeecmdgglgaaGreatDoorGrpX22
import Derived.Test.YtjhbeecmdgglgaaGreatDoorGrpX15
set_option linter.unusedSimpArgs false
set_option linter.unusedVariables false
namespace Go.Proofs.YtjhbeecmdgglgaaGreatDoor
open tm (winF)
def meetT (kind low high size l r:Int):Bool:=if kind=1 then decide (low≤r-l∧r-l≤high)else winF l size==winF r size
end Go.Proofs.YtjhbeecmdgglgaaGreatDoor
namespace Go.Proofs.YtjhbeecmdgglgaaGreatDoor
def ltT (T:Int→Int) (x y:Int):Prop:=T x<T y∨(T x=T y∧x<y)
theorem ltT_trans {T:Int→Int}{x y z:Int}(h:ltT T x y)(k:ltT T y z):ltT T x z:=by
 unfold ltT at*;omega
abbrev Srt (T:Int→Int) (l:List Int):Prop:=l.Pairwise (ltT T)
def Fore (l m:List Int):Prop:= ∀x∈l,∀y∈m,x<y
theorem Fore.perm {l l' m m':List Int}(h:Fore l m)(hl:l'.Perm l)(hm:m'.Perm m):Fore l' m':=fun x hx y hy=>h x (hl.mem_iff.1 hx) y (hm.mem_iff.1 hy)
theorem Fore.left {l l' m:List Int}(h:Fore (l++l') m):Fore l m:=fun x hx=>h x (List.mem_append_left _ hx)
theorem Fore.right {l l' m:List Int}(h:Fore (l++l') m):Fore l' m:=fun x hx=>h x (List.mem_append_right _ hx)
theorem Fore.fst {l m m':List Int}(h:Fore l (m++m')):Fore l m:=fun x hx y hy=>h x hx y (List.mem_append_left _ hy)
theorem Fore.snd {l m m':List Int}(h:Fore l (m++m')):Fore l m':=fun x hx y hy=>h x hx y (List.mem_append_right _ hy)
theorem Fore.app {l l' m:List Int}(h:Fore l m)(k:Fore l' m):Fore (l++l') m:=fun x hx=>(List.mem_append.1 hx).elim (h x) (k x)
theorem Fore.app2 {l m m':List Int}(h:Fore l m)(k:Fore l m'):Fore l (m++m'):=fun x hx y hy=>(List.mem_append.1 hy).elim (h x hx y) (k x hx y)
theorem srt_last {T:Int→Int}{l:List Int}{x y:Int}(h:Srt T (l++[y]))(hx:x∈l++[y]):x=y∨ltT T x y:=by
 have h:=List.pairwise_append.1 h;rcases List.mem_append.1 hx with hx|hx
 ·exact .inr (h.2.2 x hx y (by simp))
 ·exact .inl (by simpa using hx)
theorem srt_head {T:Int→Int}{l:List Int}{x y:Int}(h:Srt T (y::l))(hx:x∈y::l):x=y∨ltT T y x:=by
 rcases List.mem_cons.1 hx with rfl|hx
 ·exact .inl rfl
 ·exact .inr ((List.pairwise_cons.1 h).1 x hx)
theorem lastSplit {l:List Int}{x:Int}(h:l.getLast?=some x): ∃l',l=l'++[x]:=by
 rcases List.eq_nil_or_concat l with rfl|⟨l',y,rfl⟩
 ·simp at h
 ·exact⟨l',by simpa using h⟩
theorem headSplit {l:List Int}{x:Int}(h:l.head?=some x): ∃l',l=x::l':=by
 cases l with
 |nil=>simp at h
 |cons y l=>exact⟨l,by simpa using h⟩
theorem merge_parts {T:Int→Int}{L1 L2 R1 R2 M1 M2:List Int}(hL:Srt T (L1++L2))(hR:Srt T (R1++R2))(hf:Fore (L1++L2) (R1++R2))
 (h1:L1=[]∨R2=[]∨ ∃x y,L1.getLast?=some x∧R2.head?=some y∧T x≤T y)
 (h2:R1=[]∨L2=[]∨ ∃x y,L2.head?=some x∧R1.getLast?=some y∧T y<T x)
 (m1:M1.Perm (L1++R1)) (s1:Srt T M1) (m2:M2.Perm (L2++R2)) (s2:Srt T M2):(M1++M2).Perm ((L1++L2)++(R1++R2))∧Srt T (M1++M2):=by
 refine⟨?_,?_⟩
 ·refine(m1.append m2).trans ?_
  rw[List.append_assoc,List.append_assoc];refine List.Perm.append_left L1 ?_;rw[←List.append_assoc,←List.append_assoc];exact List.perm_append_comm.append_right R2
 ·refine List.pairwise_append.2 ⟨s1,s2,fun u hu v hv=> ?_⟩
  have hL':=List.pairwise_append.1 hL;have hR':=List.pairwise_append.1 hR;rcases List.mem_append.1 (m1.mem_iff.1 hu)with hu|hu
  ·rcases List.mem_append.1 (m2.mem_iff.1 hv)with hv|hv
   ·exact hL'.2.2 u hu v hv
   ·rcases h1 with rfl|rfl|⟨x,y,hx,hy,hxy⟩
    ·cases hu
    ·cases hv
    ·obtain⟨l',rfl⟩:=lastSplit hx
     obtain⟨r',rfl⟩:=headSplit hy;have a:=srt_last hL'.1 hu;have b:=srt_head hR'.2.1 hv;have c:=hf x (by simp) y (by simp);have d:ltT T x y:=by unfold ltT;omega
     rcases a with rfl|a
     ·rcases b with rfl|b
      ·exact d
      ·exact ltT_trans d b
     ·rcases b with rfl|b
      ·exact ltT_trans a d
      ·exact ltT_trans a (ltT_trans d b)
  ·rcases List.mem_append.1 (m2.mem_iff.1 hv)with hv|hv
   ·rcases h2 with rfl|rfl|⟨x,y,hx,hy,hxy⟩
    ·cases hu
    ·cases hv
    ·obtain⟨l',rfl⟩:=headSplit hx
     obtain⟨r',rfl⟩:=lastSplit hy;have a:=srt_last hR'.1 hu;have b:=srt_head hL'.2.1 hv;have d:ltT T y x:= .inl hxy;rcases a with rfl|a
     ·rcases b with rfl|b
      ·exact d
      ·exact ltT_trans d b
     ·rcases b with rfl|b
      ·exact ltT_trans a d
      ·exact ltT_trans a (ltT_trans d b)
   ·exact hR'.2.2 u hu v hv
theorem insert_srt {T:Int→Int}{S1 S2:List Int}{x:Int}(h:Srt T (S1++S2))(hf:Fore (S1++S2) [x])(h1:S1=[]∨ ∃y,S1.getLast?=some y∧T y≤T x)(h2: ∀y∈S2,T x<T y):Srt T (S1++x::S2):=by
 have h':=List.pairwise_append.1 h;refine List.pairwise_append.2 ⟨h'.1,List.pairwise_cons.2 ⟨fun y hy=> .inl (h2 y hy),h'.2.1⟩,fun u hu v hv=> ?_⟩;rcases List.mem_cons.1 hv with rfl|hv
 ·rcases h1 with rfl|⟨y,hy,hyx⟩
  ·cases hu
  ·obtain⟨l',rfl⟩:=lastSplit hy
   have c:=hf y (by simp) v (by simp);have d:ltT T y v:=by unfold ltT;omega
   rcases srt_last h'.1 hu with rfl|a
   ·exact d
   ·exact ltT_trans a d
 ·exact h'.2.2 u hu v hv
inductive Bk (T:Int→Int) (bs:Nat):List Int→Prop
 |last (l:List Int):l.length≤bs→Srt T l→Bk T bs l
 |cons (X l:List Int):X.length=bs→Srt T X→Fore X l→Bk T bs l→Bk T bs (X++l)
def Dn (T:Int→Int) (bs:Nat) (D:List Int):Prop:= ∀l,Fore D l→Bk T bs l→Bk T bs (D++l)
theorem Dn.nil {T:Int→Int}{bs:Nat}:Dn T bs []:=fun _ _ h=>h
theorem Dn.app {T:Int→Int}{bs:Nat}{D M:List Int}(h:Dn T bs D)(hf:Fore D M)(hl:M.length=bs)(hs:Srt T M):Dn T bs (D++M):=fun l hf2 hb=>by
 rw[List.append_assoc];exact h _ (hf.app2 hf2.left) (.cons M l hl hs hf2.right hb)
theorem Bk.srt {T:Int→Int}{bs:Nat}{l:List Int}(h:Bk T bs l)(hl:l.length≤bs)(hb:0<bs):Srt T l:=by
 cases h with
 |last _ _ hs=>exact hs
 |cons X l' hX hs hf hb'=>
  have:l'=[]:=List.eq_nil_of_length_eq_zero (by rw[List.length_append]at hl;omega);subst this;rwa[List.append_nil]
theorem Bk.cut {T:Int→Int}{bs:Nat}{l:List Int}(h:Bk T bs l)(hl:bs≤l.length)(hb:0<bs):Srt T (l.take bs)∧Fore (l.take bs) (l.drop bs)∧Bk T bs (l.drop bs):=by
 cases h with
 |last _ hl2 hs=>
  have e:l.length=bs:=by omega
  rw[List.take_of_length_le (by omega),List.drop_eq_nil_of_le (by omega)];exact⟨hs,fun x _ y hy=>(by cases hy),Bk.last _ (by simp) List.Pairwise.nil⟩
 |cons X l' hX hs hf hb'=>
  rw[List.take_left' hX,List.drop_left' hX];exact⟨hs,hf,hb'⟩
end Go.Proofs.YtjhbeecmdgglgaaGreatDoor
namespace Go.Proofs.YtjhbeecmdgglgaaGreatDoor
open tm (fitsB)
abbrev Cg:=Int×List Val
def nullV:Val:=⟨0,0,⟨#[]⟩⟩
def nullsR (n:Nat):List Val:=List.replicate n nullV
def keepsB (p:Pl) (side:Int):Bool:=if side=2 then(p.mode==3||p.mode==4)else(p.mode==2||p.mode==4)
def zC:Cg:=(0,[])
def timeAt (R:List Cg) (i:Int):Int:=(R.getD i.toNat zC).1
def rowAt (R:List Cg) (i:Nat):List Val:=(R.getD i zC).2
def batchE (p:Pl) (L R:List Cg):Int:=
 if checkP p≠0 then checkP p else if 120<L.length∨120<R.length∨120<L.length+R.length then 2
 else if(L++R).all (fun x=>fitsB x.1)=false then 3
 else if firstNZ (L.map fun x=>rowE p 1 x.2)≠0 then firstNZ (L.map fun x=>rowE p 1 x.2)else firstNZ (R.map fun x=>rowE p 2 x.2)
structure GoodB2 (p:Pl) (L R:List Cg):Prop where
 plan:checkP p=0
 few:L.length+R.length≤120
 lt: ∀x∈L,fitsB x.1=true
 rt: ∀x∈R,fitsB x.1=true
 lr: ∀x∈L,rowE p 1 x.2=0
 rr: ∀x∈R,rowE p 2 x.2=0
theorem firstNZ_zero {l:List Int}:firstNZ l=0↔ ∀x∈l,x=0:=by
 unfold firstNZ;cases h:l.find? (fun n=>n != 0)with
 |none=>
  rw[List.find?_eq_none]at h;exact⟨fun _ x hx=>by simpa using h x hx,fun _=>rfl⟩
 |some y=>
  have h1:=List.mem_of_find?_eq_some h;have h2:=List.find?_some h;simp only[Option.getD_some];exact⟨fun e=>by subst e;simp at h2,fun e=>e y h1⟩
theorem batch_zero {p:Pl}{L R:List Cg}:batchE p L R=0↔GoodB2 p L R:=by
 unfold batchE;by_cases h1:checkP p=0
 ·rw[if_neg (fun h=>h h1)]
  by_cases h2:120<L.length∨120<R.length∨120<L.length+R.length
  ·rw[if_pos h2]
   exact⟨fun h=>by omega,fun h=>by have:=h.few;omega⟩
  ·rw[if_neg h2]
   by_cases h3:(L++R).all (fun x=>fitsB x.1)=false
   ·rw[if_pos h3]
    refine⟨fun h=>by omega,fun h=> ?_⟩;rw[List.all_eq_false]at h3;obtain⟨x,hx,h4⟩:=h3;exact absurd ((List.mem_append.1 hx).elim (h.lt x) (h.rt x)) h4
   ·rw[if_neg h3]
    have h3': ∀x∈L++R,fitsB x.1=true:=by
     have:(L++R).all (fun x=>fitsB x.1)=true:=by simpa using h3
     rwa[List.all_eq_true]at this
    have z (q:Cg→Int) (M:List Cg):firstNZ (M.map q)=0↔ ∀x∈M,q x=0:=by
     rw[firstNZ_zero];exact⟨fun h x hx=>h _ (List.mem_map.2 ⟨x,hx,rfl⟩),fun h y hy=>by obtain⟨x,hx,rfl⟩:=List.mem_map.1 hy;exact h x hx⟩
    by_cases h5:firstNZ (L.map fun x=>rowE p 1 x.2)=0
    ·rw[if_neg (fun h=>h h5),z]
     rw[z]at h5;exact⟨fun h=>⟨h1,by omega,fun x hx=>h3' x (List.mem_append_left _ hx),fun x hx=>h3' x (List.mem_append_right _ hx),h5,h⟩,fun h=>h.rr⟩
    ·rw[if_pos h5]
     exact⟨fun h=>absurd h h5,fun h=>absurd ((z _ _).2 h.lr) h5⟩
 ·rw[if_pos h1]
  exact⟨fun h=>absurd h h1,fun h=>absurd h.plan h1⟩
def keyed (p:Pl) (side:Int) (r:List Val) (k:ByteArray):Bool:=(keyFor p side r).2&&decide ((keyFor p side r).1=k)
def idxs (p:Pl) (R:List Cg) (k:ByteArray):List Int:=((List.range R.length).filter fun i=>keyed p 2 (rowAt R i) k).map fun i=>((i:Nat):Int)
def overI (R:List Cg) (i:Int):Option Int→Bool
 |some c=>decide (timeAt R c≤timeAt R i)
 |none=>true
def bestStep (R:List Cg) (t:Int) (b:Option Int) (i:Int):Option Int:=
 if timeAt R i≤t∧overI R i b=true then some i else b
def bestI (R:List Cg) (t:Int) (l:List Int):Option Int:=l.foldl (bestStep R t) none
def withI (p:Pl) (R:List Cg) (x:Cg):List Int:=
 if(keyFor p 1 x.2).2=true then
  if p.kind=3 then(bestI R x.1 (idxs p R (keyFor p 1 x.2).1)).toList
  else(idxs p R (keyFor p 1 x.2).1).filter fun i=>meetT p.kind p.low p.high p.size x.1 (timeAt R i)
 else[]
def pairsOf (p:Pl) (R:List Cg) (x:Cg):List (List Val):=
 if(withI p R x).isEmpty then(if keepsB p 1 then[x.2++nullsR p.right.length]else[])else(withI p R x).map fun i=>x.2++rowAt R i.toNat
def aloneB2 (p:Pl) (L R:List Cg) (i:Nat):Bool:= !L.any fun x=>(withI p R x).contains (i:Int)
def lateOf (p:Pl) (L R:List Cg) (i:Nat):List (List Val):=if aloneB2 p L R i&&keepsB p 2 then[nullsR p.left.length++rowAt R i]else[]
def joinL (p:Pl) (L R:List Cg):List (List Val):=L.flatMap (pairsOf p R)++(List.range R.length).flatMap (lateOf p L R)
theorem idxs_mem {p:Pl}{R:List Cg}{k:ByteArray}{i:Int}:i∈idxs p R k↔0≤i∧i<R.length∧keyed p 2 (rowAt R i.toNat) k=true:=by
 unfold idxs;rw[List.mem_map];constructor
 ·rintro⟨n,hn,rfl⟩
  rw[List.mem_filter,List.mem_range]at hn;exact⟨by omega,by omega,by simpa using hn.2⟩
 ·rintro⟨h0,h1,h2⟩
  exact⟨i.toNat,by rw[List.mem_filter,List.mem_range];exact⟨by omega,h2⟩,by omega⟩
theorem idxs_up (p:Pl)(R:List Cg)(k:ByteArray):(idxs p R k).Pairwise (· < ·):=by
 unfold idxs;rw[List.pairwise_map];exact(List.pairwise_lt_range.filter _).imp fun h=>by omega
def BestOf (T:Int→Int) (t:Int) (l:List Int):Option Int→Prop
 |none=> ∀c∈l,t<T c
 |some b=>b∈l∧T b≤t∧ ∀c∈l,T c≤t→c=b∨ltT T c b
theorem best_fold {R:List Cg}{t:Int}: ∀ {l m:List Int} {b:Option Int},BestOf (timeAt R) t m b→(m++l).Pairwise (· < ·)→BestOf (timeAt R) t (m++l) (l.foldl (bestStep R t) b)
 |[],m,b,h,_=>by rw[List.append_nil];exact h
 |i::l,m,b,h,hu=>by
  have e:m++i::l=(m++[i])++l:=by simp
  rw[e]at hu⊢;refine best_fold ?_ hu;have hmi: ∀c∈m,c<i:=fun c hc=>(List.pairwise_append.1 ((List.pairwise_append.1 hu).1)).2.2 c hc i (by simp);unfold bestStep;by_cases h1:timeAt R i≤t
  ·cases b with
   |none=>
    rw[if_pos ⟨h1,rfl⟩];refine⟨by simp,h1,fun c hc h2=> ?_⟩;rcases List.mem_append.1 hc with hc|hc
    ·have:=h c hc;omega
    ·exact .inl (by simpa using hc)
   |some b=>
    obtain⟨hb,hb1,hb2⟩:=h;by_cases h2:timeAt R b≤timeAt R i
    ·rw[if_pos ⟨h1,decide_eq_true h2⟩]
     refine⟨by simp,h1,fun c hc h3=> ?_⟩;rcases List.mem_append.1 hc with hc|hc
     ·have h4:=hmi c hc
      have h5:timeAt R c≤timeAt R b:=by
       rcases hb2 c hc h3 with rfl|h6
       ·omega
       ·unfold ltT at h6;omega
      exact .inr (by unfold ltT;omega)
     ·exact .inl (by simpa using hc)
    ·rw[if_neg (fun h=>h2 (of_decide_eq_true h.2))]
     refine⟨by simp[hb],hb1,fun c hc h3=> ?_⟩;rcases List.mem_append.1 hc with hc|hc
     ·exact hb2 c hc h3
     ·have:c=i:=by simpa using hc
      subst this;exact .inr (.inl (by omega))
  ·rw[if_neg (fun h=>h1 h.1)]
   cases b with
   |none=>exact fun c hc=>(List.mem_append.1 hc).elim (h c) fun hc=>by rw[show c=i by simpa using hc];omega
   |some b=>exact⟨by simp[h.1],h.2.1,fun c hc h3=>(List.mem_append.1 hc).elim (fun hc=>h.2.2 c hc h3) fun hc=>by rw[show c=i by simpa using hc]at h3;omega⟩
theorem best_is {R:List Cg}{t:Int}{l:List Int}(hu:l.Pairwise (· < ·)):BestOf (timeAt R) t l (bestI R t l):=best_fold (m:=[]) (b:=none) (fun c hc=>by cases hc) (by simpa using hu)
theorem best_one {T:Int→Int}{t:Int}{l:List Int}{a b:Option Int}(ha:BestOf T t l a)(hb:BestOf T t l b):a=b:=by
 cases a with
 |none=>cases b with
  |none=>rfl
  |some b=>have:=ha b hb.1;have:=hb.2.1;omega
 |some a=>cases b with
  |none=>have:=hb a ha.1;have:=ha.2.1;omega
  |some b=>
   rcases ha.2.2 b hb.1 hb.2.1 with h|h
   ·rw[h]
   ·rcases hb.2.2 a ha.1 ha.2.1 with h2|h2
    ·rw[h2]
    ·unfold ltT at h h2;omega
theorem best_sorted {T:Int→Int}{t:Int}{l S:List Int}(hp:S.Perm l)(hs:Srt T S){n:Nat}(hn:n≤S.length)(h1: ∀i x,i<n→S[i]?=some x→T x≤t)(h2: ∀i x,n≤i→S[i]?=some x→t<T x):
 BestOf T t l (if n=0 then none else S[n-1]?):=by
 by_cases h0:n=0
 ·rw[if_pos h0]
  intro c hc;obtain⟨i,hi⟩:=List.mem_iff_getElem?.1 (hp.mem_iff.2 hc);exact h2 i c (by omega) hi
 ·rw[if_neg h0,List.getElem?_eq_getElem (by omega)]
  have e:=List.getElem?_eq_getElem (l:=S) (i:=n-1) (by omega);refine⟨hp.mem_iff.1 (List.getElem_mem _),h1 _ _ (by omega) e,fun c hc h3=> ?_⟩;obtain⟨i,hi⟩:=List.mem_iff_getElem?.1 (hp.mem_iff.2 hc)
  have hin:i<n:=by
   rcases Nat.lt_or_ge i n with h|h
   ·exact h
   ·have:=h2 i c h hi;omega
  obtain⟨hil,rfl⟩:=List.getElem?_eq_some_iff.1 hi;by_cases hin2:i=n-1
  ·subst hin2;exact .inl rfl
  ·exact .inr (List.pairwise_iff_getElem.1 hs i (n-1) hil (by omega) (by omega))
end Go.Proofs.YtjhbeecmdgglgaaGreatDoor
namespace Go.Proofs.YtjhbeecmdgglgaaGreatDoor
def begL:List Cg:=[(1,[numV 7,numV 1])]
def begR:List Cg:=[(2,[numV 7,numV 2]),(9,[numV 7,numV 3])]
def begV:AV:=[([nullV,nullV,numV 7,numV 3],1),([numV 7,numV 1,numV 7,numV 2],1)]
def begW:AV:=[([nullV,numV 1,nullV],1),([numV 7,numV 1,numV 1],1)]
theorem beg_row (vl vr vk vq:Value)(a b side:Int)(hs:side=1∨side=2):rowE (simpleP vl vr vk vq) side [numV a,numV b]=0:=by
 rcases hs with rfl|rfl
 all_goals
  unfold rowE;rw[if_pos (by decide)];simp[simpleP,sideT,numV,checkV,firstNZ,allB,fitOne]
theorem beg_none (vl vr vk vq:Value):batchE (simpleP vl vr vk vq) begL begR=0:=by
 refine batch_zero.2 ⟨simple_check _ _ _ _,by decide,?_,?_,?_,?_⟩
 ·intro x hx
  simp only[begL,List.mem_singleton]at hx;subst hx;decide
 ·intro x hx
  simp only[begR,List.mem_cons,List.not_mem_nil,or_false]at hx;rcases hx with rfl|rfl<;>decide
 ·intro x hx
  simp only[begL,List.mem_singleton]at hx;subst hx;exact beg_row _ _ _ _ 7 1 1 (.inl rfl)
 ·intro x hx
  simp only[begR,List.mem_cons,List.not_mem_nil,or_false]at hx;rcases hx with rfl|rfl
  ·exact beg_row _ _ _ _ 7 2 2 (.inr rfl)
  ·exact beg_row _ _ _ _ 7 3 2 (.inr rfl)
theorem beg_join (vl vr vk vq:Value):viewR (joinL (simpleP vl vr vk vq) begL begR)=begV:=by rfl
theorem beg_group (vl vr vk vq vg va:Value):groupV (countedP vl vr vk vq vg va) begV=begW:=by rfl
end Go.Proofs.YtjhbeecmdgglgaaGreatDoor
namespace Go.Proofs.YtjhbeecmdgglgaaGreatDoor
open Go.RowKit
def swp (D:List Int) (a b:Nat):List Int:=(D.set a (D[b]?.getD 0)).set b (D[a]?.getD 0)
def swapK (D:List Int) (a b:Nat):Nat→List Int
 |0=>D
 |n+1=>swp (swapK D a b n) (a+n) (b+n)
theorem swp_len (D:List Int)(a b:Nat):(swp D a b).length=D.length:=by unfold swp;simp
theorem swapK_len (D:List Int)(a b:Nat): ∀n,(swapK D a b n).length=D.length
 |0=>rfl
 |n+1=>by rw[swapK,swp_len];exact swapK_len D a b n
def IRow (w:World) (g:Nat) (D:List Int) (sp:List Value):Prop:= ∃t,Blk w g t (intCells D++sp).toArray
theorem IRow.cell {w:World}{g:Nat}{D:List Int}{sp:List Value}(h:IRow w g D sp){k:Nat}{x:Int}(hk:D[k]?=some x):w.cell? ⟨g,k,none⟩=some (.int .i64 x):=by
 obtain⟨t,h⟩:=h;refine h.cell k _ ?_;have hl:=(List.getElem?_eq_some_iff.1 hk).1;rw[List.getElem?_toArray,List.getElem?_append_left (by unfold intCells;simpa using hl)];unfold intCells;rw[List.getElem?_map,hk];rfl
theorem IRow.free {w:World}{g:Nat}{D:List Int}{sp:List Value}(h:IRow w g D sp)(k:Nat):w.frozen? ⟨g,k,none⟩=false:=by
 obtain⟨t,h⟩:=h;exact h.free k
theorem IRow.set {w:World}{g:Nat}{D:List Int}{sp:List Value}(h:IRow w g D sp){k:Nat}(hk:k<D.length)(x:Int):IRow (w.setCell ⟨g,k,none⟩ (.int .i64 x)) g (D.set k x) sp:=by
 obtain⟨t,h⟩:=h;have h2:=h.set_ k (.int .i64 x);refine⟨t,?_⟩
 have e:(intCells (D.set k x)++sp).toArray=(intCells D++sp).toArray.setIfInBounds k (.int .i64 x):=by
  rw[List.setIfInBounds_toArray,List.set_append_left _ _ (by unfold intCells;simpa using hk)];unfold intCells;rw[List.map_set]
 rw[e];exact h2
theorem IRow.drew {w:World}{g:Nat}{D:List Int}{sp:List Value}(h:IRow w g D sp):IRow w.drew g D sp:=h
theorem IRow.lt {w:World}{g:Nat}{D:List Int}{sp:List Value}(h:IRow w g D sp):g<w.heap.size:=by obtain⟨t,h⟩:=h;exact h.lt
theorem turned_drew (F:Nat→Prop)(w:World):Turned F w w.drew:=⟨rfl,rfl,rfl,Nat.le_refl _,fun _ _ _=>rfl⟩
set_option maxHeartbeats 4000000 in
set_option maxRecDepth 10000 in
theorem swapRange_any (g cap a b n:Nat)(D:List Int)(sp:List Value)(cmp:Value)(w:World)(h:IRow w g D sp)(ha:a+n≤D.length)(hb:b+n≤D.length)(hl:D.length≤1073741824)(hc:D.length≤cap∧cap≤maxLen):
 Calls Tryz.prog 187 #[.slice (some ⟨g,0,none⟩) D.length cap,.int .i64 a,.int .i64 b,.int .i64 n,cmp] w fun e w'=>e= .returned (.tuple #[])∧IRow w' g (swapK D a b n) sp∧Turned (fun k=>k=g) w w':=by
 have HR:=Lib.hid h;obtain⟨hc1,hc2⟩:=hc;unfold maxLen at hc2;clear h;go_enter Tryz.func187,Tryz.ntmps187
 go_wp2_with fail
 go_loopw[10] (fun iv wr=> ∃i:Nat,i≤n∧iv= .int .i64 i∧Hid (IRow wr g (swapK D a b i) sp)∧Hid (Turned (fun k=>k=g) w wr)) (fun iv _=>n-(intOf iv).toNat)
 case atStart=>exact⟨0,by omega,rfl,HR,Lib.hid (Turned.refl _ _)⟩
 case round=>
  rename World=>wr
  obtain⟨i,hi,rfl,HI,HT⟩:=hrel;by_cases hlt:i<n
  ·have hla:a+i<(swapK D a b i).length:=by rw[swapK_len];omega
   have hlb:b+i<(swapK D a b i).length:=by rw[swapK_len];omega
   obtain⟨x,hx⟩: ∃x,(swapK D a b i)[a+i]?=some x:=⟨_,List.getElem?_eq_getElem hla⟩;obtain⟨y,hy⟩: ∃y,(swapK D a b i)[b+i]?=some y:=⟨_,List.getElem?_eq_getElem hlb⟩;have i0:(i:Int)<(n:Int):=by omega
   have j0:(0:Int)≤(a:Int)+(i:Int):=by omega
   have j1:(a:Int)+(i:Int)<(D.length:Int):=by omega
   have j2:((a:Int)+(i:Int)).toNat=a+i:=by omega
   have j3:IntKind.i64.wrap ((a:Int)+(i:Int))=(a:Int)+(i:Int):=by rw[IntKind.wrap_i64];omega
   have k3:IntKind.i64.wrap ((b:Int)+(i:Int))=(b:Int)+(i:Int):=by rw[IntKind.wrap_i64];omega
   have k0:(0:Int)≤(b:Int)+(i:Int):=by omega
   have k1:(b:Int)+(i:Int)<(D.length:Int):=by omega
   have k2:((b:Int)+(i:Int)).toNat=b+i:=by omega
   have dx:wr.drew.cell? ⟨g,a+i,none⟩=some (.int .i64 x):=HI.out.drew.cell hx;have dy:wr.drew.cell? ⟨g,b+i,none⟩=some (.int .i64 y):=HI.out.drew.cell hy;have fx:wr.drew.frozen? ⟨g,a+i,none⟩=false:=HI.out.drew.free _;have c2:=HI.out.drew.set hla y;have f2:(wr.drew.setCell ⟨g,a+i,none⟩ (.int .i64 y)).frozen? ⟨g,b+i,none⟩=false:=c2.free _;have fy:wr.drew.frozen? ⟨g,b+i,none⟩=false:=HI.out.drew.free _;have gy:wr.frozen? ⟨g,b+i,none⟩=false:=HI.out.free _;have hlb2:b+i<((swapK D a b i).set (a+i) y).length:=by rw[List.length_set];exact hlb
   obtain⟨z,hz⟩: ∃z,((swapK D a b i).set (a+i) y)[b+i]?=some z:=⟨_,List.getElem?_eq_getElem hlb2⟩;have d2:(wr.drew.setCell ⟨g,a+i,none⟩ (.int .i64 y)).cell? ⟨g,b+i,none⟩=some (.int .i64 z):=c2.cell hz;have d3:(wr.setCell ⟨g,a+i,none⟩ (.int .i64 y)).cell? ⟨g,b+i,none⟩=some (.int .i64 z):=(HI.out.set hla y).cell hz;have c3:=c2.set hlb2 x;have HC3:Hid (IRow ((wr.setCell ⟨g,a+i,none⟩ (.int .i64 y)).setCell ⟨g,b+i,none⟩ (.int .i64 x)).drew g (swapK D a b (i+1)) sp):=Lib.hid (by rw[swapK];unfold swp;rw[hx,hy];exact c3);have HT3:Hid (Turned (fun k=>k=g) w ((wr.setCell ⟨g,a+i,none⟩ (.int .i64 y)).setCell ⟨g,b+i,none⟩ (.int .i64 x)).drew):=Lib.hid (((HT.out.trans (turned_drew _ _)).trans (turned_set _ ⟨g,a+i,none⟩ _)).trans (turned_set _ ⟨g,b+i,none⟩ _));clear hla hlb hlb2 c2 c3 hx hy hz
   go_upto_region 3 with fail
   refine tr (S:=(fun _=>True)) trivial (fun hHeld=> ?_);refine tk 0 ?_;refine tk 1 ?_;refine tk 2 ?_;refine tk 3 ?_;refine tk 4 ?_;refine tk 5 ?_;refine tk 6 ?_;refine tk 7 ?_;refine tk 8 ?_;refine tk 9 ?_;refine tk 10 ?_;refine tk 11 ?_;refine tk 12 ?_;refine tk 14 ?_;refine tk 15 ?_;refine tk 16 ?_;refine tk 17 ?_;refine tk 18 ?_;refine tc2 13 19 ?_ ?_;intro K hK;go_simp;refine hK.out _ _ trivial (fun hHeld13=> ?_);clear hK K;refine tc 19 ?_;intro K hK;go_simp;refine hK.out _ _ trivial (fun hHeld19=> ?_);clear hK K;refine tk 20 ?_;rotate_left;intro K hK;go_simp;refine hK.out _ _ trivial (fun hHeld19=> ?_);clear hK K;refine tc 13 ?_;intro K hK;go_simp;refine hK.out _ _ trivial (fun hHeld13=> ?_);clear hK K;refine tk 20 ?_
   all_goals
    refine tc 21 ?_;intro K hK;go_simp;refine hK.out _ _ trivial (fun hHeld21=> ?_);clear hK K;refine tk 22 ?_;refine tc 23 ?_;intro K hK;go_simp;refine hK.out _ _ trivial (fun hHeld23=> ?_);clear hK K;refine td ?_
   all_goals
    go_wp2_with fail
    exact⟨⟨i+1,by omega,by go_num,HC3,HT3⟩,by simp[intOf];omega⟩
  ·obtain rfl:i=n:=by omega
   go_wp2
   go_end0
   exact⟨rfl,HI.out,HT.out⟩
end Go.Proofs.YtjhbeecmdgglgaaGreatDoor
namespace Go.Proofs.YtjhbeecmdgglgaaGreatDoor
open Go.RowKit
theorem swp_two (A B C:List Int)(x y:Int):swp (A++[x]++B++[y]++C) A.length (A.length+1+B.length)=A++[y]++B++[x]++C:=by
 unfold swp
 have h1:(A++[x]++B++[y]++C)[A.length]?=some x:=by
  rw[List.append_assoc,List.append_assoc,List.append_assoc,List.getElem?_append_right (Nat.le_refl _),Nat.sub_self];rfl
 have h2:(A++[x]++B++[y]++C)[A.length+1+B.length]?=some y:=by
  rw[List.append_assoc,List.getElem?_append_right (by simp;omega)];rw[show A.length+1+B.length-(A++[x]++B).length=0 by simp;omega];rfl
 rw[h1,h2];show((A++[x]++B++[y]++C).set A.length y).set (A.length+1+B.length) x=_
 have h3:(A++[x]++B++[y]++C).set A.length y=A++[y]++B++[y]++C:=by
  rw[show A++[x]++B++[y]++C=A++(x::(B++[y]++C)) by simp,List.set_append_right _ _ (Nat.le_refl _),Nat.sub_self];simp
 rw[h3,show A++[y]++B++[y]++C=(A++[y]++B)++(y::C) by simp,List.set_append_right _ _ (by simp;omega),show A.length+1+B.length-(A++[y]++B).length=0 by simp;omega];simp
theorem swapK_parts: ∀(n:Nat) (P L M R S:List Int),L.length=n→R.length=n→swapK (P++L++M++R++S) P.length (P.length+n+M.length) n=P++R++M++L++S
 |0,P,L,M,R,S,hl,hr=>by
  rw[List.length_eq_zero_iff.1 hl,List.length_eq_zero_iff.1 hr];rfl
 |n+1,P,L,M,R,S,hl,hr=>by
  obtain⟨L',x,rfl⟩: ∃L' x,L=L'++[x]:=⟨L.dropLast,L.getLast (by intro e;rw[e]at hl;cases hl),(List.dropLast_concat_getLast _).symm⟩;obtain⟨R',y,rfl⟩: ∃L' x,R=L'++[x]:=⟨R.dropLast,R.getLast (by intro e;rw[e]at hr;cases hr),(List.dropLast_concat_getLast _).symm⟩;rw[List.length_append,List.length_singleton]at hl hr;have hl:L'.length=n:=by omega
  have hr:R'.length=n:=by omega
  have ih:=swapK_parts n P L' ([x]++M) R' ([y]++S) hl hr;rw[swapK];have e1:P++(L'++[x])++M++(R'++[y])++S=P++L'++([x]++M)++R'++([y]++S):=by simp
  have e2:P.length+(n+1)+M.length=P.length+n+([x]++M).length:=by simp;omega
  rw[e1,e2,ih];have e3:P++R'++([x]++M)++L'++([y]++S)=(P++R')++[x]++(M++L')++[y]++S:=by simp
  have e4:P.length+n=(P++R').length:=by simp;omega
  have e5:P.length+n+([x]++M).length+n=(P++R').length+1+(M++L').length:=by simp;omega
  rw[e5,e4,e3,swp_two];simp
set_option maxHeartbeats 4000000 in
set_option maxRecDepth 10000 in
theorem rotate_any (g cap:Nat)(P L R S:List Int)(sp:List Value)(cmp:Value)(w:World)(h:IRow w g (P++L++R++S) sp)(h1:0<L.length)(h2:0<R.length)(hl:(P++L++R++S).length≤1073741824)(hc:(P++L++R++S).length≤cap∧cap≤maxLen):
 Calls Tryz.prog 176 #[.slice (some ⟨g,0,none⟩) (P++L++R++S).length cap,.int .i64 P.length,.int .i64 (P++L).length,.int .i64 (P++L++R).length,cmp] w fun e w'=>e= .returned (.tuple #[])∧IRow w' g (P++R++L++S) sp∧Turned (fun k=>k=g) w w':=by
 have HSW:=Lib.hid (fun(A X M Y B:List Int) (W:World) (n:Nat) (hX:X.length=n) (hY:Y.length=n) (hN:(A++X++M++Y++B).length=(P++L++R++S).length) (hI:IRow W g (A++X++M++Y++B) sp)=>by
  have h9:=swapRange_any g cap A.length (A.length+n+M.length) n (A++X++M++Y++B) sp cmp W hI (by simp;omega) (by simp;omega) (by rw[hN];exact hl) (by rw[hN];exact hc);rw[swapK_parts n A X M Y B hX hY,hN]at h9;exact h9)
 generalize hF:P++R++L++S=F;have HI:=Lib.hid h;obtain⟨N,hN⟩: ∃N,(P++L++R++S).length=N:=⟨_,rfl⟩;obtain⟨m,hm⟩: ∃m,(P++L).length=m:=⟨_,rfl⟩;obtain⟨a,ha⟩: ∃m,P.length=m:=⟨_,rfl⟩;obtain⟨b,hb⟩: ∃m,(P++L++R).length=m:=⟨_,rfl⟩;have la:L.length=m-a∧a<m:=by rw[List.length_append]at hm;omega
 have lb:R.length=b-m∧m<b:=by rw[List.length_append]at hb;omega
 have lN:b≤N:=by rw[List.length_append]at hN;omega
 rw[hN]at HSW hl hc⊢;rw[hm,hb,ha];have HST:Hid (∃A X Y B,IRow w g (A++X++Y++B) sp∧A++Y++X++B=F∧(A++X).length=m∧X.length=m-a∧Y.length=b-m∧(A++X++Y++B).length=N):=Lib.hid ⟨P,L,R,S,HI.out,hF,hm,la.1,lb.1,hN⟩;clear h h1 h2 hN hm ha hb hF HI;have wr1:IntKind.i64.wrap ((m:Int)-(a:Int))=((m-a:Nat):Int):=by rw[IntKind.wrap_i64];omega
 have wr2:IntKind.i64.wrap ((b:Int)-(m:Int))=((b-m:Nat):Int):=by rw[IntKind.wrap_i64];omega
 go_enter Tryz.func176,Tryz.ntmps176
 go_wp2_with fail
 go_loopw[10,11] (fun iv jv wr=> ∃i j:Nat,0<i∧0<j∧i≤m∧m+j≤N∧iv= .int .i64 i∧jv= .int .i64 j∧Hid (∃A X Y B,IRow wr g (A++X++Y++B) sp∧A++Y++X++B=F∧(A++X).length=m∧X.length=i∧Y.length=j∧(A++X++Y++B).length=N)∧Hid (Turned (fun k=>k=g) w wr)) (fun iv jv _=>(intOf iv).toNat+(intOf jv).toNat)
 case atStart=>exact⟨m-a,b-m,by omega,by omega,by omega,by omega,rfl,rfl,HST,Lib.hid (Turned.refl _ _)⟩
 case round=>
  rename World=>wr
  obtain⟨i,j,i0,j0,im,jn,rfl,rfl,HP,HT⟩:=hrel;obtain⟨A,X,Y,B,hI,hF,hm,hX,hY,hN⟩:=HP.out;have hAm:A.length+i=m:=by rw[List.length_append]at hm;omega
  have q1:IntKind.i64.wrap ((m:Int)-(i:Int))=(A.length:Int):=by rw[IntKind.wrap_i64];omega
  by_cases hij:i=j
  ·subst hij
   have qe:((i:Int) !=(i:Int))=false:=by simp
   have HC:=Lib.hid (HSW.out A X [] Y B wr i hX hY (by simpa using hN) (by simpa using hI));rw[show A.length+i+([]:List Int).length=m by simp;omega]at HC;have HE:Hid (A++Y++[]++X++B=F):=Lib.hid (by simpa using hF);clear hI hF hm hX hY hN HP
   go_wp2_with fail
   refine Calls.mono (by with_reducible exact HC.out) ?_;rintro e w2 ⟨rfl,h2,ht2⟩;rw[HE.out]at h2;have HT2:=HT.out.trans ht2;go_wp2
   go_end0
   exact⟨rfl,h2,HT2⟩
  ·have qe:((i:Int) !=(j:Int))=true:=by simp;omega
   by_cases hlt:j<i
   ·have hlt':(j:Int)<(i:Int):=by omega
    obtain⟨X1,X2,rfl,hx1⟩: ∃X1 X2,X=X1++X2∧X1.length=j:=⟨X.take j,X.drop j,(List.take_append_drop _ _).symm,by rw[List.length_take];omega⟩;rw[List.length_append]at hX;have HC:=Lib.hid (HSW.out A X1 X2 Y B wr j hx1 hY (by simpa using hN) (by simpa using hI));rw[show A.length+j+X2.length=m by omega]at HC;have q2:IntKind.i64.wrap ((i:Int)-(j:Int))=((i-j:Nat):Int):=by rw[IntKind.wrap_i64];omega
    have HN2:Hid (∀W,IRow W g (A++Y++X2++X1++B) sp→ ∃A X Y B,IRow W g (A++X++Y++B) sp∧A++Y++X++B=F∧(A++X).length=m∧X.length=i-j∧Y.length=j∧(A++X++Y++B).length=N):=Lib.hid (fun W hW=>⟨A++Y,X2,X1,B,hW,by rw[←hF];simp,by simp;omega,by omega,hx1,by rw[←hN];simp;omega⟩);clear hI hF hm hX hY hN HP
    go_wp2_with fail
    refine Calls.mono (by with_reducible exact HC.out) ?_;rintro e w2 ⟨rfl,h2,ht2⟩;have HP2:=Lib.hid (HN2.out _ h2);have HT2:=Lib.hid (HT.out.trans ht2);clear h2 ht2 HN2 HC
    go_wp2_with fail
    exact⟨⟨i-j,j,by omega,by omega,by omega,by omega,by go_num,rfl,HP2,HT2⟩,by simp[intOf];omega⟩
   ·have hlt': ¬(j:Int)<(i:Int):=by omega
    obtain⟨Y1,Y2,rfl,hy2⟩: ∃X1 X2,Y=X1++X2∧X2.length=i:=⟨Y.take (j-i),Y.drop (j-i),(List.take_append_drop _ _).symm,by rw[List.length_drop];omega⟩;rw[List.length_append]at hY;have HC:=Lib.hid (HSW.out A X Y1 Y2 B wr i hX hy2 (by simpa using hN) (by simpa using hI));rw[show A.length+i+Y1.length=m+j-i by omega,show((m+j-i:Nat):Int)=(m:Int)+(j:Int)-(i:Int) by omega]at HC;have q3:IntKind.i64.wrap ((m:Int)+(j:Int))=((m+j:Nat):Int):=by rw[IntKind.wrap_i64];omega
    have q4:IntKind.i64.wrap (((m+j:Nat):Int)-(i:Int))=((m+j-i:Nat):Int):=by rw[IntKind.wrap_i64];omega
    have q2:IntKind.i64.wrap ((j:Int)-(i:Int))=((j-i:Nat):Int):=by rw[IntKind.wrap_i64];omega
    have HN2:Hid (∀W,IRow W g (A++Y2++Y1++X++B) sp→ ∃A X Y B,IRow W g (A++X++Y++B) sp∧A++Y++X++B=F∧(A++X).length=m∧X.length=i∧Y.length=j-i∧(A++X++Y++B).length=N):=Lib.hid (fun W hW=>⟨A,Y2,Y1,X++B,by simpa using hW,by rw[←hF];simp,by simp;omega,hy2,by omega,by rw[←hN];simp;omega⟩);clear hI hF hm hX hY hN HP
    go_wp2_with fail
    refine Calls.mono (by with_reducible exact HC.out) ?_;rintro e w2 ⟨rfl,h2,ht2⟩;have HP2:=Lib.hid (HN2.out _ h2);have HT2:=Lib.hid (HT.out.trans ht2);clear h2 ht2 HN2 HC
    go_wp2_with fail
    exact⟨⟨i,j-i,by omega,by omega,by omega,by omega,rfl,by go_num,HP2,HT2⟩,by simp[intOf];omega⟩
end Go.Proofs.YtjhbeecmdgglgaaGreatDoor
namespace Go.Proofs.YtjhbeecmdgglgaaGreatDoor
theorem ltT_le {T:Int→Int}{x y:Int}(h:ltT T x y):T x≤T y:=by unfold ltT at h;omega
theorem last_take {l:List Int}{i:Nat}(h0:0<i)(h:i≤l.length):(l.take i).getLast?=l[i-1]?:=by
 rw[List.getLast?_eq_getElem?,List.length_take,Nat.min_eq_left h,List.getElem?_take_of_lt (by omega)]
theorem insR_idx {T:Int→Int}{M:List Int}{x:Int}{s:Nat}(h:Srt T M)(hf:Fore M [x])(hs:s≤M.length)(h1:s=0∨ ∃y,M[s-1]?=some y∧T y≤T x)(h2:s=M.length∨ ∃y,M[s]?=some y∧T x<T y):Srt T (M.take s++x::M.drop s):=by
 refine insert_srt (by rwa[List.take_append_drop]) (by rwa[List.take_append_drop]) ?_ ?_
 ·by_cases h0:s=0
  ·subst h0;exact .inl rfl
  ·rcases h1 with h1|⟨y,hy,h1⟩
   ·exact absurd h1 h0
   ·exact .inr ⟨y,by rw[last_take (by omega) hs];exact hy,h1⟩
 ·intro z hz
  rcases h2 with h2|⟨y,hy,h2⟩
  ·subst h2;rw[List.drop_length]at hz;cases hz
  ·rw[List.drop_eq_getElem_cons (List.getElem?_eq_some_iff.1 hy).1]at hz
   have e:M[s]'((List.getElem?_eq_some_iff.1 hy).1)=y:=(List.getElem?_eq_some_iff.1 hy).2;have hd:Srt T (M.drop s):=h.sublist (List.drop_sublist _ _);rw[List.drop_eq_getElem_cons (List.getElem?_eq_some_iff.1 hy).1,e]at hd;rw[e]at hz;rcases List.mem_cons.1 hz with rfl|hz
   ·exact h2
   ·have:=ltT_le ((List.pairwise_cons.1 hd).1 z hz);omega
theorem insL_idx {T:Int→Int}{R:List Int}{x:Int}{i:Nat}(h:Srt T R)(hf:Fore [x] R)(hs:i≤R.length)(h1:i=0∨ ∃y,R[i-1]?=some y∧T y<T x)(h2:i=R.length∨ ∃y,R[i]?=some y∧T x≤T y):Srt T (R.take i++x::R.drop i):=by
 have hS:=h;rw[←List.take_append_drop i R]at hS;have hS:=List.pairwise_append.1 hS
 have hx2: ∀z∈R.drop i,ltT T x z:=by
  intro z hz;have hlt:x<z:=hf x (by simp) z (List.mem_of_mem_drop hz);rcases h2 with h2|⟨y,hy,h2⟩
  ·subst h2;rw[List.drop_length]at hz;cases hz
  ·have hd:=hS.2.1
   have e:R[i]'((List.getElem?_eq_some_iff.1 hy).1)=y:=(List.getElem?_eq_some_iff.1 hy).2;rw[List.drop_eq_getElem_cons (List.getElem?_eq_some_iff.1 hy).1,e]at hz hd;rcases List.mem_cons.1 hz with rfl|hz
   ·unfold ltT;omega
   ·have:=ltT_le ((List.pairwise_cons.1 hd).1 z hz);unfold ltT;omega
 have hx1: ∀z∈R.take i,ltT T z x:=by
  intro z hz;by_cases h0:i=0
  ·subst h0;simp at hz
  ·rcases h1 with h1|⟨y,hy,h1⟩
   ·exact absurd h1 h0
   ·obtain⟨l',hl'⟩:=lastSplit (l:=R.take i) (x:=y) (by rw[last_take (by omega) hs];exact hy)
    have h3:=hS.1;rw[hl']at hz h3;rcases srt_last h3 hz with rfl|h4
    ·exact .inl h1
    ·have:=ltT_le h4;exact .inl (by omega)
 refine List.pairwise_append.2 ⟨hS.1,List.pairwise_cons.2 ⟨hx2,hS.2.1⟩,fun u hu v hv=> ?_⟩;rcases List.mem_cons.1 hv with rfl|hv
 ·exact hx1 u hu
 ·exact hS.2.2 u hu v hv
theorem ins_perm {M:List Int}{x:Int}{s:Nat}:(M.take s++x::M.drop s).Perm (x::M):=by
 have h:=List.perm_middle (a:=x) (l₁:=M.take s) (l₂:=M.drop s);rwa[List.take_append_drop]at h
theorem at_fst (A B:List Int)(u v:Int):(A++u::v::B)[A.length]?=some u:=by
 rw[List.getElem?_append_right (Nat.le_refl _),Nat.sub_self];rfl
theorem at_snd (A B:List Int)(u v:Int):(A++u::v::B)[A.length+1]?=some v:=by
 rw[List.getElem?_append_right (by omega),show A.length+1-A.length=1 by omega];rfl
theorem set_adj (A B:List Int)(u v:Int):((A++u::v::B).set A.length v).set (A.length+1) u=A++v::u::B:=by
 rw[List.set_append_right _ _ (Nat.le_refl _),Nat.sub_self,List.set_append_right _ _ (by omega),show A.length+1-A.length=1 by omega];rfl
theorem set_adj2 (A B:List Int)(u v:Int):((A++u::v::B).set (A.length+1) u).set A.length v=A++v::u::B:=by
 rw[List.set_append_right _ _ (by omega),show A.length+1-A.length=1 by omega,List.set_append_right _ _ (Nat.le_refl _),Nat.sub_self];rfl
theorem sym_parts {T:Int→Int}{L R:List Int}{s e:Nat}(hL:Srt T L)(hR:Srt T R)(hf:Fore L R)(hs:s≤L.length)(he:e≤R.length)
 (h1:s=0∨e=R.length∨ ∃x y,L[s-1]?=some x∧R[e]?=some y∧T x≤T y)
 (h2:e=0∨s=L.length∨ ∃x y,L[s]?=some x∧R[e-1]?=some y∧T y<T x)
 {M1 M2:List Int} (m1:M1.Perm (L.take s++R.take e)) (s1:Srt T M1) (m2:M2.Perm (L.drop s++R.drop e)) (s2:Srt T M2):(M1++M2).Perm (L++R)∧Srt T (M1++M2):=by
 have h:=merge_parts (T:=T) (L1:=L.take s) (L2:=L.drop s) (R1:=R.take e) (R2:=R.drop e) (M1:=M1) (M2:=M2) (by rwa[List.take_append_drop]) (by rwa[List.take_append_drop]) (by rwa[List.take_append_drop,List.take_append_drop]) ?_ ?_ m1 s1 m2 s2
 ·rwa[List.take_append_drop,List.take_append_drop]at h
 ·rcases h1 with h1|h1|⟨x,y,hx,hy,h1⟩
  ·subst h1;exact .inl rfl
  ·subst h1;exact .inr (.inl (List.drop_length))
  ·by_cases h0:s=0
   ·subst h0;exact .inl rfl
   ·exact .inr (.inr ⟨x,y,by rw[last_take (by omega) hs];exact hx,by rw[List.head?_drop];exact hy,h1⟩)
 ·rcases h2 with h2|h2|⟨x,y,hx,hy,h2⟩
  ·subst h2;exact .inl rfl
  ·subst h2;exact .inr (.inl (List.drop_length))
  ·by_cases h0:e=0
   ·subst h0;exact .inl rfl
   ·exact .inr (.inr ⟨x,y,by rw[List.head?_drop];exact hx,by rw[last_take (by omega) he];exact hy,h2⟩)
theorem Fore.takes {L R:List Int}(h:Fore L R)(s e:Nat):Fore (L.take s) (R.take e):=fun x hx y hy=>h x (List.mem_of_mem_take hx) y (List.mem_of_mem_take hy)
theorem Fore.drops {L R:List Int}(h:Fore L R)(s e:Nat):Fore (L.drop s) (R.drop e):=fun x hx y hy=>h x (List.mem_of_mem_drop hx) y (List.mem_of_mem_drop hy)
theorem srt_take {T:Int→Int}{L:List Int}(h:Srt T L)(s:Nat):Srt T (L.take s):=h.sublist (List.take_sublist _ _)
theorem srt_drop {T:Int→Int}{L:List Int}(h:Srt T L)(s:Nat):Srt T (L.drop s):=h.sublist (List.drop_sublist _ _)
theorem Bk.cut2 {T:Int→Int}{bs:Nat}{l:List Int}(h:Bk T bs l)(hb:0<bs)(hl:2*bs≤l.length):
 ∃X Y Z,l=X++Y++Z∧X.length=bs∧Y.length=bs∧Srt T X∧Srt T Y∧Fore X Y∧Fore (X++Y) Z∧Bk T bs Z:=by
 obtain⟨h1,h2,h3⟩:=h.cut (by omega) hb;obtain⟨h4,h5,h6⟩:=h3.cut (by rw[List.length_drop];omega) hb;refine⟨l.take bs,(l.drop bs).take bs,(l.drop bs).drop bs,by rw[List.append_assoc,List.take_append_drop,List.take_append_drop],by rw[List.length_take];omega,by rw[List.length_take,List.length_drop];omega,h1,h4,?_,?_,h6⟩
 ·exact fun x hx y hy=>h2 x hx y (List.mem_of_mem_take hy)
 ·intro x hx y hy
  rcases List.mem_append.1 hx with hx|hx
  ·exact h2 x hx y (List.mem_of_mem_drop hy)
  ·exact h5 x hx y hy
theorem Bk.cut1 {T:Int→Int}{bs:Nat}{l:List Int}(h:Bk T bs l)(hb:0<bs)(h1:bs<l.length)(h2:l.length<2*bs):
 ∃X Y,l=X++Y∧X.length=bs∧0<Y.length∧Srt T X∧Srt T Y∧Fore X Y:=by
 obtain⟨h3,h4,h5⟩:=h.cut (by omega) hb;refine⟨l.take bs,l.drop bs,(List.take_append_drop _ _).symm,by rw[List.length_take];omega,by rw[List.length_drop];omega,h3,h5.srt (by rw[List.length_drop];omega) hb,h4⟩
end Go.Proofs.YtjhbeecmdgglgaaGreatDoor
