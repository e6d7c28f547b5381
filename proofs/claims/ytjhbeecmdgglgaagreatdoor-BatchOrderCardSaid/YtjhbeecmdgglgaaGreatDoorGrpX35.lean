/-Plain law of batches: the reference's way, and what is good in joined rows. -/
import Derived.Test.YtjhbeecmdgglgaaGreatDoorGrpX28
import Derived.Test.YtjhbeecmdgglgaaGreatDoorGrpX26
set_option linter.unusedSimpArgs false
set_option linter.unusedVariables false
namespace Go.Proofs.YtjhbeecmdgglgaaGreatDoor
open tm (fitsB)
theorem up_ext: ∀ {l m:List Int},l.Pairwise (· < ·)→m.Pairwise (· < ·)→(∀x,x∈l↔x∈m)→l=m
 |[],[],_,_,_=>rfl
 |[],y::m,_,_,h=>by have:=(h y).2 (by simp);cases this
 |x::l,[],_,_,h=>by have:=(h x).1 (by simp);cases this
 |x::l,y::m,hl,hm,h=>by
  have hl':=List.pairwise_cons.1 hl;have hm':=List.pairwise_cons.1 hm
  have e:x=y:=by
   rcases List.mem_cons.1 ((h x).1 (by simp))with e|h1
   ·exact e
   ·rcases List.mem_cons.1 ((h y).2 (by simp))with e|h2
    ·exact e.symm
    ·have:=hl'.1 y h2;have:=hm'.1 x h1;omega
  subst e;rw[up_ext hl'.2 hm'.2 fun z=> ?_];constructor
  ·intro hz
   rcases List.mem_cons.1 ((h z).1 (List.mem_cons_of_mem _ hz))with e|h1
   ·have:=hl'.1 z hz;omega
   ·exact h1
  ·intro hz
   rcases List.mem_cons.1 ((h z).2 (List.mem_cons_of_mem _ hz))with e|h1
   ·have:=hm'.1 z hz;omega
   ·exact h1
theorem best_mem {R:List Cg}{t:Int}{l:List Int}{b:Int}(hu:l.Pairwise (· < ·))(h:bestI R t l=some b):b∈l:=by
 have:=best_is (R:=R) (t:=t) hu;rw[h]at this;exact this.1
theorem with_mem {p:Pl}{R:List Cg}{x:Cg}{i:Int}(h:i∈withI p R x):0≤i∧i<R.length:=by
 unfold withI at h;split at h
 ·split at h
  ·have:=idxs_mem.1 (best_mem (idxs_up _ _ _) (Option.mem_toList.1 h))
   exact⟨this.1,this.2.1⟩
  ·have:=idxs_mem.1 (List.mem_filter.1 h).1
   exact⟨this.1,this.2.1⟩
 ·cases h
theorem with_up (p:Pl)(R:List Cg)(x:Cg):(withI p R x).Pairwise (· < ·):=by
 unfold withI;split
 ·split
  ·cases bestI R x.1 (idxs p R (keyFor p 1 x.2).1)with
   |none=>exact List.Pairwise.nil
   |some b=>exact List.pairwise_singleton _ _
  ·exact(idxs_up _ _ _).filter _
 ·exact List.Pairwise.nil
def withN (p:Pl) (R:List Cg) (x:Cg) (k:Nat):List Int:=((List.range k).filter fun i=>(withI p R x).contains ((i:Nat):Int)).map fun i=>((i:Nat):Int)
theorem withN_all (p:Pl)(R:List Cg)(x:Cg):withN p R x R.length=withI p R x:=by
 refine up_ext ?_ (with_up p R x) fun i=> ?_
 ·unfold withN
  rw[List.pairwise_map];exact(List.pairwise_lt_range.filter _).imp fun h=>by omega
 ·unfold withN
  rw[List.mem_map];constructor
  ·rintro⟨n,hn,rfl⟩
   rw[List.mem_filter]at hn;simpa using hn.2
  ·intro h
   have h1:=with_mem h;refine⟨i.toNat,?_,by omega⟩;rw[List.mem_filter,List.mem_range];refine⟨by omega,?_⟩;rw[show((i.toNat:Nat):Int)=i by omega];simpa using h
theorem withN_zero (p:Pl)(R:List Cg)(x:Cg):withN p R x 0=[]:=rfl
theorem withN_step (p:Pl)(R:List Cg)(x:Cg)(k:Nat):withN p R x (k+1)=withN p R x k++if(withI p R x).contains ((k:Nat):Int)=true then[(k:Int)]else[]:=by
 unfold withN;rw[List.range_succ,List.filter_append,List.map_append]
 congr 1
 rw[List.filter_cons];split<;>rfl
theorem with_pair {p:Pl}{R:List Cg}{x:Cg}{k:Nat}(hk:p.kind≠3)(hl:k<R.length):
 (withI p R x).contains (k:Int)=((keyFor p 1 x.2).2&&((keyFor p 2 (rowAt R k)).2&&(decide ((keyFor p 1 x.2).1=(keyFor p 2 (rowAt R k)).1)&&meetT p.kind p.low p.high p.size x.1 (timeAt R k)))):=by
 rw[Bool.eq_iff_iff,List.contains_iff_mem];unfold withI;rw[if_neg hk];by_cases h1:(keyFor p 1 x.2).2=true
 ·rw[if_pos h1,List.mem_filter,idxs_mem,h1]
  unfold keyed;simp only[Bool.and_eq_true,decide_eq_true_eq,Int.toNat_natCast,Bool.true_and];constructor
  ·rintro⟨⟨-,-,h2,h3⟩,h4⟩
   exact⟨h2,h3.symm,h4⟩
  ·rintro⟨h2,h3,h4⟩
   exact⟨⟨by omega,by omega,h2,h3.symm⟩,h4⟩
 ·rw[if_neg h1]
  simp[h1]
def idxsN (p:Pl) (R:List Cg) (k:ByteArray) (n:Nat):List Int:=((List.range n).filter fun i=>keyed p 2 (rowAt R i) k).map fun i=>((i:Nat):Int)
def optI:Option Int→Int
 |some b=>b
 |none=> -1
theorem idxsN_step (p:Pl)(R:List Cg)(k:ByteArray)(n:Nat):idxsN p R k (n+1)=idxsN p R k n++if keyed p 2 (rowAt R n) k=true then[(n:Int)]else[]:=by
 unfold idxsN;rw[List.range_succ,List.filter_append,List.map_append]
 congr 1
 rw[List.filter_cons];split<;>rfl
theorem bestN_step (p:Pl)(R:List Cg)(k:ByteArray)(t:Int)(n:Nat):bestI R t (idxsN p R k (n+1))=if keyed p 2 (rowAt R n) k=true then bestStep R t (bestI R t (idxsN p R k n)) n else bestI R t (idxsN p R k n):=by
 rw[idxsN_step];unfold bestI;rw[List.foldl_append];split<;>rfl
theorem bestN_mem {p:Pl}{R:List Cg}{k:ByteArray}{t:Int}{n:Nat}{b:Int}(h:bestI R t (idxsN p R k n)=some b):0≤b∧b<n:=by
 have hu:(idxsN p R k n).Pairwise (· < ·):=by
  unfold idxsN;rw[List.pairwise_map];exact(List.pairwise_lt_range.filter _).imp fun h=>by omega
 have h1:=best_mem hu h;unfold idxsN at h1;obtain⟨i,hi,rfl⟩:=List.mem_map.1 h1;have:=List.mem_range.1 (List.mem_filter.1 hi).1;omega
def verI (p:Pl) (R:List Cg) (x:Cg):Int:=if(keyFor p 1 x.2).2=true then optI (bestI R x.1 (idxs p R (keyFor p 1 x.2).1))else-1
theorem with_version {p:Pl}{R:List Cg}{x:Cg}{k:Nat}(hk:p.kind=3):(withI p R x).contains (k:Int)=(verI p R x==(k:Int)):=by
 rw[Bool.eq_iff_iff,List.contains_iff_mem];unfold withI verI;rw[if_pos hk];by_cases h1:(keyFor p 1 x.2).2=true
 ·rw[if_pos h1,if_pos h1]
  cases h2:bestI R x.1 (idxs p R (keyFor p 1 x.2).1)with
  |none=>simp[optI]
  |some b=>
   show(k:Int)∈[b]↔(b==(k:Int))=true;rw[List.mem_singleton,beq_iff_eq];exact eq_comm
 ·rw[if_neg h1,if_neg h1]
  simp
theorem row_goodE {p:Pl}{side:Int}{r:List Val}(hz:checkP p=0)(h:rowE p side r=0)(hn: ∀x∈r,-9223372036854775808≤x.n∧x.n≤9223372036854775807):GoodR r:=by
 have hf:=rowE_fine hz h;exact⟨fun x hx=>⟨hf.good x hx,hn x hx⟩,by have:=hf.len;omega⟩
theorem nulls_good {n:Nat}(hn:n≤8):GoodR (nullsR n):=⟨fun x hx=>by
 rw[(List.mem_replicate.1 hx).2];exact⟨by unfold checkV nullV;simp[ByteArray.toList_eq],by unfold nullV;simp⟩,by unfold nullsR;rw[List.length_replicate];exact hn⟩
theorem app_good {a b:List Val}(ha:GoodR a)(hb:GoodR b)(h8:a.length+b.length≤8):GoodR (a++b):=⟨fun x hx=>(List.mem_append.1 hx).elim (ha.good x) (hb.good x),by rw[List.length_append];exact h8⟩
structure NumsB (L R:List Cg):Prop where
 l: ∀x∈L,∀y∈x.2,-9223372036854775808≤y.n∧y.n≤9223372036854775807
 r: ∀x∈R,∀y∈x.2,-9223372036854775808≤y.n∧y.n≤9223372036854775807
theorem joined_good {p:Pl}{L R:List Cg}(h:GoodB2 p L R)(hn:NumsB L R): ∀r∈joinL p L R,GoodR r:=by
 have hs:=counts_short (check_ok h.plan).2.2.1;have gl: ∀x∈L,GoodR x.2∧x.2.length≤4:=fun x hx=>⟨row_goodE h.plan (h.lr x hx) (hn.l x hx),(rowE_fine h.plan (h.lr x hx)).len⟩;have gr: ∀x∈R,GoodR x.2∧x.2.length≤4:=fun x hx=>⟨row_goodE h.plan (h.rr x hx) (hn.r x hx),(rowE_fine h.plan (h.rr x hx)).len⟩
 have ga: ∀i,i<R.length→GoodR (rowAt R i)∧(rowAt R i).length≤4:=fun i hi=>by
  have e:R.getD i zC=R[i]:=by simp[List.getD,hi]
  unfold rowAt;rw[e];exact gr _ (List.getElem_mem hi)
 have l4:=hs.l2;have r4:=hs.r2;intro r hr;unfold joinL at hr;rcases List.mem_append.1 hr with hr|hr
 ·obtain⟨x,hx,hr⟩:=List.mem_flatMap.1 hr
  obtain⟨g1,g2⟩:=gl x hx;unfold pairsOf at hr;split at hr
  ·split at hr
   ·rw[List.mem_singleton.1 hr]
    exact app_good g1 (nulls_good (by omega)) (by unfold nullsR;simp;omega)
   ·cases hr
  ·obtain⟨i,hi,rfl⟩:=List.mem_map.1 hr
   have h1:=with_mem hi;obtain⟨g3,g4⟩:=ga i.toNat (by omega);exact app_good g1 g3 (by omega)
 ·obtain⟨i,hi,hr⟩:=List.mem_flatMap.1 hr
  obtain⟨g3,g4⟩:=ga i (List.mem_range.1 hi);unfold lateOf at hr;split at hr
  ·rw[List.mem_singleton.1 hr]
   exact app_good (nulls_good (by omega)) g3 (by unfold nullsR;simp;omega)
  ·cases hr
theorem with_len (p:Pl)(R:List Cg)(x:Cg):(withI p R x).length≤R.length:=by
 rw[←withN_all];unfold withN;rw[List.length_map];exact Nat.le_trans (List.length_filter_le _ _) (by simp)
theorem pairs_len (p:Pl)(R:List Cg)(x:Cg):(pairsOf p R x).length≤R.length+1:=by
 unfold pairsOf;split
 ·split<;>simp
 ·rw[List.length_map]
  exact Nat.le_trans (with_len p R x) (by omega)
theorem flat_len_le {α β:Type}{f:α→List β}{n:Nat}(l:List α)(h: ∀x∈l,(f x).length≤n):(l.flatMap f).length≤l.length*n:=by
 induction l with
 |nil=>simp
 |cons x l ih=>
  rw[List.flatMap_cons,List.length_append,List.length_cons,Nat.add_mul];have:=h x (by simp);have:=ih fun y hy=>h y (by simp[hy]);omega
theorem joined_len {p:Pl}{L R:List Cg}(h:L.length+R.length≤120):(joinL p L R).length≤4000:=by
 unfold joinL;rw[List.length_append];have h1:=flat_len_le (f:=pairsOf p R) L fun x _=>pairs_len p R x;have h2:=flat_len_le (f:=lateOf p L R) (n:=1) (List.range R.length) fun i _=>by unfold lateOf;split<;>simp
 rw[List.length_range]at h2
 have h3:L.length*(R.length+1)≤60*60+121:=by
  generalize L.length=a at*;generalize R.length=b at*;have hb:b≤120-a:=by omega
  have:a*(b+1)≤a*(121-a):=Nat.mul_le_mul_left a (by omega);have ha:a≤120:=by omega
  have h4: ∀a:Nat,a≤120→a*(121-a)≤3721:=by decide+kernel
  exact Nat.le_trans this (h4 a ha)
 omega
end Go.Proofs.YtjhbeecmdgglgaaGreatDoor
