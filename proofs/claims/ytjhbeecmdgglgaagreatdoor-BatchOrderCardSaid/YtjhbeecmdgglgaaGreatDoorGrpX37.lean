/-Plain law of changes: what is told of a difference makes the one view of the other; changes undone make the view again; changes that are cut. Plain la -/
import Derived.Test.YtjhbeecmdgglgaaGreatDoorGrpX23
import Derived.Test.YtjhbeecmdgglgaaGreatDoorGrpX28
import Derived.Test.YtjhbeecmdgglgaaGreatDoorGrpX36
import Derived.Test.YtjhbeecmdgglgaaGreatDoorGrpX18
import Derived.Test.YtjhbeecmdgglgaaGreatDoorGrpX34
import Derived.Test.YtjhbeecmdgglgaaGreatDoorGrpX9
set_option linter.unusedSimpArgs false
set_option linter.unusedVariables false
namespace Go.Proofs.YtjhbeecmdgglgaaGreatDoor
open Go.RowKit Go.Maps
end Go.Proofs.YtjhbeecmdgglgaaGreatDoor
namespace Go.Proofs.YtjhbeecmdgglgaaGreatDoor
open Go.RowKit Go.Maps
theorem fold_app: ∀(L M:KL) (A:AV) (i:Int),(foldR A i L).2.2=0→foldR A i (L++M)=foldR (foldR A i L).1 (i+L.length) M
 |[],M,A,i,_=>by simp[foldR]
 |c::t,M,A,i,h=>by
  rw[foldR]at h;rw[List.cons_append,foldR,foldR];by_cases h0:(addR A c.2 (stepI c.1)).2=0
  ·rw[if_pos h0]at h⊢
   rw[if_pos h0,fold_app t M _ _ h,List.length_cons]
   congr 1
   simp only[Int.natCast_add];omega
  ·rw[if_neg h0]at h
   exact absurd h h0
theorem fold_head {L M:KL}{A:AV}{i:Int}(h:(foldR A i (L++M)).2.2=0):(foldR A i L).2.2=0:=by
 induction L generalizing A i with
 |nil=>rfl
 |cons c t ih=>
  rw[List.cons_append,foldR]at h;rw[foldR];by_cases h0:(addR A c.2 (stepI c.1)).2=0
  ·rw[if_pos h0]at h⊢;exact ih h
  ·rw[if_neg h0]at h;exact absurd h h0
theorem fold_place: ∀(L:KL) (A:AV) (i:Int),(foldR A i L).2.2=0→(foldR A i L).2.1=0
 |[],_,_,_=>rfl
 |c::t,A,i,h=>by
  rw[foldR]at h⊢;by_cases h0:(addR A c.2 (stepI c.1)).2=0
  ·rw[if_pos h0]at h⊢;exact fold_place t _ _ h
  ·rw[if_neg h0]at h;exact absurd h h0
theorem fold_any_place: ∀(L:KL) (A:AV) (i j:Int),(foldR A i L).2.2=0→foldR A j L=foldR A i L
 |[],_,_,_,_=>rfl
 |c::t,A,i,j,h=>by
  rw[foldR]at h;rw[foldR,foldR];by_cases h0:(addR A c.2 (stepI c.1)).2=0
  ·rw[if_pos h0]at h;rw[if_pos h0,if_pos h0];exact fold_any_place t _ _ _ h
  ·rw[if_neg h0]at h;exact absurd h h0
theorem fold_good: ∀(L:KL) (A:AV) (i:Int),GoodA A→(∀c∈L,GoodR c.2)→(foldR A i L).2.2=0→GoodA (foldR A i L).1
 |[],_,_,hA,_,_=>hA
 |c::t,A,i,hA,hg,h=>by
  rw[foldR]at h⊢;by_cases h0:(addR A c.2 (stepI c.1)).2=0
  ·rw[if_pos h0]at h⊢;exact fold_good t _ _ (hA.add (hg c (by simp)) h0) (fun d hd=>hg d (by simp[hd])) h
  ·rw[if_neg h0]at h;exact absurd h h0
def invK (k:Int):Int:=if k=1 then 2 else if k=2 then 1 else if k=3 then 4 else 3
def undoL (L:KL):KL:=(L.map fun c=>(invK c.1,c.2)).reverse
end Go.Proofs.YtjhbeecmdgglgaaGreatDoor
namespace Go.Proofs.YtjhbeecmdgglgaaGreatDoor
open Go.RowKit Go.Maps
theorem goodR_err {r:List Val}(h:GoodR r):keyErr r=0:=by
 unfold keyErr;rw[if_neg (by have:=h.few;omega)];refine firstNZ_none fun x hx=> ?_;obtain⟨v,hv,rfl⟩:=List.mem_map.1 hx;exact(h.good v hv).1
theorem GoodR.fine {r:List Val}(h:GoodR r):Fine r:=
 ⟨fun x hx=>by have:=good_size (h.good x hx).1;omega,fun x hx=>(h.good x hx).2⟩
theorem fineV_of {l:List Cnt}(h:GoodA (av l)):FineV l:=⟨fun c hc=>(h.rises.good (c.r,c.n) (List.mem_map.2 ⟨c,hc,rfl⟩)).fine,fun c hc=>by
 have:=h.nums (c.r,c.n) (List.mem_map.2 ⟨c,hc,rfl⟩);simp only at this;omega⟩
theorem chk_of {l:List Cnt}(h:GoodA (av l)):chkV l=0:=by
 have hlen:(av l).length=l.length:=by unfold av;rw[List.length_map]
 have hf:=h.few;refine chk_good (by omega) fun j hj=> ?_;rw[List.take_of_length_le (by rw[List.length_range];exact Nat.le_refl _),List.mem_range]at hj;have hx:l[j]?=some l[j]:=List.getElem?_eq_getElem hj;have hxm:(l[j].r,l[j].n)∈av l:=List.mem_map.2 ⟨l[j],List.getElem_mem hj,rfl⟩;have hn:=h.nums _ hxm;simp only at hn
 have hok:okC l[j]=true:=by
  unfold okC;rw[goodR_err (h.rises.good _ hxm),btw_yes hn.1 hn.2];rfl
 cases j with
 |zero=>rw[okAt_zero hx,hok]
 |succ k=>
  have hy:l[k]?=some l[k]:=List.getElem?_eq_getElem (by omega);rw[okAt_succ hx hy,hok,Bool.true_and];refine decide_eq_true ?_;have:=List.pairwise_iff_getElem.1 h.rises.rise k (k+1) (by omega) (by omega) (by omega);simpa[av]using this
theorem goodV_of {l:List Cnt}(h:GoodA (av l)):GoodV l:=chk_zero (fineV_of h) (chk_of h)
structure InForm (m:List Chn):Prop where
 few:m.length≤4096
 good: ∀c∈m,GoodR c.r∧1≤c.k∧c.k≤4
 next: ∀i,kAt m i=3→kAt m (i+1)=4
 prev: ∀i,kAt m i=4→ ∃j,i=j+1∧kAt m j=3
theorem inForm {m:List Chn}(hf:FineC m)(h:formC m=0):InForm m:=by
 have hg:=form_zero hf h;obtain⟨h1,h2⟩:=form_errs h
 have hc: ∀i c,m[i]?=some c→ ¬((c.k=3∧kAt m (i+1)≠4)∨(c.k=4∧(i=0∨kAt m (i-1)≠3))):=by
  intro i c hc h6;have hi:i<m.length:=(List.getElem?_eq_some_iff.1 hc).1;have hz:=err_zero hc (h2 i hi);have:=err_six hc hz.2.1 hz.2.2 hz.1 h6;rw[h2 i hi]at this;omega
 refine⟨h1,hg.good,fun i hi=> ?_,fun i hi=> ?_⟩
 ·cases hx:m[i]? with
  |none=>simp[kAt,hx]at hi
  |some c=>
   rw[kAt_some hx]at hi;exact Decidable.byContradiction fun h3=>hc i c hx (.inl ⟨hi,h3⟩)
 ·cases hx:m[i]? with
  |none=>simp[kAt,hx]at hi
  |some c=>
   rw[kAt_some hx]at hi;cases i with
   |zero=>exact absurd (.inr ⟨hi,.inl rfl⟩) (hc 0 c hx)
   |succ j=>exact⟨j,rfl,Decidable.byContradiction fun h3=>hc (j+1) c hx (.inr ⟨hi,.inr h3⟩)⟩
theorem InForm.fine {m:List Chn}(h:InForm m):FineC m:=⟨fun c hc=>(h.good c hc).1.fine,fun c hc=>by have:=(h.good c hc).2;omega⟩
theorem InForm.form {m:List Chn}(h:InForm m):formC m=0:=by
 refine form_good (by have:=h.few;omega) fun i hi=> ?_;have hx:m[i]?=some m[i]:=List.getElem?_eq_getElem hi;have hg:=h.good m[i] (List.getElem_mem hi);refine err_no hx hg.2.1 hg.2.2 (goodR_err hg.1) ?_;rintro(⟨a,b⟩|⟨a,b⟩)
 ·exact b (h.next i (by rw[kAt_some hx,a]))
 ·obtain⟨j,e,hj⟩:=h.prev i (by rw[kAt_some hx,a])
  subst e;rcases b with b|b
  ·omega
  ·exact b hj
theorem kAt_ac (m:List Chn)(i:Nat):kAt m i=match(ac m)[i]? with|some c=>c.1|none=>0:=by
 unfold kAt ac;rw[List.getElem?_map];cases m[i]?<;>rfl
theorem ac_mem {m:List Chn}{c:Chn}(h:c∈m):(c.k,c.r)∈ac m:=List.mem_map.2 ⟨c,h,rfl⟩
theorem form_tell {D:AV}{m:List Chn}(hD:Rises D)(hm:ac m=tell D)(hl:m.length≤4096):InForm m:=by
 have hall: ∀c∈tell D,GoodR c.2∧(c.1=1∨c.1=2):=by
  intro c hc;rcases List.mem_append.1 hc with hc|hc
  ·obtain⟨p,hp,hc⟩:=List.mem_flatMap.1 hc
   obtain⟨-,rfl⟩:=List.mem_replicate.1 hc;exact⟨hD.good p hp,.inr rfl⟩
  ·obtain⟨p,hp,hc⟩:=List.mem_flatMap.1 hc
   obtain⟨-,rfl⟩:=List.mem_replicate.1 hc;exact⟨hD.good p hp,.inl rfl⟩
 have hk: ∀i,kAt m i=0∨kAt m i=1∨kAt m i=2:=by
  intro i;cases hx:m[i]? with
  |none=>exact .inl (by simp[kAt,hx])
  |some c=>
   have:=hall _ (hm▸ac_mem (List.mem_of_getElem? hx));rw[kAt_some hx];exact .inr this.2
 refine⟨hl,fun c hc=> ?_,fun i hi=> ?_,fun i hi=> ?_⟩
 ·have:=hall _ (hm▸ac_mem hc)
  simp only at this;exact⟨this.1,by omega,by omega⟩
 ·have:=hk i;omega
 ·have:=hk i;omega
theorem form_undo {m m':List Chn}(h:InForm m)(e:ac m'=undoL (ac m)):InForm m':=by
 have hl:m'.length=m.length:=by have:=congrArg List.length e;simpa[ac,undoL]using this
 have hat: ∀i,i<m.length→kAt m' i=invK (kAt m (m.length-1-i))∧1≤kAt m (m.length-1-i)∧kAt m (m.length-1-i)≤4:=by
  intro i hi;have hx:m[m.length-1-i]?=some m[m.length-1-i]:=List.getElem?_eq_getElem (by omega);refine⟨?_,?_⟩
  ·rw[kAt_ac,e,kAt_some hx]
   have:(undoL (ac m))[i]?=some (invK m[m.length-1-i].k,m[m.length-1-i].r):=by
    unfold undoL ac;rw[List.getElem?_reverse (by simpa using hi)];simp only[List.length_map,List.getElem?_map,hx,Option.map_some]
   rw[this]
  ·rw[kAt_some hx];exact(h.good _ (List.getElem_mem _)).2
 have hin: ∀i k,kAt m' i=k→k≠0→i<m.length:=fun i k hk h0=>by
  refine Decidable.byContradiction fun hn=>h0 ?_;rw[←hk];exact kAt_none (by omega)
 have inv3: ∀k:Int,1≤k→k≤4→invK k=3→k=4:=by
  intro k a b c;unfold invK at c;split at c
  ·omega
  ·split at c
   ·omega
   ·split at c<;>omega
 have inv4: ∀k:Int,1≤k→k≤4→invK k=4→k=3:=by
  intro k a b c;unfold invK at c;split at c
  ·omega
  ·split at c
   ·omega
   ·split at c<;>omega
 refine⟨by have:=h.few;omega,fun c hc=> ?_,fun i hi=> ?_,fun i hi=> ?_⟩
 ·have h1:=e▸ac_mem hc
  unfold undoL at h1;rw[List.mem_reverse,List.mem_map]at h1;obtain⟨d,hd,h1⟩:=h1;injection h1 with h2 h3;obtain⟨x,hx,rfl⟩:=List.mem_map.1 hd;have:=h.good x hx;simp only at h2 h3;refine⟨h3▸this.1,?_,?_⟩<;>
  ·rw[←h2];unfold invK;repeat' split
   all_goals omega
 ·have hlt:=hin i 3 hi (by omega)
  obtain⟨a,b,c⟩:=hat i hlt;have h4:=inv3 _ b c (a▸hi);obtain⟨j,ej,hj⟩:=h.prev _ h4;obtain⟨a',-,-⟩:=hat (i+1) (by omega);rw[a',show m.length-1-(i+1)=j by omega,hj];rfl
 ·have hlt:=hin i 4 hi (by omega)
  obtain⟨a,b,c⟩:=hat i hlt;have h3:=inv4 _ b c (a▸hi);have hn:=h.next _ h3
  have hlt2:m.length-1-i+1<m.length:=by
   refine Decidable.byContradiction fun hx=> ?_;rw[kAt_none (by omega)]at hn;omega
  refine⟨i-1,by omega,?_⟩;obtain⟨a',-,-⟩:=hat (i-1) (by omega);rw[a',show m.length-1-(i-1)=m.length-1-i+1 by omega,hn];rfl
theorem form_cut {m:List Chn}{k:Nat}(h:InForm m)(hk:k≤m.length)(ht:formC (m.take k)=0):InForm (m.take k)∧InForm (m.drop k):=by
 have hft:FineC (m.take k):=⟨fun c hc=>h.fine.rows c (List.mem_of_mem_take hc),fun c hc=>h.fine.nums c (List.mem_of_mem_take hc)⟩;have hT:=inForm hft ht;have hd: ∀i,kAt (m.drop k) i=kAt m (k+i):=fun i=>by unfold kAt;rw[List.getElem?_drop]
 refine⟨hT,by rw[List.length_drop];have:=h.few;omega,fun c hc=>h.good c (List.mem_of_mem_drop hc),fun i hi=> ?_,fun i hi=> ?_⟩
 ·rw[hd]at hi⊢
  exact h.next _ hi
 ·rw[hd]at hi
  obtain⟨j,ej,hj⟩:=h.prev _ hi;cases i with
  |zero=>
   exfalso
   have h3:kAt (m.take k) j=3:=by
    unfold kAt at hj⊢;rw[List.getElem?_take_of_lt (by omega)];exact hj
   have h4:=hT.next j h3;rw[kAt_none (by rw[List.length_take];omega)]at h4;omega
  |succ i=>exact⟨i,rfl,by rw[hd,show k+i=j by omega];exact hj⟩
end Go.Proofs.YtjhbeecmdgglgaaGreatDoor
namespace Go.Proofs.YtjhbeecmdgglgaaGreatDoor
open Go.RowKit
theorem numV_good (n:Int)(h: -9223372036854775808≤n∧n≤9223372036854775807):checkV (numV n)=0:=by unfold checkV numV;simp[ByteArray.toList_eq]
theorem nullV_good:checkV nullV=0:=by unfold checkV nullV;simp[ByteArray.toList_eq]
theorem begV_good:GoodA begV:=by
 have hn: ∀n,-9223372036854775808≤n∧n≤9223372036854775807→checkV (numV n)=0:=numV_good;refine⟨by decide,⟨fun q hq=> ?_,?_⟩,fun q hq=> ?_⟩
 ·simp only[begV,List.mem_cons,List.not_mem_nil,or_false]at hq
  rcases hq with rfl|rfl
  ·refine⟨fun x hx=> ?_,by decide⟩
   simp only[List.mem_cons,List.not_mem_nil,or_false]at hx;rcases hx with rfl|rfl|rfl|rfl
   ·exact⟨nullV_good,by decide⟩
   ·exact⟨nullV_good,by decide⟩
   ·exact⟨hn 7 (by omega),by decide⟩
   ·exact⟨hn 3 (by omega),by decide⟩
  ·refine⟨fun x hx=> ?_,by decide⟩
   simp only[List.mem_cons,List.not_mem_nil,or_false]at hx;rcases hx with rfl|rfl|rfl|rfl
   ·exact⟨hn 7 (by omega),by decide⟩
   ·exact⟨hn 1 (by omega),by decide⟩
   ·exact⟨hn 7 (by omega),by decide⟩
   ·exact⟨hn 2 (by omega),by decide⟩
 ·exact List.pairwise_cons.2 ⟨fun q hq=>by rw[List.mem_singleton.1 hq];decide,List.pairwise_singleton _ _⟩
 ·simp only[begV,List.mem_cons,List.not_mem_nil,or_false]at hq
  rcases hq with rfl|rfl<;>decide
theorem beg_gerr (vl vr vk vq vg va:Value){l:List Cnt}(h:av l=begV):groupE (countedP vl vr vk vq vg va) l=0:=by
 have hg:GoodA (av l):=by rw[h];exact begV_good
 have hr:rsV l=begV.map (·.1):=by rw[←h];unfold rsV av;rw[List.map_map];rfl
 unfold groupE;rw[if_neg (fun e=>e (counted_check _ _ _ _ _ _)),if_neg (by simp[countedP]),if_neg (fun e=>e (chk_of hg)),hr];rfl
def bgL (v:Value):List Chn:=[⟨v,[numV 7,numV 1],1⟩]
def bgR (u v:Value):List Chn:=[⟨u,[numV 7,numV 2],2⟩,⟨v,[numV 7,numV 3],9⟩]
theorem bg_fine (a b:Int)(ha: -9223372036854775808≤a∧a≤9223372036854775807)(hb: -9223372036854775808≤b∧b≤9223372036854775807):Fine [numV a,numV b]:=nums_fine a b ha hb
set_option maxHeartbeats 8000000 in
set_option maxRecDepth 10000 in
theorem batchBegun_any (w:World)(hm:Mx w):Calls Tryz.prog 12 #[] w fun e w'=>e= .returned (.bool true)∧Below w.heap.size w w':=by
 have HM:=Lib.hid hm;clear hm;go_enter Tryz.func12,Tryz.ntmps12
 go_wp2_with fail
 refine(simple_any _).mono ?_;rintro e w1 ⟨pl,pr,pk,pq,rfl,hok,-,-,-,-,hb1⟩;have HOK:=Lib.hid hok;have B1:=hb1;clear hok hb1
 go_wp2_with fail
 refine(lawRow_any 7 1 _).mono ?_;rintro e w2 ⟨v2,rfl,hs2,hb2⟩;have B2:=below_trans B1 hb2;have HOK2:=Lib.hid (HOK.out.below hb2);obtain⟨A2,c2,rfl,-⟩:=id hs2;have HS2:=Lib.hid (hs2.below (below_alloc w2 (.cells #[.int .i64 1,.slice A2 2 c2] 53)));have HL2:Hid (Sl (w2.alloc (.cells #[.int .i64 1,.slice A2 2 c2] 53)) (.slice (some ⟨w2.heap.size,0,none⟩) 1 1) 1 (chnCells (bgL (.slice A2 2 c2)))):=Lib.hid (Sl.block (Blk.new w2 53 #[.int .i64 1,.slice A2 2 c2]) 1 1 (Nat.le_refl _) (by decide));have HOK3:=Lib.hid (HOK2.out.below (below_alloc w2 (.cells #[.int .i64 1,.slice A2 2 c2] 53)));have B3:=B2.alloc B2.size (.cells #[.int .i64 1,.slice A2 2 c2] 53);clear hs2 hb2 B1 B2 HOK
 go_wp2_with fail
 refine(lawRow_any 7 2 _).mono ?_;rintro e w4 ⟨v4,rfl,hs4,hb4⟩;have B4:=below_trans B3 hb4;obtain⟨A4,c4,rfl,-⟩:=id hs4;have HS4:=Lib.hid hs4;have HB4:=Lib.hid hb4;clear hs4 hb4 B3
 go_wp2_with fail
 refine(lawRow_any 7 3 _).mono ?_;rintro e w5 ⟨v5,rfl,hs5,hb5⟩;have B5:=below_trans B4 hb5;obtain⟨A5,c5,rfl,-⟩:=id hs5;have hb45:=HB4.out.trans (hb5.mono HB4.out.size);have hb5a:=hb45.alloc hb45.size (.cells #[.int .i64 2,.slice A4 2 c4,.int .i64 9,.slice A5 2 c5] 53);have HR5:Hid (Sl (w5.alloc (.cells #[.int .i64 2,.slice A4 2 c4,.int .i64 9,.slice A5 2 c5] 53)) (.slice (some ⟨w5.heap.size,0,none⟩) 2 2) 2 (chnCells (bgR (.slice A4 2 c4) (.slice A5 2 c5)))):=Lib.hid (Sl.block (Blk.new w5 53 #[.int .i64 2,.slice A4 2 c4,.int .i64 9,.slice A5 2 c5]) 2 2 (Nat.le_refl _) (by decide));have B6:=B5.alloc B5.size (.cells #[.int .i64 2,.slice A4 2 c4,.int .i64 9,.slice A5 2 c5] 53)
 have HLC:Hid (Chs (w5.alloc (.cells #[.int .i64 2,.slice A4 2 c4,.int .i64 9,.slice A5 2 c5] 53)) (.slice (some ⟨w2.heap.size,0,none⟩) 1 1) (bgL (.slice A2 2 c2))):=Lib.hid ⟨HL2.out.below hb5a,fun z hz=>by
  simp only[bgL,List.mem_singleton]at hz;subst hz;exact HS2.out.below hb5a⟩
 have HRC:Hid (Chs (w5.alloc (.cells #[.int .i64 2,.slice A4 2 c4,.int .i64 9,.slice A5 2 c5] 53)) (.slice (some ⟨w5.heap.size,0,none⟩) 2 2) (bgR (.slice A4 2 c4) (.slice A5 2 c5))):=Lib.hid ⟨HR5.out,fun z hz=>by
  simp only[bgR,List.mem_cons,List.not_mem_nil,or_false]at hz;rcases hz with rfl|rfl
  ·exact(HS4.out.below hb5).below (below_alloc _ _)
  ·exact hs5.below (below_alloc _ _)⟩
 have HJ:=Lib.hid (bjoin_any (simpleP pl pr pk pq) _ _ _ _ _ (HOK3.out.below hb5a) (simple_fit pl pr pk pq) HLC.out HRC.out (fun z hz=>by
  simp only[bgL,List.mem_singleton]at hz;subst hz;exact bg_fine 7 1 (by omega) (by omega)) (fun z hz=>by
  simp only[bgR,List.mem_cons,List.not_mem_nil,or_false]at hz;rcases hz with rfl|rfl
  ·exact bg_fine 7 2 (by omega) (by omega)
  ·exact bg_fine 7 3 (by omega) (by omega)) (HM.out.below B6))
 rw[show ac (bgL (.slice A2 2 c2))=begL from rfl,show ac (bgR (.slice A4 2 c4) (.slice A5 2 c5))=begR from rfl,beg_none,beg_join,if_pos rfl]at HJ;simp only[simpleP]at HJ;clear hs5 hb5 hb45 hb5a B4 B5 HS4 HB4 HR5 HL2 HS2 HOK2 HOK3 HLC HRC
 go_wp2_with fail
 refine Calls.mono (by with_reducible exact HJ.out) ?_;rintro e w7 ⟨v7,l7,rfl,hV7,ha7,hb7⟩;have B7:=below_trans B6 hb7;have HV7:=Lib.hid hV7;have HA7:=Lib.hid ha7;have HN7:Hid (l7.length=2):=Lib.hid (by have:=congrArg List.length ha7;unfold av at this;rw[List.length_map]at this;exact this);obtain⟨A7,c7,rfl,-⟩:=id hV7.sl;rw[HN7.out]at HV7⊢;clear hV7 ha7 hb7 B6 HJ
 go_wp2_with fail
 refine(counted_any _).mono ?_;rintro e w8 ⟨ul,ur,uk,uq,ug,ua,rfl,hok,hb8⟩;have B8:=below_trans B7 hb8;have HGR:=Lib.hid (bgroup_any (countedP ul ur uk uq ug ua) _ l7 w8 hok (counted_fit ul ur uk uq ug ua) (HV7.out.below hb8) (fineV_of (by rw[HA7.out];exact begV_good)) (HM.out.below B8));rw[beg_gerr ul ur uk uq ug ua HA7.out,if_pos rfl,HA7.out,beg_group]at HGR;simp only[countedP]at HGR;clear hok hb8 B7
 go_wp2_with fail
 refine Calls.mono (by with_reducible exact HGR.out) ?_;rintro e w9 ⟨v9,l9,rfl,hV9,ha9,hb9⟩;have B9:=below_trans B8 hb9;have HV9:=Lib.hid hV9;have HA9:=Lib.hid ha9;obtain⟨A9,c9,rfl,-⟩:=id hV9.sl;clear hV9 ha9 hb9 B8 HGR
 go_wp2_with fail
 refine(num_any 1 _).mono ?_;rintro e w10 ⟨rfl,hb10⟩;have B10:=(below_trans B9 hb10).alloc (below_trans B9 hb10).size (.cells #[.int .i64 0,.int .i64 0,.string ⟨#[]⟩,.int .i64 2,.int .i64 1,.string ⟨#[]⟩,.int .i64 0,.int .i64 0,.string ⟨#[]⟩] 68);have HV10:=Lib.hid ((HV9.out.below hb10).below (below_alloc w10 (.cells #[.int .i64 0,.int .i64 0,.string ⟨#[]⟩,.int .i64 2,.int .i64 1,.string ⟨#[]⟩,.int .i64 0,.int .i64 0,.string ⟨#[]⟩] 68)));have HX10:=Lib.hid (Sl.block (Blk.new w10 68 #[.int .i64 0,.int .i64 0,.string ⟨#[]⟩,.int .i64 2,.int .i64 1,.string ⟨#[]⟩,.int .i64 0,.int .i64 0,.string ⟨#[]⟩]) 3 3 (Nat.le_refl _) (by decide));clear hb10 B9
 go_wp2_with fail
 refine(num_any 7 _).mono ?_;rintro e w11 ⟨rfl,hb11⟩;have B11:=below_trans B10 hb11;have HV11:=Lib.hid (HV10.out.below hb11);have HX11:=Lib.hid (HX10.out.below hb11);clear hb11 B10
 go_wp2_with fail
 refine(num_any 1 _).mono ?_;rintro e w12 ⟨rfl,hb12⟩;have B12:=below_trans B11 hb12;have HV12:=Lib.hid (HV11.out.below hb12);have HX12:=Lib.hid (HX11.out.below hb12);clear hb12 B11
 go_wp2_with fail
 refine(num_any 1 _).mono ?_;rintro e w13 ⟨rfl,hb13⟩;have B13:=below_trans B12 hb13;have HX13:=Lib.hid (((HX12.out.below hb13).below (below_alloc w13 (.cells #[.int .i64 2,.int .i64 7,.string ⟨#[]⟩,.int .i64 2,.int .i64 1,.string ⟨#[]⟩,.int .i64 2,.int .i64 1,.string ⟨#[]⟩] 68))).below (below_alloc _ (.cells #[.slice (some ⟨w10.heap.size,0,none⟩) 3 3,.int .i64 1,.slice (some ⟨w13.heap.size,0,none⟩) 3 3,.int .i64 1] 45)));have HV13:=Lib.hid (((HV12.out.below hb13).below (below_alloc w13 (.cells #[.int .i64 2,.int .i64 7,.string ⟨#[]⟩,.int .i64 2,.int .i64 1,.string ⟨#[]⟩,.int .i64 2,.int .i64 1,.string ⟨#[]⟩] 68))).below (below_alloc _ (.cells #[.slice (some ⟨w10.heap.size,0,none⟩) 3 3,.int .i64 1,.slice (some ⟨w13.heap.size,0,none⟩) 3 3,.int .i64 1] 45)));have HY13:=Lib.hid ((Sl.block (Blk.new w13 68 #[.int .i64 2,.int .i64 7,.string ⟨#[]⟩,.int .i64 2,.int .i64 1,.string ⟨#[]⟩,.int .i64 2,.int .i64 1,.string ⟨#[]⟩]) 3 3 (Nat.le_refl _) (by decide)).below (below_alloc _ (.cells #[.slice (some ⟨w10.heap.size,0,none⟩) 3 3,.int .i64 1,.slice (some ⟨w13.heap.size,0,none⟩) 3 3,.int .i64 1] 45)));have HW13:=Lib.hid (Sl.block (Blk.new (w13.alloc (.cells #[.int .i64 2,.int .i64 7,.string ⟨#[]⟩,.int .i64 2,.int .i64 1,.string ⟨#[]⟩,.int .i64 2,.int .i64 1,.string ⟨#[]⟩] 68)) 45 #[.slice (some ⟨w10.heap.size,0,none⟩) 3 3,.int .i64 1,.slice (some ⟨w13.heap.size,0,none⟩) 3 3,.int .i64 1]) 2 2 (Nat.le_refl _) (by decide));have B14:=B13.alloc B13.size (.cells #[.int .i64 2,.int .i64 7,.string ⟨#[]⟩,.int .i64 2,.int .i64 1,.string ⟨#[]⟩,.int .i64 2,.int .i64 1,.string ⟨#[]⟩] 68);have B15:=B14.alloc B14.size (.cells #[.slice (some ⟨w10.heap.size,0,none⟩) 3 3,.int .i64 1,.slice (some ⟨w13.heap.size,0,none⟩) 3 3,.int .i64 1] 45);obtain⟨wz,hwz⟩: ∃V,(w13.alloc (.cells #[.int .i64 2,.int .i64 7,.string ⟨#[]⟩,.int .i64 2,.int .i64 1,.string ⟨#[]⟩,.int .i64 2,.int .i64 1,.string ⟨#[]⟩] 68)).alloc (.cells #[.slice (some ⟨w10.heap.size,0,none⟩) 3 3,.int .i64 1,.slice (some ⟨w13.heap.size,0,none⟩) 3 3,.int .i64 1] 45)=V:=⟨_,rfl⟩;rw[hwz]at HX13 HV13 HY13 HW13 B15
 have HVW:Hid (View wz (.slice (some ⟨w13.heap.size+1,0,none⟩) 2 2) [⟨.slice (some ⟨w10.heap.size,0,none⟩) 3 3,[nullV,numV 1,nullV],1⟩,⟨.slice (some ⟨w13.heap.size,0,none⟩) 3 3,[numV 7,numV 1,numV 1],1⟩]):=Lib.hid ⟨by have h:=HW13.out;rw[World.size_alloc]at h;exact h,fun z hz=>by
  simp only[List.mem_cons,List.not_mem_nil,or_false]at hz;rcases hz with rfl|rfl
  ·exact HX13.out
  ·exact HY13.out⟩
 have HSV:=Lib.hid (sameViews_any _ _ _ _ wz HV13.out HVW.out (by rw[HA9.out];rfl));clear hb13 B12 B13 B14 HX12 HV12
 go_upto_region 4 with fail
 clear hwz
 go_wp2_with fail
 refine Calls.mono (by with_reducible exact HSV.out) ?_;rintro e w16 ⟨rfl,hb16⟩;have B16:=Lib.hid (below_trans B15 hb16);go_wp2;go_ret;exact⟨rfl,B16.out⟩
end Go.Proofs.YtjhbeecmdgglgaaGreatDoor
namespace Go.Proofs.YtjhbeecmdgglgaaGreatDoor
open Go.RowKit Go.Maps
open tm (fitsB rfits_any)
def sideV (vL vR:Value) (s:Nat):Value:=if s=1 then vL else vR
def sideC (L R:List Chn) (s:Nat):List Chn:=if s=1 then L else R
structure BE (p:Pl) (L R:List Chn) (t s i:Nat):Prop where
 f1: ∀k x,L[k]?=some x→(t=0→s=1→k<i)→fitsB x.k=true
 f2: ∀k x,R[k]?=some x→(t=0→1<s∧(s=2→k<i))→fitsB x.k=true
 r1:t≠0→ ∀k x,L[k]?=some x→(t=1→s=1→k<i)→rowE p 1 x.r=0
 r2:t≠0→ ∀k x,R[k]?=some x→(t=1→1<s∧(s=2→k<i))→rowE p 2 x.r=0
theorem BE.start {p:Pl}{L R:List Chn}:BE p L R 0 1 0:=⟨fun k x _ h=>absurd (h rfl rfl) (Nat.not_lt_zero _),fun k x _ h=>absurd (h rfl).1 (by omega),fun h=>absurd rfl h,fun h=>absurd rfl h⟩
theorem BE.step {p:Pl}{L R:List Chn}{t s i:Nat}{x:Chn}(h:BE p L R t s i)(hs:s=1∨s=2)(ht:t<2)(hx:(sideC L R s)[i]?=some x)(h0:t=0→fitsB x.k=true)(h1:t=1→rowE p (s:Int) x.r=0):BE p L R t s (i+1):=by
 have hc: ∀ {k:Nat} {y:Chn} {q:Prop},k<i+1→(k<i→q)→(k=i→q)→q:=fun hk ha hb=>by
  rcases Nat.lt_or_ge _ i with h|h
  ·exact ha h
  ·exact hb (by omega)
 refine⟨fun k y hy hk=> ?_,fun k y hy hk=> ?_,fun hn k y hy hk=> ?_,fun hn k y hy hk=> ?_⟩
 ·by_cases hki:k=i
  ·by_cases ht0:t=0
   ·by_cases hs1:s=1
    ·subst hki hs1
     have:x=y:=by unfold sideC at hx;rw[if_pos rfl,hy]at hx;injection hx with hx;exact hx.symm
     rw[←this];exact h0 ht0
    ·exact h.f1 k y hy fun _ e=>absurd e hs1
   ·exact h.f1 k y hy fun e=>absurd e ht0
  ·exact h.f1 k y hy fun a b=>by have:=hk a b;omega
 ·by_cases hki:k=i
  ·by_cases ht0:t=0
   ·by_cases hs1:s=2
    ·subst hki hs1
     have:x=y:=by unfold sideC at hx;rw[if_neg (by omega),hy]at hx;injection hx with hx;exact hx.symm
     rw[←this];exact h0 ht0
    ·exact h.f2 k y hy fun e=>⟨(hk e).1,fun e2=>absurd e2 hs1⟩
   ·exact h.f2 k y hy fun e=>absurd e ht0
  ·exact h.f2 k y hy fun a=>⟨(hk a).1,fun b=>by have:=(hk a).2 b;omega⟩
 ·by_cases hki:k=i
  ·by_cases ht0:t=1
   ·by_cases hs1:s=1
    ·subst hki hs1
     have:x=y:=by unfold sideC at hx;rw[if_pos rfl,hy]at hx;injection hx with hx;exact hx.symm
     rw[←this];exact h1 ht0
    ·exact h.r1 hn k y hy fun _ e=>absurd e hs1
   ·exact h.r1 hn k y hy fun e=>absurd e ht0
  ·exact h.r1 hn k y hy fun a b=>by have:=hk a b;omega
 ·by_cases hki:k=i
  ·by_cases ht0:t=1
   ·by_cases hs1:s=2
    ·subst hki hs1
     have:x=y:=by unfold sideC at hx;rw[if_neg (by omega),hy]at hx;injection hx with hx;exact hx.symm
     rw[←this];exact h1 ht0
    ·exact h.r2 hn k y hy fun e=>⟨(hk e).1,fun e2=>absurd e2 hs1⟩
   ·exact h.r2 hn k y hy fun e=>absurd e ht0
  ·exact h.r2 hn k y hy fun a=>⟨(hk a).1,fun b=>by have:=(hk a).2 b;omega⟩
theorem BE.side {p:Pl}{L R:List Chn}{t s:Nat}(h:BE p L R t s (sideC L R s).length)(hs:s=1∨s=2):BE p L R t (s+1) 0:=by
 have hl: ∀ {l:List Chn} {k:Nat} {x:Chn},l[k]?=some x→k<l.length:=fun h=>(List.getElem?_eq_some_iff.1 h).1;refine⟨fun k y hy hk=>h.f1 k y hy fun _ e=> ?_,fun k y hy hk=>h.f2 k y hy fun e=> ?_,fun hn k y hy hk=>h.r1 hn k y hy fun _ e=> ?_,fun hn k y hy hk=>h.r2 hn k y hy fun e=> ?_⟩
 ·subst e;unfold sideC;rw[if_pos rfl];exact hl hy
 ·rcases hs with rfl|rfl
  ·have:=(hk e).2 rfl;omega
  ·exact⟨by omega,fun _=>by unfold sideC;rw[if_neg (by omega)];exact hl hy⟩
 ·subst e;unfold sideC;rw[if_pos rfl];exact hl hy
 ·rcases hs with rfl|rfl
  ·have:=(hk e).2 rfl;omega
  ·exact⟨by omega,fun _=>by unfold sideC;rw[if_neg (by omega)];exact hl hy⟩
theorem BE.turn {p:Pl}{L R:List Chn}{t:Nat}(h:BE p L R t 3 0)(ht:t<2):BE p L R (t+1) 1 0:=by
 refine⟨fun k y hy _=>h.f1 k y hy fun _ e=>absurd e (by omega),fun k y hy _=>h.f2 k y hy fun _=>⟨by omega,fun e=>absurd e (by omega)⟩,fun _ k y hy hk=> ?_,fun _ k y hy hk=> ?_⟩
 ·by_cases h0:t=0
  ·subst h0;exact absurd (hk rfl rfl) (Nat.not_lt_zero _)
  ·exact h.r1 h0 k y hy fun _ e=>absurd e (by omega)
 ·by_cases h0:t=0
  ·subst h0;have:=(hk rfl).1;omega
  ·exact h.r2 h0 k y hy fun _=>⟨by omega,fun e=>absurd e (by omega)⟩
theorem BE.fitsAll {p:Pl}{L R:List Chn}{t s i:Nat}(h:BE p L R t s i)(ht:t≠0): ∀x∈ac L++ac R,fitsB x.1=true:=by
 intro x hx;rcases List.mem_append.1 hx with hx|hx
 ·obtain⟨c,hc,rfl⟩:=List.mem_map.1 hx
  obtain⟨k,hk⟩:=List.mem_iff_getElem?.1 hc;exact h.f1 k c hk fun e=>absurd e ht
 ·obtain⟨c,hc,rfl⟩:=List.mem_map.1 hx
  obtain⟨k,hk⟩:=List.mem_iff_getElem?.1 hc;exact h.f2 k c hk fun e=>absurd e ht
theorem BE.row {p:Pl}{L R:List Chn}{s i:Nat}{x:Chn}(h:BE p L R 1 s i)(hs:s=1∨s=2)(h0:checkP p=0)(hf: ¬(120<(ac L).length∨120<(ac R).length∨120<(ac L).length+(ac R).length))(hx:(sideC L R s)[i]?=some x){e:Int}(he:rowE p (s:Int) x.r=e)(hne:e≠0):batchE p (ac L) (ac R)=e:=by
 rw[bE_rows h0 hf (h.fitsAll (by decide))];rcases hs with rfl|rfl
 ·unfold sideC at hx
  rw[if_pos rfl]at hx
  have h1:=rows_hit (q:=rowE p 1) hx (fun y hy=>by
   obtain⟨k,hk⟩:=List.mem_iff_getElem?.1 hy;have hki:k<i:=by have:=(List.getElem?_eq_some_iff.1 hk).1;rw[List.length_take]at this;omega
   rw[List.getElem?_take_of_lt hki]at hk;exact h.r1 (by decide) k y hk fun _ _=>hki) he hne
  rw[h1,if_pos hne]
 ·unfold sideC at hx
  rw[if_neg (by decide)]at hx
  have h1:=rows_hit (q:=rowE p 2) hx (fun y hy=>by
   obtain⟨k,hk⟩:=List.mem_iff_getElem?.1 hy;have hki:k<i:=by have:=(List.getElem?_eq_some_iff.1 hk).1;rw[List.length_take]at this;omega
   rw[List.getElem?_take_of_lt hki]at hk;exact h.r2 (by decide) k y hk fun _=>⟨by decide,fun _=>hki⟩) he hne
  rw[rows_zero (q:=rowE p 1) (fun y hy=>by
   obtain⟨k,hk⟩:=List.mem_iff_getElem?.1 hy;exact h.r1 (by decide) k y hk fun _ e=>absurd e (by decide)),if_neg (fun e=>e rfl),h1]
theorem BE.done {p:Pl}{L R:List Chn}(h:BE p L R 2 1 0)(h0:checkP p=0)(hf: ¬(120<(ac L).length∨120<(ac R).length∨120<(ac L).length+(ac R).length)):batchE p (ac L) (ac R)=0:=by
 rw[bE_rows h0 hf (h.fitsAll (by decide)),rows_zero (q:=rowE p 1) (fun y hy=>by
  obtain⟨k,hk⟩:=List.mem_iff_getElem?.1 hy;exact h.r1 (by decide) k y hk fun e=>absurd e (by decide)),if_neg (fun e=>e rfl),rows_zero (q:=rowE p 2) (fun y hy=>by
  obtain⟨k,hk⟩:=List.mem_iff_getElem?.1 hy;exact h.r2 (by decide) k y hk fun e=>absurd e (by decide))]
set_option maxHeartbeats 16000000 in
set_option maxRecDepth 10000 in
theorem batchError_any (p:Pl)(vL vR:Value)(L R:List Chn)(w:World)(h:p.ok w)(hL:Chs w vL L)(hR:Chs w vR R)(hfl: ∀x∈L,Fine x.r)(hfr: ∀x∈R,Fine x.r):
 Calls Tryz.prog 11 #[.agg #[.int .i64 p.kind,.int .i64 p.mode,.int .i64 p.low,.int .i64 p.high,.int .i64 p.size,.int .i64 p.limit,p.vl,p.vr,p.vk,p.vq,.bool p.grouped,p.vg,p.va],vL,vR] w fun e w'=>e= .returned (.int .i64 (batchE p (ac L) (ac R)))∧Below w.heap.size w w':=by
 have HCK:=Lib.hid (fun(W:World) (hb:Below w.heap.size w W)=>checkPlan_any p W (h.below hb))
 have HS:=Lib.hid (show ∀s,s=1∨s=2→Chs w (sideV vL vR s) (sideC L R s)∧ ∀x∈sideC L R s,Fine x.r from fun s hs=>by
  rcases hs with rfl|rfl
  ·exact⟨hL,hfl⟩
  ·exact⟨hR,hfr⟩)
 have HRW:=Lib.hid (fun(W:World) (hb:Below w.heap.size w W) (hz:checkP p=0) (s:Nat) (hs:s=1∨s=2) (x:Chn) (hx:x∈sideC L R s)=>rowError_any p s x.v x.r W (h.below hb) (counts_short (check_ok hz).2.2.1) (((HS.out s hs).1.rows x hx).below hb) ((HS.out s hs).2 x hx).small);obtain⟨E,hE⟩: ∃y,batchE p (ac L) (ac R)=y:=⟨_,rfl⟩;rw[hE];have HEE:=Lib.hid hE.symm;have lac:(ac L).length=L.length∧(ac R).length=R.length:=⟨List.length_map _,List.length_map _⟩;have HAC:=Lib.hid lac;obtain⟨A0,c0,h0,n0,m0,-⟩:=id h.l;obtain⟨A1,c1,h1,n1,m1,-⟩:=id h.r;obtain⟨A2,c2,h2,n2,m2,-⟩:=id h.k;obtain⟨A3,c3,h3,n3,m3,-⟩:=id h.q;obtain⟨A4,c4,h4,n4,m4,-⟩:=id h.g;obtain⟨A5,c5,h5,n5,m5,-⟩:=id h.a;obtain⟨AL,cL,hvL,nL,mL,-⟩:=id hL.sl;obtain⟨AR,cR,hvR,nR,mR,-⟩:=id hR.sl;subst hvL hvR;unfold maxLen at mL mR;rw[h0,h1,h2,h3,h4,h5]at HCK HRW⊢;have HB:=Lib.hid (below_alloc w (.cells #[.int .i64 p.kind,.int .i64 p.mode,.int .i64 p.low,.int .i64 p.high,.int .i64 p.size,.int .i64 p.limit,.slice A0 p.left.length c0,.slice A1 p.right.length c1,.slice A2 p.lkeys.length c2,.slice A3 p.rkeys.length c3,.bool p.grouped,.slice A4 p.group.length c4,.slice A5 p.aggs.length c5] 25));have HK0:=Lib.hid (Blk.new w 25 #[.int .i64 p.kind,.int .i64 p.mode,.int .i64 p.low,.int .i64 p.high,.int .i64 p.size,.int .i64 p.limit,.slice A0 p.left.length c0,.slice A1 p.right.length c1,.slice A2 p.lkeys.length c2,.slice A3 p.rkeys.length c3,.bool p.grouped,.slice A4 p.group.length c4,.slice A5 p.aggs.length c5]);obtain⟨W1,hW1⟩: ∃V,w.alloc (.cells #[.int .i64 p.kind,.int .i64 p.mode,.int .i64 p.low,.int .i64 p.high,.int .i64 p.size,.int .i64 p.limit,.slice A0 p.left.length c0,.slice A1 p.right.length c1,.slice A2 p.lkeys.length c2,.slice A3 p.rkeys.length c3,.bool p.grouped,.slice A4 p.group.length c4,.slice A5 p.aggs.length c5] 25)=V:=⟨_,rfl⟩;rw[hW1]at HB HK0;have hb1:=HB.out;have hyW:Below W1.heap.size W1 W1:=Below.refl _ _;obtain⟨z0,z1,z2,z3,z4,z5,z6,z7,z8,z9,z10,z11,z12⟩:=pl_cells HK0.out;obtain⟨E1,hE1⟩: ∃y,checkP p=y:=⟨_,rfl⟩;rw[hE1]at HCK;have HE1:=Lib.hid hE1;clear h h0 h1 h2 h3 h4 h5 n0 n1 n2 n3 n4 n5 m0 m1 m2 m3 m4 m5 hL hR hfl hfr hE lac hE1;go_enter Tryz.func11,Tryz.ntmps11
 go_wp2_with fail
 refine Calls.mono (by with_reducible exact HCK.out _ hb1) ?_;rintro e w2 ⟨rfl,hb2⟩;have hyr:=hb2;have hbr:=below_trans hb1 hb2;clear z0 z1 z2 z3 z4 z5 z6 z7 z8 z9 z10 z11 z12 hb2 hyW hW1;by_cases hq1:E1=0
 case neg=>
  have q1:=bneT hq1;have HE:Hid (E=E1):=Lib.hid (by rw[HEE.out];unfold batchE;rw[HE1.out,if_pos hq1]);clear hq1;go_wp2;go_ret;exact⟨by rw[HE.out];rfl,hbr⟩
 have q1:=bneF hq1;have HZ0:Hid (checkP p=0):=Lib.hid (HE1.out.trans hq1);clear hq1;by_cases g1:120<L.length
 ·have g1':(120:Int)<(L.length:Int):=by omega
  have HE:Hid (E=2):=Lib.hid (by rw[HEE.out];exact bE_many HZ0.out (.inl (by rw[HAC.out.1];exact g1)));go_wp2;go_ret;exact⟨by rw[HE.out];rfl,hbr⟩
 have g1':decide ((120:Int)<(L.length:Int))=false:=decide_eq_false (by omega);have g1n:decide (120<L.length)=false:=decide_eq_false g1;have g0:L.length≤120:=by omega
 by_cases g3:120<L.length+R.length
 ·have g3':(120:Int)-(L.length:Int)<(R.length:Int):=by omega
  have HE:Hid (E=2):=Lib.hid (by rw[HEE.out];exact bE_many HZ0.out (.inr (.inr (by rw[HAC.out.1,HAC.out.2];exact g3))));go_wp2;go_ret;exact⟨by rw[HE.out];rfl,hbr⟩
 have g3':decide ((120:Int)-(L.length:Int)<(R.length:Int))=false:=decide_eq_false (by omega);have HFEW:Hid (¬(120<(ac L).length∨120<(ac R).length∨120<(ac L).length+(ac R).length)):=Lib.hid (by rw[HAC.out.1,HAC.out.2];omega);have HLN:Hid (L.length≤120∧R.length≤120):=Lib.hid (by omega);clear g1 g3 g0
 go_wp2_with fail
 go_loopw[8,9,10,11,12] (fun tv _ _ _ _ wr=> ∃t:Nat,t≤2∧tv= .int .i64 t∧Hid (BE p L R t 1 0)∧Below W1.heap.size W1 wr) (fun tv _ _ _ _ _=>2-(intOf tv).toNat)
 case atStart=>exact⟨0,by omega,rfl,Lib.hid BE.start,hyr⟩
 case round=>
  clear g1' g1n g3' hyr hbr;rename World=>wr
  obtain⟨t,ht,rfl,HBE,hyr⟩:=hrel;by_cases hlt:t<2
  ·have t1:(t:Int)<2:=by omega
   go_wp2_with fail
   go_loopw[9,10,11,12] (fun sv _ _ _ wr=> ∃s:Nat,1≤s∧s≤3∧sv= .int .i64 s∧Hid (BE p L R t s 0)∧Below W1.heap.size W1 wr) (fun sv _ _ _ _=>3-(intOf sv).toNat)
   case atStart=>exact⟨1,by omega,by omega,rfl,HBE,hyr⟩
   case round=>
    clear HBE hyr;rename World=>wr1
    obtain⟨s,hs1,hs3,rfl,HBE,hyr⟩:=hrel;by_cases hls:s≤2
    ·have hs:s=1∨s=2:=by omega
     have HSS:=Lib.hid hs;have s1:(s:Int)≤2:=by omega
     obtain⟨vS,hvS⟩: ∃v,sideV (.slice AL L.length cL) (.slice AR R.length cR) s=v:=⟨_,rfl⟩;obtain⟨C,hC⟩: ∃v,sideC L R s=v:=⟨_,rfl⟩;have hCC:=HS.out s hs;rw[hvS,hC]at hCC;have HRS:=Lib.hid (fun(W:World) (hb:Below w.heap.size w W) (x:Chn) (hx:x∈C)=>HRW.out W hb HZ0.out s hs x (by rw[hC];exact hx));have HCH:=Lib.hid hCC.1;have HCE:=Lib.hid hC;have HVE:=Lib.hid hvS;have HBE0:Hid (BE p L R t s 0):=HBE;have hCl:C.length≤120:=by rw[←hC];unfold sideC;have:=HLN.out;split<;>omega
     clear hCC hC hvS HBE;have HLT:=Lib.hid (show t<2 by assumption);clear hlt t1
     go_upto_if 39 with fail
     go_cut[10]from 33 to 72 (fun lv wx=>lv=vS∧wx=wr1)
     case first=>
      rcases hs with rfl|rfl
      ·go_wp2
       go_meet
       exact⟨by rw[←HVE.out];rfl,rfl⟩
      ·go_wp2
       go_meet
       exact⟨by rw[←HVE.out];rfl,rfl⟩
     case rest=>
      obtain⟨rfl,hwx⟩:=hcut;rw[hwx];clear hwx wc;obtain⟨AS,cS,hv,nS,mS,-⟩:=id HCH.out.sl;subst hv;unfold maxLen at mS;clear hs
      go_wp2_with fail
      go_loopw[11,12] (fun iv _ wr2=> ∃i:Nat,i≤C.length∧iv= .int .i64 i∧Hid (BE p L R t s i)∧Below W1.heap.size W1 wr2) (fun iv _ _=>C.length-(intOf iv).toNat)
      case atStart=>exact⟨0,by omega,rfl,HBE0,hyr⟩
      case round=>
       clear HBE0 hyr;rename World=>wr2
       obtain⟨i,hi,rfl,HBE,hyr⟩:=hrel;by_cases hli:i<C.length
       ·have hbr:=below_trans HB.out hyr
        have hx:=List.getElem?_eq_getElem (l:=C) hli;generalize C[i]=x at hx;have hxm:=List.mem_of_getElem? hx;obtain⟨Ax,cx,ex,nx,mx,-⟩:=id (HCH.out.rows x hxm);obtain⟨xv,xr,xk⟩:=x;simp only at ex nx;subst ex;obtain⟨x,hxe⟩: ∃x,x=(⟨.slice Ax xr.length cx,xr,xk⟩:Chn):=⟨_,rfl⟩;have hxr:xr=x.r:=by rw[hxe]
        have hxk:xk=x.k:=by rw[hxe]
        have hxv:x.v= .slice Ax x.r.length cx:=by rw[hxe]
        rw[←hxe]at hx hxm;clear hxe;subst hxr hxk;obtain⟨bv,ov,hAv,-,hcb⟩:=chn_at HCH.out.sl rfl hx;subst hAv;obtain⟨d0,d1⟩:=hcb _ hbr;rw[hxv]at d1;have HRX:=Lib.hid (fun(W:World) (hb:Below w.heap.size w W)=>HRS.out W hb x hxm);rw[hxv]at HRX;obtain⟨EX,hEX⟩: ∃y,rowE p (s:Int) x.r=y:=⟨_,rfl⟩;rw[hEX]at HRX;have HEX:=Lib.hid hEX;have HXI:Hid ((sideC L R s)[i]?=some x):=Lib.hid (by rw[HCE.out];exact hx);have HFT:=Lib.hid (fun W=>rfits_any x.k W);obtain⟨fx,hfx⟩: ∃y,fitsB x.k=y:=⟨_,rfl⟩;rw[hfx]at HFT;have HFX:=Lib.hid hfx
        have HSSS:=Lib.hid (show ∀w',Below W1.heap.size W1 w'→w'.cell? ⟨w.heap.size,0,none⟩=some (.int .i64 p.kind)∧w'.cell? ⟨w.heap.size,1,none⟩=some (.int .i64 p.mode)∧w'.cell? ⟨w.heap.size,2,none⟩=some (.int .i64 p.low)∧w'.cell? ⟨w.heap.size,3,none⟩=some (.int .i64 p.high)∧w'.cell? ⟨w.heap.size,4,none⟩=some (.int .i64 p.size)∧w'.cell? ⟨w.heap.size,5,none⟩=some (.int .i64 p.limit)∧w'.cell? ⟨w.heap.size,6,none⟩=some (.slice A0 p.left.length c0)∧w'.cell? ⟨w.heap.size,7,none⟩=some (.slice A1 p.right.length c1)∧w'.cell? ⟨w.heap.size,8,none⟩=some (.slice A2 p.lkeys.length c2)∧w'.cell? ⟨w.heap.size,9,none⟩=some (.slice A3 p.rkeys.length c3)∧w'.cell? ⟨w.heap.size,10,none⟩=some (.bool p.grouped)∧w'.cell? ⟨w.heap.size,11,none⟩=some (.slice A4 p.group.length c4)∧w'.cell? ⟨w.heap.size,12,none⟩=some (.slice A5 p.aggs.length c5)∧w'.cell? ⟨bv,ov+i*2+1,none⟩=some (.slice Ax x.r.length cx)from fun w' hb=>by
         obtain⟨z0,z1,z2,z3,z4,z5,z6,z7,z8,z9,z10,z11,z12⟩:=pl_cells (HK0.out.below hb);have h1:=(hcb _ (below_trans HB.out hb)).2;rw[hxv]at h1;exact⟨z0,z1,z2,z3,z4,z5,z6,z7,z8,z9,z10,z11,z12,h1⟩)
        have i0:(0:Int)≤(i:Int):=by omega
        have i1:(i:Int)<(C.length:Int):=by omega
        have hyd:=hyr.drew;clear hx hxm hcb hxv hEX hfx hbr
        go_upto_region 18 with fail
        go_cut[57]from 41 to 72 (fun cv wx=> ∃Q:Bool,cv= .bool Q∧Hid (Q=((t==0)&& !fx))∧wx=wr2)
        case first=>
         have ht01:t=0∨t=1:=by have:=HLT.out;omega
         rcases ht01 with rfl|rfl
         ·go_wp2_with fail
          refine Calls.mono (by with_reducible exact HFT.out _) ?_;rintro e w6 ⟨rfl,rfl⟩;cases fx
          all_goals
           go_wp2
           go_meet
           exact⟨_,rfl,Lib.hid rfl,rfl⟩
         ·go_wp2
          go_meet
          exact⟨_,rfl,Lib.hid rfl,rfl⟩
        case rest=>
         obtain⟨Q,rfl,HQ,hwx⟩:=hcut;rw[hwx];clear hwx wc;cases Q
         ·go_upto_region 20 with fail
          go_region_held3 (fun w'=>w'.cell? ⟨w.heap.size,0,none⟩=some (.int .i64 p.kind)∧w'.cell? ⟨w.heap.size,1,none⟩=some (.int .i64 p.mode)∧w'.cell? ⟨w.heap.size,2,none⟩=some (.int .i64 p.low)∧w'.cell? ⟨w.heap.size,3,none⟩=some (.int .i64 p.high)∧w'.cell? ⟨w.heap.size,4,none⟩=some (.int .i64 p.size)∧w'.cell? ⟨w.heap.size,5,none⟩=some (.int .i64 p.limit)∧w'.cell? ⟨w.heap.size,6,none⟩=some (.slice A0 p.left.length c0)∧w'.cell? ⟨w.heap.size,7,none⟩=some (.slice A1 p.right.length c1)∧w'.cell? ⟨w.heap.size,8,none⟩=some (.slice A2 p.lkeys.length c2)∧w'.cell? ⟨w.heap.size,9,none⟩=some (.slice A3 p.rkeys.length c3)∧w'.cell? ⟨w.heap.size,10,none⟩=some (.bool p.grouped)∧w'.cell? ⟨w.heap.size,11,none⟩=some (.slice A4 p.group.length c4)∧w'.cell? ⟨w.heap.size,12,none⟩=some (.slice A5 p.aggs.length c5)∧w'.cell? ⟨bv,ov+i*2+1,none⟩=some (.slice Ax x.r.length cx))
           (first|exact HSSS.out _ hyd|exact HSSS.out _ hy6|go_keep)
           ((go_at_call 40;refine(HRX.out _ (below_trans HB.out hyd)).mono ?_;rintro e w6 ⟨rfl,hb6⟩;have hy6:=hyd.trans (hb6.mono hyd.size)))
          all_goals
           clear hyd hb6 d0 d1
           go_upto_region 21 with fail
           go_cut[71]from 41 to 72 (fun cv wx=> ∃Q2:Bool,cv= .bool Q2∧Hid (Q2=((t==1)&&(EX != 0)))∧wx=w6)
           case first=>
            have ht01:t=0∨t=1:=by have:=HLT.out;omega
            rcases ht01 with rfl|rfl
            ·go_wp2
             go_meet
             exact⟨_,rfl,Lib.hid rfl,rfl⟩
            ·cases hq:(EX != 0)
             all_goals
              have HQQ:=Lib.hid hq;go_wp2
              go_meet
              exact⟨_,rfl,Lib.hid (by rw[HQQ.out];rfl),rfl⟩
           case rest=>
            obtain⟨Q2,rfl,HQ2,hwx⟩:=hcut;rw[hwx];clear hwx wc;cases Q2
            ·have HN:=Lib.hid (HBE.out.step HSS.out HLT.out HXI.out (fun e=>by
              have h:=HQ.out;subst e;rw[HFX.out];cases fx
              ·simp at h
              ·rfl) (fun e=>by
              have h:=HQ2.out;subst e;rw[HEX.out];by_cases hz:EX=0
              ·exact hz
              ·simp[hz]at h))
             go_wp2_with fail
             go_roundw
             case rel=>exact⟨i+1,by omega,by go_num,HN,hy6⟩
             case measure=>simp[intOf];omega
            ·have HE:Hid (E=EX):=Lib.hid (by
              have h:=HQ2.out
              have ht1:t=1:=by
               by_cases h1:t=1
               ·exact h1
               ·simp[h1]at h
              have hne:EX≠0:=fun e=>by simp[e]at h
              rw[HEE.out];have hbe:=HBE.out;rw[ht1]at hbe;exact hbe.row HSS.out HZ0.out HFEW.out HXI.out HEX.out hne)
             go_wp2_with fail
             go_ret;exact⟨by rw[HE.out];rfl,below_trans HB.out hy6⟩
         ·have HE:Hid (E=3):=Lib.hid (by
           have h:=HQ.out
           have hf:fitsB x.k=false:=by
            rw[HFX.out];cases fx
            ·rfl
            ·simp at h
           rw[HEE.out];refine bE_range HZ0.out HFEW.out (x:=(x.k,x.r)) ?_ hf;have hx:=List.mem_of_getElem? HXI.out;unfold sideC at hx;split at hx
           ·exact List.mem_append_left _ (List.mem_map.2 ⟨x,hx,rfl⟩)
           ·exact List.mem_append_right _ (List.mem_map.2 ⟨x,hx,rfl⟩))
          go_wp2_with fail
          go_ret;exact⟨by rw[HE.out];rfl,below_trans HB.out hyr⟩
       ·obtain rfl:i=C.length:=by omega
        have HN:Hid (BE p L R t (s+1) 0):=Lib.hid (by
         have h:=HBE.out;rw[←HCE.out]at h;exact h.side HSS.out)
        have hss:=HSS.out
        go_wp2_with fail
        go_roundw
        case rel=>exact⟨s+1,by omega,by omega,by go_num,HN,hyr⟩
        case measure=>simp[intOf];omega
    ·obtain rfl:s=3:=by omega
     have HN:=Lib.hid (HBE.out.turn hlt)
     go_wp2_with fail
     go_roundw
     case rel=>exact⟨t+1,by omega,by go_num,HN,hyr⟩
     case measure=>simp[intOf];omega
  ·obtain rfl:t=2:=by omega
   have HE:Hid (E=0):=Lib.hid (by rw[HEE.out];exact HBE.out.done HZ0.out HFEW.out);go_wp2;go_ret;exact⟨by rw[HE.out];rfl,below_trans HB.out hyr⟩
end Go.Proofs.YtjhbeecmdgglgaaGreatDoor
