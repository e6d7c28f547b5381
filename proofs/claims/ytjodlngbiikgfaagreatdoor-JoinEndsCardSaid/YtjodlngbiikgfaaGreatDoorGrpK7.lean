/-Plain law of joins: partners by their times; old versions taken away one by one, or all at once. The contracts of times.Meets, times.Until and their r -/
import Derived.Test.YtjodlngbiikgfaaGreatDoorGrpK6
import Derived.Test.YtjodlngbiikgfaaGreatDoorGrpK5
import Derived.Test.YtjodlngbiikgfaaGreatDoorGrpK1
import Derived.Lib.Walk
import Derived.Lib.SliceRun
import Derived.Lib.AppendZerosOnto
import Derived.Maps.OwnOps
import Derived.Maps.Views
set_option linter.unusedSimpArgs false
set_option linter.unusedVariables false
namespace Go.Proofs.YtjodlngbiikgfaaGreatDoor
open Go.Lib (compareBytes)
open tm (winF)
theorem keep_flat (k:En→Bool)(l:List En):l.flatMap (keepF k)=l.filter k:=by
 induction l with
 |nil=>rfl
 |cons a t ih=>
  rw[List.flatMap_cons,ih];unfold keepF;cases h:k a
  ·rw[if_neg (by simp),List.nil_append,List.filter_cons_of_neg (by simp[h])]
  ·rw[if_pos rfl,List.filter_cons_of_pos h];rfl
theorem sift_keep (b:Bu)(k:En→Bool):siftB b (keepF k)=⟨b.limit,b.mem.filter k,(b.runs.map fun l=>l.filter k).filter fun l=> !l.isEmpty⟩:=by
 unfold siftB;simp only[keep_flat]
theorem filter_twice (k m:En→Bool)(L:List (List En)):(((L.map fun l=>l.filter k).filter fun l=> !l.isEmpty).map fun l=>l.filter m).filter (fun l=> !l.isEmpty)=(L.map fun l=>l.filter fun e=>k e&&m e).filter fun l=> !l.isEmpty:=by
 induction L with
 |nil=>rfl
 |cons a t ih=>
  have e1:(a.filter k).filter m=a.filter fun e=>k e&&m e:=by
   rw[List.filter_filter]
   congr 1
   funext e
   exact Bool.and_comm _ _
  simp only[List.map_cons];by_cases h:(a.filter k)=[]
  ·rw[h,List.filter_cons_of_neg (by simp)]
   have e2:(a.filter fun e=>k e&&m e)=[]:=by rw[←e1,h];rfl
   rw[e2,List.filter_cons_of_neg (by simp)];exact ih
  ·rw[List.filter_cons_of_pos (by simpa using h),List.map_cons,e1]
   by_cases h2:(a.filter fun e=>k e&&m e)=[]
   ·rw[h2,List.filter_cons_of_neg (by simp),List.filter_cons_of_neg (by simp)]
    exact ih
   ·rw[List.filter_cons_of_pos (by simpa using h2),List.filter_cons_of_pos (by simpa using h2),ih]
theorem sift_twice (b:Bu)(k m:En→Bool):siftB (siftB b (keepF k)) (keepF m)=siftB b (keepF fun e=>k e&&m e):=by
 rw[sift_keep,sift_keep,sift_keep];simp only[filter_twice,List.filter_filter]
 congr 1
 congr 1
 funext e
 exact Bool.and_comm _ _
theorem sift_same {b:Bu}{k m:En→Bool}(h: ∀e∈b.all,k e=m e):siftB b (keepF k)=siftB b (keepF m):=by
 have hp: ∀l∈b.parts,l.filter k=l.filter m:=fun l hl=>List.filter_congr fun e he=>h e (List.mem_flatten.2 ⟨l,hl,he⟩);rw[sift_keep,sift_keep,hp b.mem (by simp[Bu.parts])]
 congr 1
 congr 1
 exact List.map_congr_left fun l hl=>hp l (by simp[Bu.parts,hl])
theorem sift_none {b:Bu}(h: ∀l∈b.runs,l≠[]):siftB b (keepF fun _=>true)=b:=by
 rw[show(keepF fun _=>true)=fun e=>[e]from by funext e;exact if_pos rfl];exact siftB_id h
theorem take_keep (b:Bu)(key:List UInt8)(t s:Int):takeB b key t s=siftB b (keepF fun e=> !atE key t s e):=by
 unfold takeB
 congr 1
 funext e
 unfold keepF;cases h:atE key t s e<;>simp[h]
def oldAt (l:List En) (low:Int) (i:Nat):Bool:=match l[i]?,l[i+1]? with
 |some a,some b=>(b.key==a.key)&&decide (b.t≤low)
 |_,_=>false
def takeOld (l:List En) (low:Int):Nat→Bu→Bu
 |0,b=>b
 |n+1,b=>match l[n]? with
  |some a=>if oldAt l low n=true then takeB (takeOld l low n b) a.key a.t a.s else takeOld l low n b
  |none=>takeOld l low n b
def goneOf (l:List En) (low:Int) (n:Nat) (e:En):Bool:=(List.range n).any fun i=>oldAt l low i&&match l[i]? with
 |some a=>atE a.key a.t a.s e
 |none=>false
theorem goneOf_succ (l:List En)(low:Int)(n:Nat)(e:En):goneOf l low (n+1) e=(goneOf l low n e||(oldAt l low n&&match l[n]? with
 |some a=>atE a.key a.t a.s e
 |none=>false)):=by
 unfold goneOf;rw[List.range_succ,List.any_append];simp
theorem takeOld_eq {b:Bu}(hf: ∀l∈b.runs,l≠[])(l:List En)(low:Int): ∀n,takeOld l low n b=siftB b (keepF fun e=> !goneOf l low n e)
 |0=>by
  rw[show(fun e=> !goneOf l low 0 e)=fun _=>true from by funext e;rfl,sift_none hf];rfl
 |n+1=>by
  have ih:=takeOld_eq hf l low n;unfold takeOld;cases hx:l[n]? with
  |none=>
   simp only;rw[ih];refine sift_same fun e _=> ?_;rw[goneOf_succ,hx];simp
  |some a=>
   simp only;by_cases ho:oldAt l low n=true
   ·rw[if_pos ho,take_keep,ih,sift_twice]
    refine sift_same fun e _=> ?_;rw[goneOf_succ,hx,ho];simp
   ·rw[if_neg ho,ih]
    refine sift_same fun e _=> ?_;rw[goneOf_succ,hx,show oldAt l low n=false by simpa using ho];simp
def oldE (l:List En) (low:Int) (e:En):Bool:=l.any fun x=>decide (e.t≤low)&&(x.key==e.key)&&decide (x.t≤low)&&decide (0<cmpE x e)
theorem up_next {l:List En}(hU:Up l){i j:Nat}{a b c:En}(ha:l[i]?=some a)(hb:l[i+1]?=some b)(hc:l[j]?=some c)(h:cmpE a c<0):b=c∨cmpE b c<0:=by
 obtain⟨h1,e1⟩:=List.getElem?_eq_some_iff.1 ha;obtain⟨h2,e2⟩:=List.getElem?_eq_some_iff.1 hb;obtain⟨h3,e3⟩:=List.getElem?_eq_some_iff.1 hc;have hp:=List.pairwise_iff_getElem.1 hU;rcases Nat.lt_trichotomy (i+1) j with h4|h4|h4
 ·have:=hp (i+1) j h2 h3 h4
  rw[e2,e3]at this;exact .inr this
 ·subst h4
  rw[e2]at e3;exact .inl e3
 ·exfalso
  rcases Nat.lt_or_ge j i with h5|h5
  ·have:=hp j i h3 h1 h5
   rw[e3,e1,cmpE_flip a c]at this;omega
  ·obtain rfl:j=i:=by omega
   rw[e1]at e3;subst e3;have:cmpE a a=0:=cmpE_zero.2 ⟨rfl,rfl,rfl⟩;omega
theorem gone_old {l:List En}(hU:Up l){low:Int}{e:En}(he:e∈l):goneOf l low l.length e=oldE l low e:=by
 rw[Bool.eq_iff_iff];unfold goneOf oldE;rw[List.any_eq_true,List.any_eq_true];constructor
 ·rintro⟨i,hi,h⟩
  rw[List.mem_range]at hi;have ha:=List.getElem?_eq_getElem hi;rw[ha]at h;simp only[Bool.and_eq_true]at h;obtain⟨h1,h2⟩:=h;unfold oldAt at h1;rw[ha]at h1;cases hb:l[i+1]? with
  |none=>rw[hb]at h1;simp at h1
  |some b=>
   rw[hb]at h1;simp only[Bool.and_eq_true,beq_iff_eq,decide_eq_true_eq]at h1;rw[atE_iff l[i].met l[i].r,decide_eq_true_eq]at h2
   have hlt:cmpE l[i] b<0:=by
    obtain⟨h3,e3⟩:=List.getElem?_eq_some_iff.1 hb;have:=List.pairwise_iff_getElem.1 hU i (i+1) hi h3 (by omega);rwa[e3]at this
   obtain⟨k1,k2,k3⟩:=cmpE_zero.1 h2;have hlt2:cmpE e b<0:=by rw[cmpE_same h2];exact hlt
   refine⟨b,List.mem_of_getElem? hb,?_⟩;have k1':e.key=l[i].key:=k1
   have hle:e.t≤b.t:=by
    rcases cmpE_neg.1 hlt2 with h5|⟨-,h5|⟨h5,-⟩⟩
    ·rw[k1',←h1.1,show compareBytes b.key b.key=0 from cbE_zero.2 rfl]at h5
     omega
    ·omega
    ·omega
   simp only[Bool.and_eq_true,beq_iff_eq,decide_eq_true_eq];refine⟨⟨⟨by omega,h1.1.trans k1'.symm⟩,h1.2⟩,?_⟩;rw[cmpE_flip e b];omega
 ·rintro⟨x,hx,h⟩
  simp only[Bool.and_eq_true,beq_iff_eq,decide_eq_true_eq]at h;obtain⟨⟨⟨h1,h2⟩,h3⟩,h4⟩:=h;obtain⟨i,hi,e1⟩:=List.getElem_of_mem he;obtain⟨j,hj,e2⟩:=List.getElem_of_mem hx;have hp:=List.pairwise_iff_getElem.1 hU
  have hij:i<j:=by
   rcases Nat.lt_trichotomy i j with h5|h5|h5
   ·exact h5
   ·subst h5
    rw[e1]at e2;subst e2;rw[show cmpE e e=0 from cmpE_zero.2 ⟨rfl,rfl,rfl⟩]at h4;omega
   ·have:=hp j i hj hi h5
    rw[e1,e2]at this;omega
  have ha:l[i]?=some e:=by rw[←e1];exact List.getElem?_eq_getElem hi
  have hc:l[j]?=some x:=by rw[←e2];exact List.getElem?_eq_getElem hj
  have hi1:i+1<l.length:=by omega
  have hb:=List.getElem?_eq_getElem hi1;generalize l[i+1]=b at hb;have hex:cmpE e x<0:=by rw[cmpE_flip x e];omega
  have heb:cmpE e b<0:=by
   obtain⟨h3',e3⟩:=List.getElem?_eq_some_iff.1 hb;have:=hp i (i+1) hi h3' (by omega);rwa[e1,e3]at this
  have hbx:=up_next hU ha hb hc hex
  have hkb:b.key=e.key∧b.t≤low:=by
   rcases hbx with rfl|hbx
   ·exact⟨h2,h3⟩
   ·have k1:=cmpE_neg.1 heb
    have k2:=cmpE_neg.1 hbx
    have hkey:b.key=e.key:=by
     rcases k1 with k1|⟨k1,-⟩
     ·rcases k2 with k2|⟨k2,-⟩
      ·have h5:=cb_trans k1 k2
       rw[h2,show compareBytes e.key e.key=0 from cbE_zero.2 rfl]at h5;omega
      ·rw[k2,h2,show compareBytes e.key e.key=0 from cbE_zero.2 rfl]at k1
       omega
     ·exact k1.symm
    refine⟨hkey,?_⟩;rcases k2 with k2|⟨-,k2|⟨k2,-⟩⟩
    ·rw[hkey,h2,show compareBytes e.key e.key=0 from cbE_zero.2 rfl]at k2
     omega
    ·omega
    ·omega
  refine⟨i,List.mem_range.2 hi,?_⟩;unfold oldAt;rw[ha,hb];simp only[Bool.and_eq_true,beq_iff_eq,decide_eq_true_eq];refine⟨hkb,?_⟩;rw[atE_iff e.met e.r];exact decide_eq_true (cmpE_zero.2 ⟨rfl,rfl,rfl⟩)
theorem takeOld_all {b:Bu}(hg:GoodB b)(low:Int):takeOld (sortE b.all) low (sortE b.all).length b=siftB b (keepF fun e=> !oldE (sortE b.all) low e):=by
 rw[takeOld_eq hg.full];refine sift_same fun e he=> ?_;rw[gone_old (sortE_up _) ((sortE_perm hg.alone).symm.subset he)]
end Go.Proofs.YtjodlngbiikgfaaGreatDoor
namespace Go.Proofs.YtjodlngbiikgfaaGreatDoor.tm
open Go.RowKit
def meetsF (l r low high:Int):Bool×Int:=
 if fitsB l&&fitsB r&&fitsB low&&fitsB high then(if high<low then(false,1)else(decide (l+low≤r)&&decide (r≤l+high),0))else(false,3)
theorem meets_l {l r low high:Int}(h:fitsB l=false):meetsF l r low high=(false,3):=by simp[meetsF,h]
theorem meets_r {l r low high:Int}(h:fitsB r=false):meetsF l r low high=(false,3):=by simp[meetsF,h]
theorem meets_low {l r low high:Int}(h:fitsB low=false):meetsF l r low high=(false,3):=by simp[meetsF,h]
theorem meets_high {l r low high:Int}(h:fitsB high=false):meetsF l r low high=(false,3):=by simp[meetsF,h]
theorem meets_form {l r low high:Int}(h1:fitsB l=true)(h2:fitsB r=true)(h3:fitsB low=true)(h4:fitsB high=true)(h:high<low):meetsF l r low high=(false,1):=by simp[meetsF,h1,h2,h3,h4,h]
theorem meets_ok {l r low high:Int}(h1:fitsB l=true)(h2:fitsB r=true)(h3:fitsB low=true)(h4:fitsB high=true)(h:low≤high):meetsF l r low high=(decide (l+low≤r)&&decide (r≤l+high),0):=by
 simp[meetsF,h1,h2,h3,h4];omega
set_option maxHeartbeats 1000000 in
set_option maxRecDepth 100000 in
theorem meets_any (l r low high:Int)(w:World):
 Calls Tryz.prog 165 #[.int .i64 l,.int .i64 r,.int .i64 low,.int .i64 high] w fun e w'=>e= .returned (.tuple #[.bool (meetsF l r low high).1,.int .i64 (meetsF l r low high).2])∧w=w':=by
 have i0: ∀w:World,(Instr.index 261 (.agg #[.int .i64 l,.int .i64 r,.int .i64 low,.int .i64 high]) (.int .i64 0)).run Tryz.prog w= .ok (.int .i64 l) w:=fun _=>by kernel_rfl
 have i1: ∀w:World,(Instr.index 261 (.agg #[.int .i64 l,.int .i64 r,.int .i64 low,.int .i64 high]) (.int .i64 1)).run Tryz.prog w= .ok (.int .i64 r) w:=fun _=>by kernel_rfl
 have i2: ∀w:World,(Instr.index 261 (.agg #[.int .i64 l,.int .i64 r,.int .i64 low,.int .i64 high]) (.int .i64 2)).run Tryz.prog w= .ok (.int .i64 low) w:=fun _=>by kernel_rfl
 have i3: ∀w:World,(Instr.index 261 (.agg #[.int .i64 l,.int .i64 r,.int .i64 low,.int .i64 high]) (.int .i64 3)).run Tryz.prog w= .ok (.int .i64 high) w:=fun _=>by kernel_rfl
 go_enter Tryz.func165,Tryz.ntmps165
 go_wp2
 go_loop [11,17] (fun _ i=> ∃k:Nat,k≤4∧i= .int .i64 k∧Hid ((0<k→fitsB l=true)∧(1<k→fitsB r=true)∧(2<k→fitsB low=true)∧(3<k→fitsB high=true))) (fun _ i=>4-(intOf i).toNat)
 case atStart=>exact⟨0,by omega,rfl,⟨fun h=>absurd h (by omega),fun h=>absurd h (by omega),fun h=>absurd h (by omega),fun h=>absurd h (by omega)⟩⟩
 case round=>
  obtain⟨k,hk,rfl,H⟩:=hrel;have hk5:k=0∨k=1∨k=2∨k=3∨k=4:=by omega
  rcases hk5 with rfl|rfl|rfl|rfl|rfl
  ·cases hf:fitsB l
   ·go_wp2_with (go_at_call 44;refine(fits_any _ _).mono ?_;rintro e w' ⟨rfl,rfl⟩)
    go_ret2
    exact⟨by rw[meets_l hf];rfl,rfl⟩
   ·go_wp2_with (go_at_call 44;refine(fits_any _ _).mono ?_;rintro e w' ⟨rfl,rfl⟩)
    go_round
    case rel=>exact⟨1,by omega,rfl,⟨fun _=>(by first|exact hf|trivial),fun h=>absurd h (by omega),fun h=>absurd h (by omega),fun h=>absurd h (by omega)⟩⟩
    case measure=>simp[intOf]
  ·cases hf:fitsB r
   ·go_wp2_with (go_at_call 44;refine(fits_any _ _).mono ?_;rintro e w' ⟨rfl,rfl⟩)
    go_ret2
    exact⟨by rw[meets_r hf];rfl,rfl⟩
   ·go_wp2_with (go_at_call 44;refine(fits_any _ _).mono ?_;rintro e w' ⟨rfl,rfl⟩)
    go_round
    case rel=>exact⟨2,by omega,rfl,⟨fun _=>H.out.1 (by omega),fun _=>(by first|exact hf|trivial),fun h=>absurd h (by omega),fun h=>absurd h (by omega)⟩⟩
    case measure=>simp[intOf]
  ·cases hf:fitsB low
   ·go_wp2_with (go_at_call 44;refine(fits_any _ _).mono ?_;rintro e w' ⟨rfl,rfl⟩)
    go_ret2
    exact⟨by rw[meets_low hf];rfl,rfl⟩
   ·go_wp2_with (go_at_call 44;refine(fits_any _ _).mono ?_;rintro e w' ⟨rfl,rfl⟩)
    go_round
    case rel=>exact⟨3,by omega,rfl,⟨fun _=>H.out.1 (by omega),fun _=>H.out.2.1 (by omega),fun _=>(by first|exact hf|trivial),fun h=>absurd h (by omega)⟩⟩
    case measure=>simp[intOf]
  ·cases hf:fitsB high
   ·go_wp2_with (go_at_call 44;refine(fits_any _ _).mono ?_;rintro e w' ⟨rfl,rfl⟩)
    go_ret2
    exact⟨by rw[meets_high hf];rfl,rfl⟩
   ·go_wp2_with (go_at_call 44;refine(fits_any _ _).mono ?_;rintro e w' ⟨rfl,rfl⟩)
    go_round
    case rel=>exact⟨4,by omega,rfl,⟨fun _=>H.out.1 (by omega),fun _=>H.out.2.1 (by omega),fun _=>H.out.2.2.1 (by omega),fun _=>(by first|exact hf|trivial)⟩⟩
    case measure=>simp[intOf]
  ·have f1:=H.out.1 (by omega)
   have f2:=H.out.2.1 (by omega);have f3:=H.out.2.2.1 (by omega);have f4:=H.out.2.2.2 (by omega);have b1:=fits_of f1;have b2:=fits_of f2;have b3:=fits_of f3;have b4:=fits_of f4;have F1:=Lib.hid f1;have F2:=Lib.hid f2;have F3:=Lib.hid f3;have F4:=Lib.hid f4;clear f1 f2 f3 f4 H i0 i1 i2 i3;by_cases hc:high<low
   ·go_wp2
    go_ret2
    exact⟨by rw[meets_form F1.out F2.out F3.out F4.out hc];rfl,rfl⟩
   ·by_cases hd:l+low≤r
    ·go_wp2
     go_ret2
     exact⟨by rw[meets_ok F1.out F2.out F3.out F4.out (by omega)];simp[hd],rfl⟩
    ·go_wp2
     go_ret2
     exact⟨by rw[meets_ok F1.out F2.out F3.out F4.out (by omega)];simp;omega,rfl⟩
def untilF (mark span:Int):Int:=if mark=1099511627776 then 1099511627776 else mark-span
set_option maxHeartbeats 400000 in
theorem until_yes (mark span:Int)(w:World)(h1:fitsB mark=true)(h2:fitsB span=true):
 Calls Tryz.prog 110 #[.int .i64 mark,.int .i64 span] w fun e w'=>e= .returned (.tuple #[.int .i64 (untilF mark span),.int .i64 0])∧w=w':=by
 have b1:=fits_of h1;have b2:=fits_of h2;by_cases hm:mark=1099511627776
 ·subst hm
  go_enter Tryz.func110,Tryz.ntmps110
  go_wp2_with fail
  refine(fits_any _ _).mono ?_;rintro e w' ⟨rfl,rfl⟩
  go_wp2_with fail
  refine(fits_any _ _).mono ?_;rintro e w' ⟨rfl,rfl⟩;go_wp2
  go_ret2
  exact⟨rfl,rfl⟩
 ·have e1:Hid (untilF mark span=mark-span):=by simp[untilF,hm,Hid]
  have hm':mark<1099511627776:=by omega
  clear hm;go_enter Tryz.func110,Tryz.ntmps110
  go_wp2_with fail
  refine(fits_any _ _).mono ?_;rintro e w' ⟨rfl,rfl⟩
  go_wp2_with fail
  refine(fits_any _ _).mono ?_;rintro e w' ⟨rfl,rfl⟩;go_wp2
  go_ret2
  exact⟨by rw[e1.out];rfl,rfl⟩
set_option maxHeartbeats 400000 in
theorem runtil_any (mark span:Int)(w:World)(h1:fitsB mark=true)(h2:fitsB span=true):
 Calls Tryz.prog 149 #[.int .i64 mark,.int .i64 span] w fun e w'=>e= .returned (.int .i64 (untilF mark span))∧w=w':=by
 have b1:=fits_of h1;have b2:=fits_of h2;clear h1 h2;by_cases hm:mark=1099511627776
 ·subst hm
  go_enter Tryz.func149,Tryz.ntmps149
  go_wp2;go_ret;exact⟨rfl,rfl⟩
 ·have e1:Hid (untilF mark span=mark-span):=by simp[untilF,hm,Hid]
  have hm':mark<1099511627776:=by omega
  clear hm;go_enter Tryz.func149,Tryz.ntmps149
  go_wp2;go_ret;exact⟨by rw[e1.out];rfl,rfl⟩
end Go.Proofs.YtjodlngbiikgfaaGreatDoor.tm
namespace Go.Proofs.YtjodlngbiikgfaaGreatDoor
open Go.RowKit
open tm (fitsB)
structure Pl where
 kind:Int
 mode:Int
 low:Int
 high:Int
 size:Int
 limit:Int
 vl:Value
 vr:Value
 vk:Value
 vq:Value
 grouped:Bool
 vg:Value
 va:Value
 left:List Int
 right:List Int
 lkeys:List Int
 rkeys:List Int
 group:List Int
 aggs:List (Int×Int)
def aggCell (a:Int×Int):List Value:=[.int .i64 a.1,.int .i64 a.2]
def aggCells (l:List (Int×Int)):List Value:=l.flatMap aggCell
theorem aggCell_len (a:Int×Int):(aggCell a).length=2:=rfl
structure Pl.ok (w:World) (p:Pl):Prop where
 l:Sl w p.vl p.left.length (intCells p.left)
 r:Sl w p.vr p.right.length (intCells p.right)
 k:Sl w p.vk p.lkeys.length (intCells p.lkeys)
 q:Sl w p.vq p.rkeys.length (intCells p.rkeys)
 g:Sl w p.vg p.group.length (intCells p.group)
 a:Sl w p.va p.aggs.length (aggCells p.aggs)
theorem Pl.ok.below {w w':World}{p:Pl}(h:p.ok w)(hb:Below w.heap.size w w'):p.ok w':=⟨h.l.below hb,h.r.below hb,h.k.below hb,h.q.below hb,h.g.below hb,h.a.below hb⟩
theorem Pl.ok.drew {w:World}{p:Pl}(h:p.ok w):p.ok w.drew:=⟨h.l,h.r,h.k,h.q,h.g,h.a⟩
theorem Pl.ok.alloc {w:World}{p:Pl}(h:p.ok w)(o:Obj):p.ok (w.alloc o):=h.below (below_alloc w o)
theorem agg_at {w:World}{l:List (Int×Int)}{v:Value}(h:Sl w v l.length (aggCells l)){A:Option Addr}{n c:Nat}(hv:v= .slice A n c){k:Nat}{x:Int×Int}(hk:l[k]?=some x):
 ∃b off,A=some ⟨b,off,none⟩∧b<w.heap.size∧ ∀w',Below w.heap.size w w'→
  w'.cell? ⟨b,off+k*2,none⟩=some (.int .i64 x.1)∧w'.cell? ⟨b,off+k*2+1,none⟩=some (.int .i64 x.2):=by
 obtain⟨A',c',hv',h1,h2,-,h3⟩:=h;rw[hv]at hv';injection hv' with e1 e2 e3;subst e1;have a1:=flat_at aggCell_len l k 0 (by omega);have a2:=flat_at aggCell_len l k 1 (by omega);rw[hk]at a1 a2;simp only[Option.bind_some,Nat.add_zero]at a1 a2;obtain⟨b,off,hA,hc⟩:=h3 (by intro h0;rw[show l.flatMap aggCell=aggCells l from rfl,h0]at a1;simp[aggCell]at a1);have c1:=hc _ _ a1;have c2:=hc _ _ a2;exact⟨b,off,hA,World.block_lt_of_cell? w _ c1,fun w' hb=>⟨cell_below hb c1,cell_below hb c2⟩⟩
def btw (n lo hi:Int):Bool:=decide (lo≤n∧n≤hi)
theorem btw_yes {n lo hi:Int}(h1:lo≤n)(h2:n≤hi):btw n lo hi=true:=by simp[btw,h1,h2]
theorem btw_of {n lo hi:Int}(h:btw n lo hi=true):lo≤n∧n≤hi:=by simpa[btw]using h
theorem btw_no {n lo hi:Int}(h:n<lo∨hi<n):btw n lo hi=false:=by simp[btw];omega
set_option maxHeartbeats 400000 in
set_option maxRecDepth 10000 in
theorem between_any (n lo hi:Int)(w:World):Calls Tryz.prog 126 #[.int .i64 n,.int .i64 lo,.int .i64 hi] w fun e w'=>e= .returned (.bool (btw n lo hi))∧w=w':=by
 by_cases h1:lo≤n
 ·by_cases h2:n≤hi
  ·have e1:=Lib.hid (btw_yes h1 h2)
   go_enter Tryz.func126,Tryz.ntmps126
   go_wp2;go_ret;exact⟨ret_bool (by rw[e1.out]),rfl⟩
  ·have e1:=Lib.hid (btw_no (n:=n) (lo:=lo) (hi:=hi) (by omega))
   go_enter Tryz.func126,Tryz.ntmps126
   go_wp2;go_ret;exact⟨ret_bool (by rw[e1.out]),rfl⟩
 ·have e1:=Lib.hid (btw_no (n:=n) (lo:=lo) (hi:=hi) (by omega))
  go_enter Tryz.func126,Tryz.ntmps126
  go_wp2;go_ret;exact⟨ret_bool (by rw[e1.out]),rfl⟩
set_option maxHeartbeats 400000 in
set_option maxRecDepth 10000 in
theorem kindOne_any (a:Int×Int)(w:World):Calls Tryz.prog 128 #[.agg #[.int .i64 a.1,.int .i64 a.2]] w fun e w'=>e= .returned (.bool (btw a.1 1 4))∧Below w.heap.size w w':=by
 go_enter Tryz.func128,Tryz.ntmps128
 go_wp2_with (go_at_call 126;refine(between_any _ _ _ _).mono ?_;rintro e w' ⟨rfl,rfl⟩)
 go_ret;exact⟨rfl,below_alloc _ _⟩
def allB {α:Type} (f:α→Bool) (l:List α):Bool:=l.all f
theorem all_no {α:Type}{f:α→Bool}{l:List α}{k:Nat}{x:α}(h:l[k]?=some x)(hx:f x=false):allB f l=false:=by
 unfold allB;rw[List.all_eq_false];exact⟨x,List.mem_of_getElem? h,by simp[hx]⟩
theorem all_yes {α:Type}{f:α→Bool}{l:List α}(h: ∀x∈l.take l.length,f x=true):allB f l=true:=by
 unfold allB;rw[List.all_eq_true];rw[List.take_length]at h;exact h
theorem all_step {α:Type}{f:α→Bool}{l:List α}{k:Nat}{x:α}(h: ∀y∈l.take k,f y=true)(hk:l[k]?=some x)(hx:f x=true): ∀y∈l.take (k+1),f y=true:=by
 rw[List.take_add_one,hk];intro y hy;rcases List.mem_append.1 hy with hy|hy
 ·exact h y hy
 ·simp at hy;rw[hy];exact hx
set_option maxHeartbeats 1000000 in
set_option maxRecDepth 10000 in
theorem allKinds_any (v:Value)(l:List (Int×Int))(w:World)(h:Sl w v l.length (aggCells l)):
 Calls Tryz.prog 127 #[v,.func (.func 128) #[] #[]] w fun e w'=>e= .returned (.bool (allB (fun a=>btw a.1 1 4) l))∧Below w.heap.size w w':=by
 have HH:=Lib.hid h;obtain⟨A,c,rfl,h1,h2,-⟩:=h;unfold maxLen at h2;go_enter Tryz.func127,Tryz.ntmps127
 go_wp2
 go_loopw[6,9] (fun _ i wr=> ∃k:Nat,k≤l.length∧i= .int .i64 k∧Hid (∀x∈l.take k,btw x.1 1 4=true)∧Below w.heap.size w wr) (fun _ i _=>l.length-(intOf i).toNat)
 case atStart=>exact⟨0,by omega,rfl,by simp[Hid],Below.refl _ _⟩
 case round=>
  obtain⟨k,hk,rfl,H,hbw⟩:=hrel;by_cases hlt:k<l.length
  ·have hx:=List.getElem?_eq_getElem (l:=l) hlt
   generalize l[k]=x at hx;obtain⟨g,off,rfl,-,hc⟩:=agg_at HH.out rfl hx;obtain⟨c1,c2⟩:=hc _ hbw;have HX:=Lib.hid hx;clear hx hc;cases hq:btw x.1 1 4
   ·have e1:=Lib.hid (all_no (f:=fun a=>btw a.1 1 4) HX.out hq)
    have HQ:=Lib.hid hq;clear hq
    go_wp2_with (go_at_call 128;refine(kindOne_any x _).mono ?_;rw[HQ.out];rintro e w1 ⟨rfl,hb1⟩)
    go_ret;exact⟨ret_bool e1.out.symm,(hbw.alloc hbw.size _).trans (hb1.mono (by have:=hbw.size;simp;omega))⟩
   ·have e1:=Lib.hid (all_step (f:=fun a=>btw a.1 1 4) H.out HX.out hq)
    have HQ:=Lib.hid hq;clear hq
    go_wp2_with (go_at_call 128;refine(kindOne_any x _).mono ?_;rw[HQ.out];rintro e w1 ⟨rfl,hb1⟩)
    go_roundw
    case rel=>exact⟨k+1,by omega,by go_num,e1.out,(hbw.alloc hbw.size _).trans (hb1.mono (by have:=hbw.size;simp;omega))⟩
    case measure=>simp[intOf];omega
  ·obtain rfl:k=l.length:=by omega
   have e1:=Lib.hid (all_yes (f:=fun a:Int×Int=>btw a.1 1 4) H.out);go_wp2;go_ret;exact⟨ret_bool e1.out.symm,hbw⟩
def kindsB (p:Pl):Bool:=btw p.kind 1 3&&(btw p.mode 1 (if p.kind=3 then 2 else 4)&&(!p.grouped||allB (fun a=>btw a.1 1 4) p.aggs))
set_option maxHeartbeats 2000000 in
set_option maxRecDepth 10000 in
theorem kinds_any (p:Pl)(w:World)(h:p.ok w):
 Calls Tryz.prog 74 #[.agg #[.int .i64 p.kind,.int .i64 p.mode,.int .i64 p.low,.int .i64 p.high,.int .i64 p.size,.int .i64 p.limit,p.vl,p.vr,p.vk,p.vq,.bool p.grouped,p.vg,p.va]] w fun e w'=>e= .returned (.bool (kindsB p))∧Below w.heap.size w w':=by
 have HA:=Lib.hid (fun w' (hb:Below w.heap.size w w')=>allKinds_any p.va p.aggs w' (h.a.below hb));clear h;have hB:=below_alloc w (.cells #[.int .i64 p.kind,.int .i64 p.mode,.int .i64 p.low,.int .i64 p.high,.int .i64 p.size,.int .i64 p.limit,p.vl,p.vr,p.vk,p.vq,.bool p.grouped,p.vg,p.va] 25);obtain⟨kind,mode,low,high,size,limit,vl,vr,vk,vq,grouped,vg,va,left,right,lkeys,rkeys,group,aggs⟩:=p;simp only at HA hB⊢
 have E: ∀m:Int,(if kind=3 then 2 else 4)=m→Hid (kindsB ⟨kind,mode,low,high,size,limit,vl,vr,vk,vq,grouped,vg,va,left,right,lkeys,rkeys,group,aggs⟩=(btw kind 1 3&&(btw mode 1 m&&(!grouped||allB (fun a=>btw a.1 1 4) aggs)))):=by
  intro m hm;show kindsB _=_;rw[←hm];rfl
 have HE:=Lib.hid E;clear E;by_cases hk:kind=3
 ·have hb:=beqT hk
  have H:=Lib.hid (HE.out 2 (if_pos hk));clear hk HE;cases h1:btw kind 1 3<;>cases h2:btw mode 1 2<;>cases grouped<;>cases h3:allB (fun a:Int×Int=>btw a.1 1 4) aggs
  all_goals
   have R:=Lib.hid (H.out.trans (by rw[h1,h2,h3]));clear H;go_enter Tryz.func74,Tryz.ntmps74
   go_wp2_with (first
    |(go_at_call 126;refine(between_any _ _ _ _).mono ?_;rintro e w' ⟨rfl,rfl⟩)
    |(go_at_call 127;refine(HA.out _ hB).mono ?_;rintro e w1 ⟨rfl,hb1⟩;have hB:=below_trans hB hb1))
   go_ret;exact⟨ret_bool (by rw[R.out];rfl),hB⟩
 ·have hb:=beqF hk
  have H:=Lib.hid (HE.out 4 (if_neg hk));clear hk HE;cases h1:btw kind 1 3<;>cases h2:btw mode 1 4<;>cases grouped<;>cases h3:allB (fun a:Int×Int=>btw a.1 1 4) aggs
  all_goals
   have R:=Lib.hid (H.out.trans (by rw[h1,h2,h3]));clear H;go_enter Tryz.func74,Tryz.ntmps74
   go_wp2_with (first
    |(go_at_call 126;refine(between_any _ _ _ _).mono ?_;rintro e w' ⟨rfl,rfl⟩)
    |(go_at_call 127;refine(HA.out _ hB).mono ?_;rintro e w1 ⟨rfl,hb1⟩;have hB:=below_trans hB hb1))
   go_ret;exact⟨ret_bool (by rw[R.out];rfl),hB⟩
end Go.Proofs.YtjodlngbiikgfaaGreatDoor
namespace Go.Proofs.YtjodlngbiikgfaaGreatDoor
open Go.RowKit
open tm (fitsB fits_any)
def rangesB (p:Pl):Bool:=
 (if p.kind=1 then fitsB p.low&&(fitsB p.high&&p.size==0)else if p.kind=2 then p.low==0&&(p.high==0&&btw p.size 1 1099511627776)else p.low==0&&(p.high==0&&p.size==0))&&btw p.limit 1 64
theorem bne_of {a b:Int}{q:Bool}(h:(a==b)=q):(a != b)= !q:=by rw[bne,h]
set_option maxHeartbeats 4000000 in
set_option maxRecDepth 10000 in
theorem ranges_any (p:Pl)(w:World):
 Calls Tryz.prog 75 #[.agg #[.int .i64 p.kind,.int .i64 p.mode,.int .i64 p.low,.int .i64 p.high,.int .i64 p.size,.int .i64 p.limit,p.vl,p.vr,p.vk,p.vq,.bool p.grouped,p.vg,p.va]] w fun e w'=>e= .returned (.bool (rangesB p))∧Below w.heap.size w w':=by
 have hB:=below_alloc w (.cells #[.int .i64 p.kind,.int .i64 p.mode,.int .i64 p.low,.int .i64 p.high,.int .i64 p.size,.int .i64 p.limit,p.vl,p.vr,p.vk,p.vq,.bool p.grouped,p.vg,p.va] 25);obtain⟨kind,mode,low,high,size,limit,vl,vr,vk,vq,grouped,vg,va,left,right,lkeys,rkeys,group,aggs⟩:=p;simp only at hB⊢;by_cases hk:kind=1
 ·have hb:=beqT hk
  have H:=Lib.hid (show rangesB ⟨kind,mode,low,high,size,limit,vl,vr,vk,vq,grouped,vg,va,left,right,lkeys,rkeys,group,aggs⟩=((fitsB low&&(fitsB high&&size==0))&&btw limit 1 64)from by simp[rangesB,hk]);clear hk;cases h1:fitsB low<;>cases h2:fitsB high<;>cases h3:(size==0)<;>cases h4:btw limit 1 64
  all_goals
   have g3:=bne_of h3;simp only[Bool.not_true,Bool.not_false]at g3;have R:=Lib.hid (H.out.trans (by rw[h1,h2,h3,h4]));clear H;go_enter Tryz.func75,Tryz.ntmps75
   go_wp2_with (first
    |(go_at_call 126;refine(between_any _ _ _ _).mono ?_;rintro e w' ⟨rfl,rfl⟩)
    |(go_at_call 44;refine(fits_any _ _).mono ?_;rintro e w' ⟨rfl,rfl⟩))
   go_ret;exact⟨ret_bool (by rw[R.out];rfl),hB⟩
 ·by_cases hk2:kind=2
  ·have hb0:=beqF hk
   have hb:=beqT hk2;have H:=Lib.hid (show rangesB ⟨kind,mode,low,high,size,limit,vl,vr,vk,vq,grouped,vg,va,left,right,lkeys,rkeys,group,aggs⟩=((low==0&&(high==0&&btw size 1 1099511627776))&&btw limit 1 64)from by simp[rangesB,hk2]);clear hk hk2;cases h1:(low==0)<;>cases h2:(high==0)<;>cases h3:btw size 1 1099511627776<;>cases h4:btw limit 1 64
   all_goals
    have g1:=bne_of h1;have g2:=bne_of h2;simp only[Bool.not_true,Bool.not_false]at g1 g2;have R:=Lib.hid (H.out.trans (by rw[h1,h2,h3,h4]));clear H;go_enter Tryz.func75,Tryz.ntmps75
    go_wp2_with (first
     |(go_at_call 126;refine(between_any _ _ _ _).mono ?_;rintro e w' ⟨rfl,rfl⟩)
     |(go_at_call 44;refine(fits_any _ _).mono ?_;rintro e w' ⟨rfl,rfl⟩))
    go_ret;exact⟨ret_bool (by rw[R.out];rfl),hB⟩
  ·have hb0:=beqF hk
   have hb:=beqF hk2;have H:=Lib.hid (show rangesB ⟨kind,mode,low,high,size,limit,vl,vr,vk,vq,grouped,vg,va,left,right,lkeys,rkeys,group,aggs⟩=((low==0&&(high==0&&size==0))&&btw limit 1 64)from by simp[rangesB,hk,hk2]);clear hk hk2;cases h1:(low==0)<;>cases h2:(high==0)<;>cases h3:(size==0)<;>cases h4:btw limit 1 64
   all_goals
    have g1:=bne_of h1;have g2:=bne_of h2;have g3:=bne_of h3;simp only[Bool.not_true,Bool.not_false]at g1 g2 g3;have R:=Lib.hid (H.out.trans (by rw[h1,h2,h3,h4]));clear H;go_enter Tryz.func75,Tryz.ntmps75
    go_wp2_with (first
     |(go_at_call 126;refine(between_any _ _ _ _).mono ?_;rintro e w' ⟨rfl,rfl⟩)
     |(go_at_call 44;refine(fits_any _ _).mono ?_;rintro e w' ⟨rfl,rfl⟩))
    go_ret;exact⟨ret_bool (by rw[R.out];rfl),hB⟩
def lens (p:Pl):List Bool:=[btw p.left.length 1 4,btw p.right.length 1 4,btw p.lkeys.length 1 4,btw p.rkeys.length 1 4]
def countsB (p:Pl):Bool:=allB id (lens p)&&(if p.grouped then btw p.aggs.length 1 4&&decide ((p.group.length:Int)≤8-p.aggs.length)else(p.group.length:Int)+p.aggs.length==0)
set_option maxHeartbeats 4000000 in
set_option maxRecDepth 10000 in
theorem counts_any (p:Pl)(w:World)(h:p.ok w):
 Calls Tryz.prog 76 #[.agg #[.int .i64 p.kind,.int .i64 p.mode,.int .i64 p.low,.int .i64 p.high,.int .i64 p.size,.int .i64 p.limit,p.vl,p.vr,p.vk,p.vq,.bool p.grouped,p.vg,p.va]] w fun e w'=>e= .returned (.bool (countsB p))∧Below w.heap.size w w':=by
 obtain⟨kind,mode,low,high,size,limit,vl,vr,vk,vq,grouped,vg,va,left,right,lkeys,rkeys,group,aggs⟩:=p;obtain⟨sl,sr,sk,sq,sg,sa⟩:=h;simp only at sl sr sk sq sg sa⊢;obtain⟨A0,c0,rfl,n0,m0,-⟩:=sl;obtain⟨A1,c1,rfl,n1,m1,-⟩:=sr;obtain⟨A2,c2,rfl,n2,m2,-⟩:=sk;obtain⟨A3,c3,rfl,n3,m3,-⟩:=sq;obtain⟨A4,c4,rfl,n4,m4,-⟩:=sg;obtain⟨A5,c5,rfl,n5,m5,-⟩:=sa;unfold maxLen at m0 m1 m2 m3 m4 m5;have K1:=new_first w 25 #[.int .i64 kind,.int .i64 mode,.int .i64 low,.int .i64 high,.int .i64 size,.int .i64 limit,.slice A0 left.length c0,.slice A1 right.length c1,.slice A2 lkeys.length c2,.slice A3 rkeys.length c3,.bool grouped,.slice A4 group.length c4,.slice A5 aggs.length c5] (.cells #[.slice A0 left.length c0,.slice A1 right.length c1,.slice A2 lkeys.length c2,.slice A3 rkeys.length c3] 22);have K2:=new_second w 22 #[.slice A0 left.length c0,.slice A1 right.length c1,.slice A2 lkeys.length c2,.slice A3 rkeys.length c3] (.cells #[.int .i64 kind,.int .i64 mode,.int .i64 low,.int .i64 high,.int .i64 size,.int .i64 limit,.slice A0 left.length c0,.slice A1 right.length c1,.slice A2 lkeys.length c2,.slice A3 rkeys.length c3,.bool grouped,.slice A4 group.length c4,.slice A5 aggs.length c5] 25);have hB:=fun o1 o2=>below_trans (below_alloc w o1) (below_alloc _ o2);have HL:Hid (lens ⟨kind,mode,low,high,size,limit,.slice A0 left.length c0,.slice A1 right.length c1,.slice A2 lkeys.length c2,.slice A3 rkeys.length c3,grouped,.slice A4 group.length c4,.slice A5 aggs.length c5,left,right,lkeys,rkeys,group,aggs⟩=[btw left.length 1 4,btw right.length 1 4,btw lkeys.length 1 4,btw rkeys.length 1 4]):=Lib.hid rfl
 have HC:Hid (countsB ⟨kind,mode,low,high,size,limit,.slice A0 left.length c0,.slice A1 right.length c1,.slice A2 lkeys.length c2,.slice A3 rkeys.length c3,grouped,.slice A4 group.length c4,.slice A5 aggs.length c5,left,right,lkeys,rkeys,group,aggs⟩=
  (allB id [btw left.length 1 4,btw right.length 1 4,btw lkeys.length 1 4,btw rkeys.length 1 4]&&(if grouped then btw aggs.length 1 4&&decide ((group.length:Int)≤8-aggs.length)else(group.length:Int)+aggs.length==0))):=Lib.hid rfl
 generalize countsB ⟨kind,mode,low,high,size,limit,.slice A0 left.length c0,.slice A1 right.length c1,.slice A2 lkeys.length c2,.slice A3 rkeys.length c3,grouped,.slice A4 group.length c4,.slice A5 aggs.length c5,left,right,lkeys,rkeys,group,aggs⟩=R at HC⊢;clear HL;have z0:=K2.cell 0 _ rfl;have z1:=K2.cell 1 _ rfl;have z2:=K2.cell 2 _ rfl;have z3:=K2.cell 3 _ rfl;have ZZ:=Lib.hid (And.intro z0 (And.intro z1 (And.intro z2 z3)));have y0:=K1.cell 10 _ rfl;have y1:=K1.cell 11 _ rfl;have y2:=K1.cell 12 _ rfl;clear z0 z1 z2 z3 K1 K2;have HB:=Lib.hid hB;clear hB;obtain⟨bs,hbs⟩: ∃bs:List Bool,bs=[btw left.length 1 4,btw right.length 1 4,btw lkeys.length 1 4,btw rkeys.length 1 4]:=⟨_,rfl⟩;have HBS:=Lib.hid hbs;have HW:=Lib.hid (show(wrap64 ((group.length:Int)+aggs.length)==0)=((group.length:Int)+aggs.length==0)from by rw[Bool.eq_iff_iff];simp only[beq_iff_eq];unfold wrap64;omega);clear hbs;go_enter Tryz.func76,Tryz.ntmps76
 go_wp2
 go_loop [4,15] (fun _ i=> ∃k:Nat,k≤4∧i= .int .i64 k∧Hid (∀b∈bs.take k,id b=true)) (fun _ i=>4-(intOf i).toNat)
 case atStart=>exact⟨0,by omega,rfl,by simp[Hid]⟩
 case round=>
  obtain⟨k,hk,rfl,H⟩:=hrel;have hk4:k=0∨k=1∨k=2∨k=3∨k=4:=by omega
  rcases hk4 with rfl|rfl|rfl|rfl|rfl
  ·obtain⟨z0,z1,z2,z3⟩:=ZZ.out
   cases hq:btw left.length 1 4
   ·have E:=Lib.hid (all_no (f:=id) (l:=bs) (k:=0) (by rw[HBS.out];rfl) hq)
    clear H
    go_wp2_with (go_at_call 126;refine(between_any _ _ _ _).mono ?_;rintro e w' ⟨rfl,rfl⟩)
    go_ret;exact⟨ret_bool (by rw[HC.out,←HBS.out,E.out];rfl),HB.out _ _⟩
   ·have E:=Lib.hid (all_step (f:=id) (l:=bs) (k:=0) H.out (by rw[HBS.out];rfl) hq)
    clear H
    go_wp2_with (go_at_call 126;refine(between_any _ _ _ _).mono ?_;rintro e w' ⟨rfl,rfl⟩)
    go_round
    case rel=>exact⟨1,by omega,by go_num,E.out⟩
    case measure=>simp[intOf]
  ·obtain⟨z0,z1,z2,z3⟩:=ZZ.out
   cases hq:btw right.length 1 4
   ·have E:=Lib.hid (all_no (f:=id) (l:=bs) (k:=1) (by rw[HBS.out];rfl) hq)
    clear H
    go_wp2_with (go_at_call 126;refine(between_any _ _ _ _).mono ?_;rintro e w' ⟨rfl,rfl⟩)
    go_ret;exact⟨ret_bool (by rw[HC.out,←HBS.out,E.out];rfl),HB.out _ _⟩
   ·have E:=Lib.hid (all_step (f:=id) (l:=bs) (k:=1) H.out (by rw[HBS.out];rfl) hq)
    clear H
    go_wp2_with (go_at_call 126;refine(between_any _ _ _ _).mono ?_;rintro e w' ⟨rfl,rfl⟩)
    go_round
    case rel=>exact⟨2,by omega,by go_num,E.out⟩
    case measure=>simp[intOf]
  ·obtain⟨z0,z1,z2,z3⟩:=ZZ.out
   cases hq:btw lkeys.length 1 4
   ·have E:=Lib.hid (all_no (f:=id) (l:=bs) (k:=2) (by rw[HBS.out];rfl) hq)
    clear H
    go_wp2_with (go_at_call 126;refine(between_any _ _ _ _).mono ?_;rintro e w' ⟨rfl,rfl⟩)
    go_ret;exact⟨ret_bool (by rw[HC.out,←HBS.out,E.out];rfl),HB.out _ _⟩
   ·have E:=Lib.hid (all_step (f:=id) (l:=bs) (k:=2) H.out (by rw[HBS.out];rfl) hq)
    clear H
    go_wp2_with (go_at_call 126;refine(between_any _ _ _ _).mono ?_;rintro e w' ⟨rfl,rfl⟩)
    go_round
    case rel=>exact⟨3,by omega,by go_num,E.out⟩
    case measure=>simp[intOf]
  ·obtain⟨z0,z1,z2,z3⟩:=ZZ.out
   cases hq:btw rkeys.length 1 4
   ·have E:=Lib.hid (all_no (f:=id) (l:=bs) (k:=3) (by rw[HBS.out];rfl) hq)
    clear H
    go_wp2_with (go_at_call 126;refine(between_any _ _ _ _).mono ?_;rintro e w' ⟨rfl,rfl⟩)
    go_ret;exact⟨ret_bool (by rw[HC.out,←HBS.out,E.out];rfl),HB.out _ _⟩
   ·have E:=Lib.hid (all_step (f:=id) (l:=bs) (k:=3) H.out (by rw[HBS.out];rfl) hq)
    clear H
    go_wp2_with (go_at_call 126;refine(between_any _ _ _ _).mono ?_;rintro e w' ⟨rfl,rfl⟩)
    go_round
    case rel=>exact⟨4,by omega,by go_num,E.out⟩
    case measure=>simp[intOf]
  ·have E:=Lib.hid (all_yes (f:=id) (l:=bs) (by have:=H.out;rw[HBS.out]at this⊢;exact this))
   clear H ZZ;cases grouped
   ·cases hq:((group.length:Int)+aggs.length==0)
    all_goals
     have HQ:=Lib.hid (HC.out.trans (by rw[←HBS.out,E.out,hq]));go_wp2;go_ret;exact⟨ret_bool (by rw[HQ.out,HW.out,hq];rfl),HB.out _ _⟩
   ·cases h1:btw aggs.length 1 4
    ·have HQ:=Lib.hid (HC.out.trans (by rw[←HBS.out,E.out,h1]))
     go_wp2_with (go_at_call 126;refine(between_any _ _ _ _).mono ?_;rintro e w' ⟨rfl,rfl⟩)
     go_ret;exact⟨ret_bool (by rw[HQ.out];rfl),HB.out _ _⟩
    ·cases hq:decide ((group.length:Int)≤8-aggs.length)
     all_goals
      have HQ:=Lib.hid (HC.out.trans (by rw[←HBS.out,E.out,h1,hq]))
      go_wp2_with (go_at_call 126;refine(between_any _ _ _ _).mono ?_;rintro e w' ⟨rfl,rfl⟩)
      go_ret;exact⟨ret_bool (by rw[HQ.out];first|rfl|exact hq),HB.out _ _⟩
end Go.Proofs.YtjodlngbiikgfaaGreatDoor
namespace Go.Proofs.YtjodlngbiikgfaaGreatDoor
open Go.RowKit Go.Maps
theorem intI:EInfo Tryz.prog 3 1 8:=by
 have h:(Tryz.prog.info? 3).map (fun i=>(i.zero,i.size,i.bytes))=some (some (.int .i64 0),1,8):=by kernel_rfl
 obtain⟨i,hi,h1,h2,h3⟩:=info_parts h;exact⟨i,_,hi,h1,h2,h3,rfl,by omega⟩
set_option maxHeartbeats 4000000 in
set_option maxRecDepth 100000 in
theorem grow_nil (n:Nat)(w:World)(h1:1≤n)(hn:n≤1000):
 Calls Tryz.prog 166 #[.slice none 0 0,.int .i64 n] w fun e w'=> ∃g G,e= .returned (.slice (some ⟨g,0,none⟩) 0 G)∧w'.ownsRow w.heap.size 3 1 (.slice (some ⟨g,0,none⟩) 0 G) 0 []∧Below w.heap.size w w':=by
 have hinfo:(Tryz.prog.info? 3).map (fun i=>(i.zero,i.size,i.bytes))=some (some (.int .i64 0),1,8):=by kernel_rfl
 obtain⟨i0,hi0,hz0,hs0,hb0⟩:=info_parts hinfo
 have hold:(Builtin.firstCells i0.size 0 (.slice none 0 0)).run Tryz.prog w.drew= .ok ([]:List Value).toArray w.drew:=by
  exact run_firstCells_none w.drew i0.size 0 0 0
 have hrz: ∀ty,(Builtin.append_ #[22,3] ty #[.slice none 0 0,.int .i64 (n:Int)]).run Tryz.prog w=
  .ok (.slice (some ⟨w.heap.size,0,none⟩) (0+n) (grownCap w (0+n) 0 3)) (w.drew.alloc (.cells (([]:List Value).toArray++Builtin.zeroCells (Value.int .i64 0).cells n++Builtin.zeroCells (Value.int .i64 0).cells (grownCap w (0+n) 0 3-(0+n))) 3)):=fun ty=>by
  exact Lib.run_append_grow_zeros w 22 3 ty 3 i0 (.int .i64 0) .i64 .i64 Tryz.underlying22 Tryz.underlying3 hi0 hz0 none 0 0 [] hold n (by omega) (by omega) (by omega) (by omega)
   (by rw[hb0];omega)
   (growslice_fits (by omega) (by rw[hb0];omega))
 have hGn:0+n≤grownCap w (0+n) 0 3:=grownCap_ge w _ _ _;have hG63:=grownCap_le_maxLen w (0+n) 0 3 (by unfold maxLen;omega);rw[Nat.zero_add]at hrz hGn hG63;generalize grownCap w n 0 3=G at hrz hGn hG63;have HG:=Lib.hid hG63
 have hsz:(([]:List Value).toArray++Builtin.zeroCells (Value.int .i64 0).cells n++Builtin.zeroCells (Value.int .i64 0).cells (G-n)).size=G:=by
  simp[Builtin.zeroCells,Value.cells];omega
 generalize ([]:List Value).toArray++Builtin.zeroCells (Value.int .i64 0).cells n++Builtin.zeroCells (Value.int .i64 0).cells (G-n)=cur at hrz hsz;have HZ:=Lib.hid hsz;clear hsz hold hinfo hi0 hz0 hs0 hb0;unfold maxLen at hG63;go_enter Tryz.func166,Tryz.ntmps166
 go_wp2_with (at_builtin;refine Lib.wpList_append_run _ rfl _ _ _ _ rfl _ _ rfl rfl _ _ (hrz _) ?_)
 all_goals
  go_ret;refine⟨_,G,rfl,⟨rfl,.inr ⟨_,G,cur,rfl,Nat.le_refl _,?_,Nat.zero_le _,HG.out,by rw[HZ.out];omega,by simp⟩⟩,?_⟩
  ·exact heap_alloc_new w.drew _
  ·exact(Below.refl _ _).drew.alloc (Nat.le_refl _) _
def catTo (a b:List Int):Nat→List Int
 |0=>[]
 |1=>a
 |_=>a++b
theorem intCells_app (a b:List Int):intCells (a++b)=intCells a++intCells b:=List.map_append
theorem intCells_len (a:List Int):(intCells a).length=a.length:=List.length_map _
theorem intCells_one (a:List Int): ∀u∈intCells a,u.oneCell'=true:=by
 intro u hu;obtain⟨b,-,rfl⟩:=List.mem_map.1 hu;rfl
set_option maxHeartbeats 4000000 in
set_option maxRecDepth 10000 in
theorem concat_any (v va vb:Value)(a b:List Int)(w:World)(hv:Sl w v 2 [va,vb])(ha:Sl w va a.length (intCells a))(hb:Sl w vb b.length (intCells b))(h1:1≤a.length+b.length)(h2:a.length+b.length≤1000):
 Calls Tryz.prog 130 #[v] w fun e w'=> ∃v',e= .returned v'∧Sl w' v' (a++b).length (intCells (a++b))∧(∀k,v'.ownBlock=some k→w.heap.size≤k)∧Below w.heap.size w w':=by
 have HA:=Lib.hid ha;have HB:=Lib.hid hb;obtain⟨A,c,rfl,q1,q2,-,q3⟩:=hv;obtain⟨g,off,rfl,hc⟩:=q3 (by simp);have z0:w.cell? ⟨g,off,none⟩=some va:=hc 0 va rfl;have z1:w.cell? ⟨g,off+1,none⟩=some vb:=hc 1 vb rfl;obtain⟨A0,c0,rfl,n0,m0,-⟩:=ha;obtain⟨A1,c1,rfl,n1,m1,-⟩:=hb;have ZB:=Lib.hid (fun(W:World) (h:Below w.heap.size w W)=>And.intro (cell_below h z0) (cell_below h z1));unfold maxLen at m0 m1 q2;clear hc;go_enter Tryz.func130,Tryz.ntmps130
 go_wp2
 go_loop [3,5,11] (fun s _ i=> ∃k:Nat,k≤2∧i= .int .i64 k∧s= .int .i64 ((catTo a b k).length:Nat)) (fun _ _ i=>2-(intOf i).toNat)
 case atStart=>exact⟨0,by omega,rfl,rfl⟩
 case round=>
  obtain⟨k,hk,rfl,rfl⟩:=hrel;have hk3:k=0∨k=1∨k=2:=by omega
  rcases hk3 with rfl|rfl|rfl
  ·have e:((catTo a b 0).length:Int)=0:=rfl
   rw[e];clear e;go_wp2
   go_round
   case rel=>exact⟨1,by omega,by go_num,by simp[catTo]⟩
   case measure=>simp[intOf]
  ·have e:(catTo a b 1).length=a.length:=rfl
   rw[e];go_wp2
   go_round
   case rel=>exact⟨2,by omega,by go_num,by simp[catTo]⟩
   case measure=>simp[intOf]
  ·have e:(catTo a b 2).length=a.length+b.length:=by simp[catTo]
   rw[e];clear e;generalize hn:a.length+b.length=n at h1 h2;have HN:=Lib.hid hn;clear hn
   go_wp2_with fail
   refine(grow_nil n _ h1 h2).mono ?_;rintro e w1 ⟨g1,G,rfl,hown1,hb1⟩;have HO:=Lib.hid hown1;clear hown1 z0 z1
   go_wp2_with fail
   go_loopw[6,8,27] (fun t _ i wr=> ∃(k:Nat) (u:Value),u=t∧k≤2∧i= .int .i64 k∧wr.ownsRow w.heap.size 3 1 u (catTo a b k).length (intCells (catTo a b k))∧Below w.heap.size w wr) (fun _ _ i _=>2-(intOf i).toNat)
   case atStart=>exact⟨0,_,rfl,by omega,rfl,HO.out,hb1⟩
   case round=>
    obtain⟨k,u,rfl,hk,rfl,hown,hbw⟩:=hrel;obtain⟨z0,z1⟩:=ZB.out _ hbw;obtain⟨Au,cu,hu,-⟩:=Sl.of_own hown;have hk3:k=0∨k=1∨k=2:=by omega
    rcases hk3 with rfl|rfl|rfl
    ·subst hu
     go_wp2_with (at_builtin;refine wpList_app rfl (.tmp 31) (.tmp 32) 22 rfl w.heap.size 3 1 8 Tryz.underlying22 intI _ (catTo a b 0).length _ rfl hown _ a.length (intCells a) rfl (HA.out.below hbw) (by rw[intCells_len];omega) (intCells_one a) ?_ ?_ ?_ ?_)
     ·have:=HN.out;unfold maxLen;simp[catTo];omega
     ·have:=HN.out;simp[catTo];omega
     ·exact hbw.size
     ·intro v2 w3 hown3 hg3 hat3
      have hbw3:=below_grown hbw hg3 (own_ge hown)
      have O3:Hid (w3.ownsRow w.heap.size 3 1 v2 (catTo a b 1).length (intCells (catTo a b 1))):=by
       have e:(catTo a b 0).length+a.length=(catTo a b 1).length:=by simp[catTo]
       rw[e]at hown3;exact hown3
      clear hown3 hg3 hat3 hown;go_wp2;go_roundw
      case rel=>exact⟨1,_,rfl,by omega,by go_num,O3.out,hbw3⟩
      case measure=>simp[intOf]
    ·subst hu
     go_wp2_with (at_builtin;refine wpList_app rfl (.tmp 31) (.tmp 32) 22 rfl w.heap.size 3 1 8 Tryz.underlying22 intI _ (catTo a b 1).length _ rfl hown _ b.length (intCells b) rfl (HB.out.below hbw) (by rw[intCells_len];omega) (intCells_one b) ?_ ?_ ?_ ?_)
     ·have:=HN.out;unfold maxLen;simp[catTo];omega
     ·have:=HN.out;simp[catTo];omega
     ·exact hbw.size
     ·intro v2 w3 hown3 hg3 hat3
      have hbw3:=below_grown hbw hg3 (own_ge hown)
      have O3:Hid (w3.ownsRow w.heap.size 3 1 v2 (catTo a b 2).length (intCells (catTo a b 2))):=by
       have e:(catTo a b 1).length+b.length=(catTo a b 2).length:=by simp[catTo]
       rw[e,←intCells_app]at hown3;exact hown3
      clear hown3 hg3 hat3 hown;go_wp2;go_roundw
      case rel=>exact⟨2,_,rfl,by omega,by go_num,O3.out,hbw3⟩
      case measure=>simp[intOf]
    ·have HO2:=Lib.hid hown
     clear hown hu;go_wp2;go_ret;exact⟨_,rfl,Sl.of_own HO2.out,own_ge HO2.out,hbw⟩
set_option maxHeartbeats 400000 in
set_option maxRecDepth 10000 in
theorem typeOne_any (n:Int)(w:World):Calls Tryz.prog 131 #[.int .i64 n] w fun e w'=>e= .returned (.bool (btw n 1 3))∧w=w':=by
 go_enter Tryz.func131,Tryz.ntmps131
 go_wp2_with (go_at_call 126;refine(between_any _ _ _ _).mono ?_;rintro e w' ⟨rfl,rfl⟩)
 go_ret;exact⟨rfl,rfl⟩
set_option maxHeartbeats 1000000 in
set_option maxRecDepth 10000 in
theorem allTypes_any (v:Value)(l:List Int)(w:World)(h:Sl w v l.length (intCells l)):
 Calls Tryz.prog 129 #[v,.func (.func 131) #[] #[]] w fun e w'=>e= .returned (.bool (allB (fun n=>btw n 1 3) l))∧w=w':=by
 have HH:=Lib.hid h;obtain⟨A,c,rfl,h1,h2,-⟩:=h;unfold maxLen at h2;go_enter Tryz.func129,Tryz.ntmps129
 go_wp2
 go_loop [6,9] (fun _ i=> ∃k:Nat,k≤l.length∧i= .int .i64 k∧Hid (∀x∈l.take k,btw x 1 3=true)) (fun _ i=>l.length-(intOf i).toNat)
 case atStart=>exact⟨0,by omega,rfl,by simp[Hid]⟩
 case round=>
  obtain⟨k,hk,rfl,H⟩:=hrel;by_cases hlt:k<l.length
  ·obtain⟨b,off,rfl,-,hc⟩:=int_at HH.out rfl hlt
   have c1:=hc w (Below.refl _ _);have hg:l[k]?=some (l.getD k 0):=by simp[hlt]
   generalize l.getD k 0=n at c1 hg;have HX:=Lib.hid hg;clear hg hc;cases hq:btw n 1 3
   ·have e1:=Lib.hid (all_no (f:=fun n=>btw n 1 3) HX.out hq)
    go_wp2_with (go_at_call 131;refine(typeOne_any n _).mono ?_;rintro e w1 ⟨rfl,rfl⟩)
    go_ret;exact⟨ret_bool e1.out.symm,rfl⟩
   ·have e1:=Lib.hid (all_step (f:=fun n=>btw n 1 3) H.out HX.out hq)
    go_wp2_with (go_at_call 131;refine(typeOne_any n _).mono ?_;rintro e w1 ⟨rfl,rfl⟩)
    go_round
    case rel=>exact⟨k+1,by omega,by go_num,e1.out⟩
    case measure=>simp[intOf];omega
  ·obtain rfl:k=l.length:=by omega
   have e1:=Lib.hid (all_yes (f:=fun n:Int=>btw n 1 3) H.out);go_wp2;go_ret;exact⟨ret_bool e1.out.symm,rfl⟩
end Go.Proofs.YtjodlngbiikgfaaGreatDoor
