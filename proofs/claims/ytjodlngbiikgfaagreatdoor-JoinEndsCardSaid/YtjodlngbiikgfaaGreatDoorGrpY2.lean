/-Plans: what they are; within, between; kinds, ranges, counts. Plans: the reference's wrongMany, once, Types. Plans, plain law: the reference's form is -/
import Derived.Test.YtjodlngbiikgfaaGreatDoorGrpY1
import Derived.Test.YtjodlngbiikgfaaGreatDoorGrpK7
import Derived.Test.YtjodlngbiikgfaaGreatDoorGrpK1
import Derived.Test.YtjodlngbiikgfaaGreatDoorGrpK8
import Derived.Test.YtjodlngbiikgfaaGreatDoorGrpK10
import Derived.Test.YtjodlngbiikgfaaGreatDoorGrpK2
import Derived.SizedLaws
import Derived.Deep.Fields
set_option linter.unusedSimpArgs false
set_option linter.unusedVariables false
namespace Go.Proofs.YtjodlngbiikgfaaGreatDoor
open Go.RowKit
open tm (fitsB)
theorem btw_ne {n lo hi:Int}(h:btw n lo hi=false):n<lo∨hi<n:=by simp[btw]at h;omega
set_option maxHeartbeats 400000 in
set_option maxRecDepth 10000 in
theorem within_any (n lo hi:Int)(w:World):Calls Tryz.prog 34 #[.int .i64 n,.int .i64 lo,.int .i64 hi] w fun e w'=>e= .returned (.bool (btw n lo hi))∧w=w':=by
 by_cases h1:lo≤n
 ·by_cases h2:n≤hi
  ·have e1:=Lib.hid (btw_yes h1 h2)
   go_enter Tryz.func34,Tryz.ntmps34
   go_wp2;go_ret;exact⟨ret_bool (by rw[e1.out]),rfl⟩
  ·have e1:=Lib.hid (btw_no (n:=n) (lo:=lo) (hi:=hi) (by omega))
   go_enter Tryz.func34,Tryz.ntmps34
   go_wp2;go_ret;exact⟨ret_bool (by rw[e1.out]),rfl⟩
 ·have e1:=Lib.hid (btw_no (n:=n) (lo:=lo) (hi:=hi) (by omega))
  go_enter Tryz.func34,Tryz.ntmps34
  go_wp2;go_ret;exact⟨ret_bool (by rw[e1.out]),rfl⟩
end Go.Proofs.YtjodlngbiikgfaaGreatDoor
namespace Go.Proofs.YtjodlngbiikgfaaGreatDoor
open Go.RowKit Go.Maps
set_option maxHeartbeats 4000000 in
set_option maxRecDepth 10000 in
theorem wrongMany_any (p:Pl)(w:World)(h:p.ok w):
 Calls Tryz.prog 37 #[.agg #[.int .i64 p.kind,.int .i64 p.mode,.int .i64 p.low,.int .i64 p.high,.int .i64 p.size,.int .i64 p.limit,p.vl,p.vr,p.vk,p.vq,.bool p.grouped,p.vg,p.va]] w fun e w'=>e= .returned (.bool (!countsB p))∧Below w.heap.size w w':=by
 have E:Hid (countsB p=(allB id [btw p.left.length 1 4,btw p.right.length 1 4,btw p.lkeys.length 1 4,btw p.rkeys.length 1 4]&&(if p.grouped then btw p.aggs.length 1 4&&decide ((p.group.length:Int)≤8-p.aggs.length)else(p.group.length:Int)+p.aggs.length==0))):=Lib.hid rfl;generalize countsB p=R at E⊢;have hB:=below_alloc w (.cells #[.int .i64 p.kind,.int .i64 p.mode,.int .i64 p.low,.int .i64 p.high,.int .i64 p.size,.int .i64 p.limit,p.vl,p.vr,p.vk,p.vq,.bool p.grouped,p.vg,p.va] 25);obtain⟨kind,mode,low,high,size,limit,vl,vr,vk,vq,grouped,vg,va,left,right,lkeys,rkeys,group,aggs⟩:=p;obtain⟨sl,sr,sk,sq,sg,sa⟩:=h;simp only at sl sr sk sq sg sa hB E⊢;obtain⟨A0,c0,rfl,n0,m0,-⟩:=sl;obtain⟨A1,c1,rfl,n1,m1,-⟩:=sr;obtain⟨A2,c2,rfl,n2,m2,-⟩:=sk;obtain⟨A3,c3,rfl,n3,m3,-⟩:=sq;obtain⟨A4,c4,rfl,n4,m4,-⟩:=sg;obtain⟨A5,c5,rfl,n5,m5,-⟩:=sa;unfold maxLen at m0 m1 m2 m3 m4 m5;by_cases hall:btw left.length 1 4=true∧btw right.length 1 4=true∧btw lkeys.length 1 4=true∧btw rkeys.length 1 4=true
 ·obtain⟨h1,h2,h3,h4⟩:=hall
  have e:=E.out;simp only[h1,h2,h3,h4,allB,List.all_cons,List.all_nil,id,Bool.true_and,Bool.and_true]at e;have E2:=Lib.hid e;clear e E;cases grouped
  ·have e:=E2.out
   simp only[Bool.false_eq_true,if_false]at e;by_cases ha:0<aggs.length
   ·have EE:Hid (R=false):=Lib.hid (by rw[e];simp<;>omega)
    clear e E2;go_enter Tryz.func37,Tryz.ntmps37
    go_wp2_with (go_at_call 34;refine(within_any _ _ _ _).mono ?_;rintro e w' ⟨rfl,rfl⟩)
    go_ret;exact⟨ret_bool (by rw[EE.out];rfl),hB⟩
   ·by_cases hg:0<group.length
    ·have EE:Hid (R=false):=Lib.hid (by rw[e];simp<;>omega)
     clear e E2;go_enter Tryz.func37,Tryz.ntmps37
     go_wp2_with (go_at_call 34;refine(within_any _ _ _ _).mono ?_;rintro e w' ⟨rfl,rfl⟩)
     go_ret;exact⟨ret_bool (by rw[EE.out];simp<;>omega),hB⟩
    ·have EE:Hid (R=true):=Lib.hid (by rw[e];simp<;>omega)
     clear e E2;go_enter Tryz.func37,Tryz.ntmps37
     go_wp2_with (go_at_call 34;refine(within_any _ _ _ _).mono ?_;rintro e w' ⟨rfl,rfl⟩)
     go_ret;exact⟨ret_bool (by rw[EE.out];simp<;>omega),hB⟩
  ·have e:=E2.out
   simp only[if_true]at e;cases ha:btw aggs.length 1 4
   ·have EE:Hid (R=false):=Lib.hid (by rw[e,ha];rfl)
    clear e E2;go_enter Tryz.func37,Tryz.ntmps37
    go_wp2_with (go_at_call 34;refine(within_any _ _ _ _).mono ?_;rintro e w' ⟨rfl,rfl⟩)
    go_ret;exact⟨ret_bool (by rw[EE.out];rfl),hB⟩
   ·by_cases hg:(group.length:Int)≤8-aggs.length
    ·have EE:Hid (R=true):=Lib.hid (by rw[e,ha];simpa using hg)
     clear e E2;have hg': ¬(8-(aggs.length:Int)<(group.length:Int)):=by omega
     go_enter Tryz.func37,Tryz.ntmps37
     go_wp2_with (go_at_call 34;refine(within_any _ _ _ _).mono ?_;rintro e w' ⟨rfl,rfl⟩)
     go_ret;exact⟨ret_bool (by rw[EE.out];simp<;>omega),hB⟩
    ·have EE:Hid (R=false):=Lib.hid (by rw[e,ha];simp<;>omega)
     clear e E2;have hg':(8-(aggs.length:Int)<(group.length:Int)):=by omega
     go_enter Tryz.func37,Tryz.ntmps37
     go_wp2_with (go_at_call 34;refine(within_any _ _ _ _).mono ?_;rintro e w' ⟨rfl,rfl⟩)
     go_ret;exact⟨ret_bool (by rw[EE.out];simp<;>omega),hB⟩
 ·have EE:Hid (R=false):=Lib.hid (by
   rw[E.out];rw[Bool.and_eq_false_iff];left;simp only[allB,List.all_cons,List.all_nil,id,Bool.and_true];cases h1:btw left.length 1 4
   ·rfl
   ·cases h2:btw right.length 1 4
    ·rfl
    ·cases h3:btw lkeys.length 1 4
     ·rfl
     ·cases h4:btw rkeys.length 1 4
      ·rfl
      ·exact absurd ⟨h1,h2,h3,h4⟩ hall)
  clear E;cases h1:btw left.length 1 4
  ·clear hall
   go_enter Tryz.func37,Tryz.ntmps37
   go_wp2_with (go_at_call 34;refine(within_any _ _ _ _).mono ?_;rintro e w' ⟨rfl,rfl⟩)
   go_ret;exact⟨ret_bool (by rw[EE.out];rfl),hB⟩
  ·cases h2:btw right.length 1 4
   ·clear hall
    go_enter Tryz.func37,Tryz.ntmps37
    go_wp2_with (go_at_call 34;refine(within_any _ _ _ _).mono ?_;rintro e w' ⟨rfl,rfl⟩)
    go_ret;exact⟨ret_bool (by rw[EE.out];rfl),hB⟩
   ·cases h3:btw lkeys.length 1 4
    ·clear hall
     go_enter Tryz.func37,Tryz.ntmps37
     go_wp2_with (go_at_call 34;refine(within_any _ _ _ _).mono ?_;rintro e w' ⟨rfl,rfl⟩)
     go_ret;exact⟨ret_bool (by rw[EE.out];rfl),hB⟩
    ·cases h4:btw rkeys.length 1 4
     ·clear hall
      go_enter Tryz.func37,Tryz.ntmps37
      go_wp2_with (go_at_call 34;refine(within_any _ _ _ _).mono ?_;rintro e w' ⟨rfl,rfl⟩)
      go_ret;exact⟨ret_bool (by rw[EE.out];rfl),hB⟩
     ·exact absurd ⟨h1,h2,h3,h4⟩ hall
def onceB (l:List Int):Bool:=(List.range l.length).all fun i=>(List.range i).all fun k=>l.getD i 0 != l.getD k 0
theorem once_no {l:List Int}{i k:Nat}(hi:i<l.length)(hk:k<i)(h:l.getD i 0=l.getD k 0):onceB l=false:=by
 unfold onceB;rw[List.all_eq_false];refine⟨i,List.mem_range.2 hi,?_⟩;rw[Bool.not_eq_true,List.all_eq_false];exact⟨k,List.mem_range.2 hk,by rw[h];simp⟩
theorem once_yes {l:List Int}(h: ∀i k,i<l.length→k<i→l.getD i 0≠l.getD k 0):onceB l=true:=by
 unfold onceB;rw[List.all_eq_true];intro i hi;rw[List.all_eq_true];intro k hk;simpa using h i k (List.mem_range.1 hi) (List.mem_range.1 hk)
set_option maxHeartbeats 4000000 in
set_option maxRecDepth 10000 in
theorem once_any (v:Value)(l:List Int)(w:World)(h:Sl w v l.length (intCells l)):
 Calls Tryz.prog 80 #[v] w fun e w'=>e= .returned (.bool (onceB l))∧Below w.heap.size w w':=by
 have HH:=Lib.hid h;obtain⟨A,c,rfl,h1,h2,-⟩:=h;unfold maxLen at h2;go_enter Tryz.func80,Tryz.ntmps80
 go_wp2
 go_loopw[3,4] (fun i _ wr=> ∃k:Nat,k≤l.length∧i= .int .i64 k∧Hid (∀i j,i<k→j<i→l.getD i 0≠l.getD j 0)∧Below w.heap.size w wr) (fun i _ _=>l.length-(intOf i).toNat)
 case atStart=>exact⟨0,by omega,rfl,fun i j h=>absurd h (by omega),Below.refl _ _⟩
 case round=>
  obtain⟨i,hi,rfl,H,hbw⟩:=hrel;by_cases hlt:i<l.length
  ·obtain⟨b,off,rfl,-,hc⟩:=int_at HH.out rfl hlt
   have HCI:=Lib.hid hc;clear hc;go_wp2
   go_loopw[4] (fun j wr=> ∃k:Nat,k≤i∧j= .int .i64 k∧Hid (∀j,j<k→l.getD i 0≠l.getD j 0)∧Below w.heap.size w wr) (fun j _=>i-(intOf j).toNat)
   case atStart=>exact⟨0,by omega,rfl,fun j h=>absurd h (by omega),hbw⟩
   case round=>
    obtain⟨k,hk,rfl,H2,hbw2⟩:=hrel;by_cases hlk:k<i
    ·have hkl:k<l.length:=by omega
     obtain⟨b',off',hA,-,hc'⟩:=int_at HH.out rfl hkl;injection hA with hA;injection hA with e1 e2;subst e1 e2;have d1:=HCI.out _ hbw2;have d2:=hc' _ hbw2;obtain⟨x,hx⟩: ∃x,l.getD i 0=x:=⟨_,rfl⟩;rw[hx]at d1;have HX:=Lib.hid hx;obtain⟨y,hy⟩: ∃y,l.getD k 0=y:=⟨_,rfl⟩;rw[hy]at d2;have HY:=Lib.hid hy;have i0:(0:Int)≤(i:Int):=by omega
     have i1:(i:Int)<(l.length:Int):=by omega
     have k0:(0:Int)≤(k:Int):=by omega
     have k1:(k:Int)<(l.length:Int):=by omega
     clear hy hx hc';cases hq:(x==y)
     ·have hn:Hid (∀j,j<k+1→l.getD i 0≠l.getD j 0):=Lib.hid (by
       intro j hj;rcases Nat.lt_or_ge j k with h|h
       ·exact H2.out j h
       ·obtain rfl:j=k:=by omega
        rw[HX.out,HY.out];simpa using hq)
      go_wp2_with fail
      go_quiet (fail)
      go_wp2;go_roundw
      case rel=>exact⟨k+1,by omega,by go_num,hn,below_drewN hbw2 _⟩
      case measure=>simp[intOf];omega
     ·have e1:=Lib.hid (once_no hlt hlk (by rw[HX.out,HY.out];simpa using hq))
      go_wp2_with fail
      go_quiet (fail)
      go_wp2;go_ret;exact⟨ret_bool e1.out.symm,below_drewN hbw2 _⟩
    ·obtain rfl:k=i:=by omega
     have hn:Hid (∀i j,i<k+1→j<i→l.getD i 0≠l.getD j 0):=Lib.hid (by
      intro a j ha hj;rcases Nat.lt_or_ge a k with h|h
      ·exact H.out a j h hj
      ·obtain rfl:a=k:=by omega
       exact H2.out j hj)
     go_wp2;go_roundw
     case rel=>exact⟨k+1,by omega,by go_num,hn,hbw2⟩
     case measure=>simp[intOf];omega
  ·obtain rfl:i=l.length:=by omega
   have e1:=Lib.hid (once_yes H.out);go_wp2;go_ret;exact⟨ret_bool e1.out.symm,hbw⟩
end Go.Proofs.YtjodlngbiikgfaaGreatDoor
namespace Go.Proofs.YtjodlngbiikgfaaGreatDoor
open Go.RowKit Go.Maps
theorem once_iff (l:List Int):onceB l=true↔l.Nodup:=by
 constructor
 ·intro h
  rw[List.Nodup,List.pairwise_iff_getElem];intro i j hi hj hij;unfold onceB at h;rw[List.all_eq_true]at h;have h1:=h j (List.mem_range.2 hj);rw[List.all_eq_true]at h1;have h2:=h1 i (List.mem_range.2 hij);simp[hi,hj]at h2;exact fun e=>h2 e.symm
 ·intro h
  rw[List.Nodup,List.pairwise_iff_getElem]at h;refine once_yes fun i k hi hk=> ?_;have hkl:k<l.length:=by omega
  simp only[List.getD_eq_getElem?_getD,List.getElem?_eq_getElem hi,List.getElem?_eq_getElem hkl,Option.getD_some];exact fun e=>h k i hkl hi hk e.symm
theorem unlR_iff (n:Int): ∀(l seen:List Int),unlR n seen l=true↔(∀x∈l,btw x 0 (n-1)=true)∧(∀x∈l,x∉seen)∧l.Nodup
 |[],seen=>by simp[unlR]
 |x::r,seen=>by
  simp only[unlR,Bool.and_eq_true,unlR_iff n r,beq_iff_eq,List.count_eq_zero,List.nodup_cons,List.mem_cons,List.mem_append,List.mem_nil_iff,or_false,forall_eq_or_imp];constructor
  ·rintro⟨⟨h1,h2⟩,h3,h4,h5⟩
   refine⟨⟨h1,h3⟩,⟨h2,fun y hy=>fun e=>h4 y hy (.inl e)⟩,fun hx=>h4 x hx (.inr rfl),h5⟩
  ·rintro⟨⟨h1,h3⟩,⟨h2,h4⟩,h6,h5⟩
   refine⟨⟨h1,h2⟩,h3,fun y hy e=> ?_,h5⟩;rcases e with e|e
   ·exact h4 y hy e
   ·subst e;exact h6 hy
theorem unl_eq (l:List Int)(n:Int):unlikeB l n=(onceB l&&allB (fun x=>btw x 0 (n-1)) l):=by
 rw[Bool.eq_iff_iff,Bool.and_eq_true,once_iff];unfold unlikeB allB;rw[unlR_iff,List.all_eq_true];constructor
 ·rintro⟨h1,-,h3⟩;exact⟨h3,h1⟩
 ·rintro⟨h3,h1⟩;exact⟨h1,by simp,h3⟩
def pairR (left right:List Int) (q:Int×Int):Bool:=btw q.1 0 ((left.length:Int)-1)&&(btw q.2 0 ((right.length:Int)-1)&&pairOk left right q)
def formR (p:Pl):Bool:= !(decide (p.high<p.low))&&((p.lkeys.length==p.rkeys.length)&&(onceB p.lkeys&&(onceB p.rkeys&&(onceB p.group&&(allB (pairR p.left p.right) (p.lkeys.zip p.rkeys)&&(allB (fun x=>btw x 0 (((p.left++p.right).length:Int)-1)) p.group&&allB (aggOk (p.left++p.right)) p.aggs))))))
theorem form_eq (p:Pl):formR p=formB p:=by
 unfold formR formB;by_cases hl:p.lkeys.length=p.rkeys.length
 ·rw[Bool.eq_iff_iff]
  rw[unl_eq,unl_eq,unl_eq];simp only[Bool.and_eq_true]
  have hz:allB (pairR p.left p.right) (p.lkeys.zip p.rkeys)=true↔allB (fun x=>btw x 0 ((p.left.length:Int)-1)) p.lkeys=true∧allB (fun x=>btw x 0 ((p.right.length:Int)-1)) p.rkeys=true∧allB (pairOk p.left p.right) (p.lkeys.zip p.rkeys)=true:=by
   unfold allB pairR;simp only[List.all_eq_true,Bool.and_eq_true];constructor
   ·intro h
    refine⟨fun x hx=> ?_,fun x hx=> ?_,fun q hq=>(h q hq).2.2⟩
    ·rw[←List.map_fst_zip (l₁:=p.lkeys) (l₂:=p.rkeys) (by omega)]at hx
     obtain⟨q,hq,rfl⟩:=List.mem_map.1 hx;exact(h q hq).1
    ·rw[←List.map_snd_zip (l₁:=p.lkeys) (l₂:=p.rkeys) (by omega)]at hx
     obtain⟨q,hq,rfl⟩:=List.mem_map.1 hx;exact(h q hq).2.1
   ·rintro⟨h1,h2,h3⟩ q hq
    have:=List.of_mem_zip (a:=q.1) (b:=q.2) hq;exact⟨h1 _ this.1,h2 _ this.2,h3 q hq⟩
  rw[hz];constructor
  ·rintro⟨a,b,c,d,e,⟨f,g,h⟩,i,j⟩
   exact⟨a,b,⟨c,f⟩,⟨d,g⟩,⟨e,i⟩,h,j⟩
  ·rintro⟨a,b,⟨c,f⟩,⟨d,g⟩,⟨e,i⟩,h,j⟩
   exact⟨a,b,c,d,e,⟨f,g,h⟩,i,j⟩
 ·have:(p.lkeys.length==p.rkeys.length)=false:=by simpa using hl
  rw[this];simp
end Go.Proofs.YtjodlngbiikgfaaGreatDoor
namespace Go.Proofs.YtjodlngbiikgfaaGreatDoor
open Go.RowKit
theorem own_empty (W:World)(base:Nat)(h:base≤W.heap.size):(W.alloc (.cells #[] 3)).ownsRow base 3 1 (.slice (some ⟨W.heap.size,0,none⟩) 0 0) 0 []:=
 ⟨rfl,.inr ⟨_,0,#[],rfl,h,heap_alloc_new W _,Nat.le_refl _,by decide,rfl,rfl⟩⟩
set_option maxHeartbeats 4000000 in
set_option maxRecDepth 10000 in
theorem types_any (p:Pl)(w:World)(h:p.ok w)(hl:p.left.length≤1000)(hr:p.right.length≤1000):
 Calls Tryz.prog 38 #[.agg #[.int .i64 p.kind,.int .i64 p.mode,.int .i64 p.low,.int .i64 p.high,.int .i64 p.size,.int .i64 p.limit,p.vl,p.vr,p.vk,p.vq,.bool p.grouped,p.vg,p.va]] w fun e w'=> ∃v,e= .returned v∧Sl w' v (p.left++p.right).length (intCells (p.left++p.right))∧(∀k,v.ownBlock=some k→w.heap.size≤k)∧Below w.heap.size w w':=by
 have HL:=Lib.hid h.l;have HR:=Lib.hid h.r;clear h;obtain⟨kind,mode,low,high,size,limit,vl,vr,vk,vq,grouped,vg,va,left,right,lkeys,rkeys,group,aggs⟩:=p;simp only at HL HR hl hr⊢;obtain⟨A0,c0,rfl,n0,m0,-⟩:=id HL.out;obtain⟨A1,c1,rfl,n1,m1,-⟩:=id HR.out;unfold maxLen at m0 m1;have K1:=new_first w 25 #[.int .i64 kind,.int .i64 mode,.int .i64 low,.int .i64 high,.int .i64 size,.int .i64 limit,.slice A0 left.length c0,.slice A1 right.length c1,vk,vq,.bool grouped,vg,va] (.cells #[] 3);have O1:=own_empty (w.alloc (.cells #[.int .i64 kind,.int .i64 mode,.int .i64 low,.int .i64 high,.int .i64 size,.int .i64 limit,.slice A0 left.length c0,.slice A1 right.length c1,vk,vq,.bool grouped,vg,va] 25)) w.heap.size (by simp);rw[World.size_alloc]at O1;have hB:=below_trans (below_alloc w (.cells #[.int .i64 kind,.int .i64 mode,.int .i64 low,.int .i64 high,.int .i64 size,.int .i64 limit,.slice A0 left.length c0,.slice A1 right.length c1,vk,vq,.bool grouped,vg,va] 25)) (below_alloc _ (.cells #[] 3));have S1:=Lib.hid (HL.out.below hB).drew;have hB:=hB.drew;have y6:=K1.drew.cell 6 _ rfl;have y7:=K1.drew.cell 7 _ rfl;have L1:=Lib.hid (show(intCells left).length=left.length*1 from by rw[intCells_len];omega);have L2:=Lib.hid (show(intCells right).length=right.length*1 from by rw[intCells_len];omega);have B1:0+left.length≤maxLen:=by unfold maxLen;omega
 have B2:(0+left.length)*8≤140737488355328:=by omega
 have B3:0+left.length+right.length≤maxLen:=by unfold maxLen;omega
 have B4:(0+left.length+right.length)*8≤140737488355328:=by omega
 have HB1:=Lib.hid B1;have HB2:=Lib.hid B2;have HB3:=Lib.hid B3;have HB4:=Lib.hid B4;have HO1:=Lib.hid (show((w.alloc (.cells #[.int .i64 kind,.int .i64 mode,.int .i64 low,.int .i64 high,.int .i64 size,.int .i64 limit,.slice A0 left.length c0,.slice A1 right.length c1,vk,vq,.bool grouped,vg,va] 25)).alloc (.cells #[] 3)).drew.ownsRow w.heap.size 3 1 (.slice (some ⟨w.heap.size+1,0,none⟩) 0 0) 0 []from O1);have HK1:=Lib.hid K1.drew;clear B1 B2 B3 B4 O1 K1;go_enter Tryz.func38,Tryz.ntmps38
 go_wp2_with fail
 go_region_law
  ((first
    |(refine step_app (by rfl) _ _ 22 (by rfl) w.heap.size 3 1 8 Tryz.underlying22 intI (.slice (some ⟨w.heap.size+1,0,none⟩) 0 0) 0 _ (by rfl) HO1.out _ left.length (intCells left) (by rfl) S1.out L1.out (intCells_one left) HB1.out HB2.out hB.size ?_
      intro v1 w1 hown1 hgrow hat;have hb1:=below_grown hB hgrow (own_ge HO1.out);have T2:=HR.out.below hb1;have y7:=(HK1.out.grown hgrow (fun e=>by simp[Value.ownBlock]at e)).cell 7 _ rfl)
    |(refine step_app (by rfl) _ _ 22 (by rfl) w.heap.size 3 1 8 Tryz.underlying22 intI v1 (0+left.length) _ (by rfl) hown1 _ right.length (intCells right) (by rfl) T2 L2.out (intCells_one right) HB3.out HB4.out hb1.size ?_
      intro v2 w2 hown2 hgrow2 hat2)))
 all_goals
  have S3:Hid (Sl w2 v2 (left++right).length (intCells (left++right))):=Lib.hid (by
   have:=Sl.of_own hown2;have e:0+left.length+right.length=(left++right).length:=by rw[List.length_append];omega
   rw[List.nil_append,←intCells_app,e]at this;exact this)
  have O3:=Lib.hid (own_ge hown2);have B3:=below_grown hb1 hgrow2 (own_ge hown1);clear hown1 hown2 hgrow hgrow2;go_wp2;go_ret;exact⟨_,rfl,S3.out,O3.out,B3⟩
end Go.Proofs.YtjodlngbiikgfaaGreatDoor
namespace Go.Proofs.YtjodlngbiikgfaaGreatDoor
section
open Go.ChangeShapes Go.WideShapes Go.RowKit Go.Deep
section
variable {H:Type} {enc:TypeId×Value→H} {P:Program} {w:World} {base:Nat} {spare:Nat→Bool} {held:Bool}
end
section
variable {H:Type} {enc:TypeId×Value→H} {w:World} {base:Nat} {spare:Nat→Bool} {held:Bool}
set_option maxRecDepth 100000 in
theorem open_row {r:Reach}{b0:Nat}{v:Value}{d:DataW H}{p:List MemPlace}(hv:Value.okWide Tryz.prog w r b0 41 v)(h:DataW.Trod enc Tryz.prog w base spare held 41 v d p):
 ∃l:List Val,Sl w v l.length (rowCells l)∧Fine l:=by
 obtain⟨a,len,cap,rfl⟩:=okWide_slice Tryz.underlying41 hv;obtain⟨fuel,hf⟩:=h;obtain⟨u,l,e,hsl,hq⟩:=open_flatQ (f:=Val.cells) (Q:=Val.ok) (size:=3) Val.cells_len (by omega) Tryz.underlying41 (by kernel_rfl) val_trod hf;have:(Value.slice a len cap)=u:=by simpa[Value.cells]using e
 rw[this];exact⟨l,hsl,⟨fun x hx=>(hq x hx).2.2.2.2,fun x hx=>⟨(hq x hx).2.2.1,(hq x hx).2.2.2.1⟩⟩⟩
end
section
variable {H:Type} {enc:TypeId×Value→H} {P:Program} {w:World} {base:Nat} {spare:Nat→Bool} {held:Bool}
end
end
end Go.Proofs.YtjodlngbiikgfaaGreatDoor
