/-Plans: ranges, counts. Plans: slices.Concat of two lists; typesFine; unlike. Plans: unlike. Plans: typesFine, form. -/
import Derived.Test.YtjhbeecmdgglgaaGreatDoorGrpX5
import Derived.Lib.Walk
import Derived.Lib.SliceRun
import Derived.Lib.AppendZerosOnto
import Derived.Maps.OwnOps
import Derived.Maps.Views
set_option linter.unusedSimpArgs false
set_option linter.unusedVariables false
namespace Go.Proofs.YtjhbeecmdgglgaaGreatDoor
open Go.RowKit
open tm (fitsB fits_any)
def rangesB (p:Pl):Bool:=
 (if p.kind=1 then fitsB p.low&&(fitsB p.high&&p.size==0)else if p.kind=2 then p.low==0&&(p.high==0&&btw p.size 1 1099511627776)else p.low==0&&(p.high==0&&p.size==0))&&btw p.limit 1 64
theorem bne_of {a b:Int}{q:Bool}(h:(a==b)=q):(a != b)= !q:=by rw[bne,h]
set_option maxHeartbeats 4000000 in
set_option maxRecDepth 10000 in
theorem ranges_any (p:Pl)(w:World):
 Calls Tryz.prog 97 #[.agg #[.int .i64 p.kind,.int .i64 p.mode,.int .i64 p.low,.int .i64 p.high,.int .i64 p.size,.int .i64 p.limit,p.vl,p.vr,p.vk,p.vq,.bool p.grouped,p.vg,p.va]] w fun e w'=>e= .returned (.bool (rangesB p))∧Below w.heap.size w w':=by
 have hB:=below_alloc w (.cells #[.int .i64 p.kind,.int .i64 p.mode,.int .i64 p.low,.int .i64 p.high,.int .i64 p.size,.int .i64 p.limit,p.vl,p.vr,p.vk,p.vq,.bool p.grouped,p.vg,p.va] 25);obtain⟨kind,mode,low,high,size,limit,vl,vr,vk,vq,grouped,vg,va,left,right,lkeys,rkeys,group,aggs⟩:=p;simp only at hB⊢;by_cases hk:kind=1
 ·have hb:=beqT hk
  have H:=Lib.hid (show rangesB ⟨kind,mode,low,high,size,limit,vl,vr,vk,vq,grouped,vg,va,left,right,lkeys,rkeys,group,aggs⟩=((fitsB low&&(fitsB high&&size==0))&&btw limit 1 64)from by simp[rangesB,hk]);clear hk;cases h1:fitsB low<;>cases h2:fitsB high<;>cases h3:(size==0)<;>cases h4:btw limit 1 64
  all_goals
   have g3:=bne_of h3;simp only[Bool.not_true,Bool.not_false]at g3;have R:=Lib.hid (H.out.trans (by rw[h1,h2,h3,h4]));clear H;go_enter Tryz.func97,Tryz.ntmps97
   go_wp2_with (first
    |(go_at_call 127;refine(between_any _ _ _ _).mono ?_;rintro e w' ⟨rfl,rfl⟩)
    |(go_at_call 84;refine(fits_any _ _).mono ?_;rintro e w' ⟨rfl,rfl⟩))
   go_ret;exact⟨ret_bool (by rw[R.out];rfl),hB⟩
 ·by_cases hk2:kind=2
  ·have hb0:=beqF hk
   have hb:=beqT hk2;have H:=Lib.hid (show rangesB ⟨kind,mode,low,high,size,limit,vl,vr,vk,vq,grouped,vg,va,left,right,lkeys,rkeys,group,aggs⟩=((low==0&&(high==0&&btw size 1 1099511627776))&&btw limit 1 64)from by simp[rangesB,hk2]);clear hk hk2;cases h1:(low==0)<;>cases h2:(high==0)<;>cases h3:btw size 1 1099511627776<;>cases h4:btw limit 1 64
   all_goals
    have g1:=bne_of h1;have g2:=bne_of h2;simp only[Bool.not_true,Bool.not_false]at g1 g2;have R:=Lib.hid (H.out.trans (by rw[h1,h2,h3,h4]));clear H;go_enter Tryz.func97,Tryz.ntmps97
    go_wp2_with (first
     |(go_at_call 127;refine(between_any _ _ _ _).mono ?_;rintro e w' ⟨rfl,rfl⟩)
     |(go_at_call 84;refine(fits_any _ _).mono ?_;rintro e w' ⟨rfl,rfl⟩))
    go_ret;exact⟨ret_bool (by rw[R.out];rfl),hB⟩
  ·have hb0:=beqF hk
   have hb:=beqF hk2;have H:=Lib.hid (show rangesB ⟨kind,mode,low,high,size,limit,vl,vr,vk,vq,grouped,vg,va,left,right,lkeys,rkeys,group,aggs⟩=((low==0&&(high==0&&size==0))&&btw limit 1 64)from by simp[rangesB,hk,hk2]);clear hk hk2;cases h1:(low==0)<;>cases h2:(high==0)<;>cases h3:(size==0)<;>cases h4:btw limit 1 64
   all_goals
    have g1:=bne_of h1;have g2:=bne_of h2;have g3:=bne_of h3;simp only[Bool.not_true,Bool.not_false]at g1 g2 g3;have R:=Lib.hid (H.out.trans (by rw[h1,h2,h3,h4]));clear H;go_enter Tryz.func97,Tryz.ntmps97
    go_wp2_with (first
     |(go_at_call 127;refine(between_any _ _ _ _).mono ?_;rintro e w' ⟨rfl,rfl⟩)
     |(go_at_call 84;refine(fits_any _ _).mono ?_;rintro e w' ⟨rfl,rfl⟩))
    go_ret;exact⟨ret_bool (by rw[R.out];rfl),hB⟩
def lens (p:Pl):List Bool:=[btw p.left.length 1 4,btw p.right.length 1 4,btw p.lkeys.length 1 4,btw p.rkeys.length 1 4]
def countsB (p:Pl):Bool:=allB id (lens p)&&(if p.grouped then btw p.aggs.length 1 4&&decide ((p.group.length:Int)≤8-p.aggs.length)else(p.group.length:Int)+p.aggs.length==0)
set_option maxHeartbeats 4000000 in
set_option maxRecDepth 10000 in
theorem counts_any (p:Pl)(w:World)(h:p.ok w):
 Calls Tryz.prog 98 #[.agg #[.int .i64 p.kind,.int .i64 p.mode,.int .i64 p.low,.int .i64 p.high,.int .i64 p.size,.int .i64 p.limit,p.vl,p.vr,p.vk,p.vq,.bool p.grouped,p.vg,p.va]] w fun e w'=>e= .returned (.bool (countsB p))∧Below w.heap.size w w':=by
 obtain⟨kind,mode,low,high,size,limit,vl,vr,vk,vq,grouped,vg,va,left,right,lkeys,rkeys,group,aggs⟩:=p;obtain⟨sl,sr,sk,sq,sg,sa⟩:=h;simp only at sl sr sk sq sg sa⊢;obtain⟨A0,c0,rfl,n0,m0,-⟩:=sl;obtain⟨A1,c1,rfl,n1,m1,-⟩:=sr;obtain⟨A2,c2,rfl,n2,m2,-⟩:=sk;obtain⟨A3,c3,rfl,n3,m3,-⟩:=sq;obtain⟨A4,c4,rfl,n4,m4,-⟩:=sg;obtain⟨A5,c5,rfl,n5,m5,-⟩:=sa;unfold maxLen at m0 m1 m2 m3 m4 m5;have K1:=new_first w 25 #[.int .i64 kind,.int .i64 mode,.int .i64 low,.int .i64 high,.int .i64 size,.int .i64 limit,.slice A0 left.length c0,.slice A1 right.length c1,.slice A2 lkeys.length c2,.slice A3 rkeys.length c3,.bool grouped,.slice A4 group.length c4,.slice A5 aggs.length c5] (.cells #[.slice A0 left.length c0,.slice A1 right.length c1,.slice A2 lkeys.length c2,.slice A3 rkeys.length c3] 22);have K2:=new_second w 22 #[.slice A0 left.length c0,.slice A1 right.length c1,.slice A2 lkeys.length c2,.slice A3 rkeys.length c3] (.cells #[.int .i64 kind,.int .i64 mode,.int .i64 low,.int .i64 high,.int .i64 size,.int .i64 limit,.slice A0 left.length c0,.slice A1 right.length c1,.slice A2 lkeys.length c2,.slice A3 rkeys.length c3,.bool grouped,.slice A4 group.length c4,.slice A5 aggs.length c5] 25);have hB:=fun o1 o2=>below_trans (below_alloc w o1) (below_alloc _ o2);have HL:Hid (lens ⟨kind,mode,low,high,size,limit,.slice A0 left.length c0,.slice A1 right.length c1,.slice A2 lkeys.length c2,.slice A3 rkeys.length c3,grouped,.slice A4 group.length c4,.slice A5 aggs.length c5,left,right,lkeys,rkeys,group,aggs⟩=[btw left.length 1 4,btw right.length 1 4,btw lkeys.length 1 4,btw rkeys.length 1 4]):=Lib.hid rfl
 have HC:Hid (countsB ⟨kind,mode,low,high,size,limit,.slice A0 left.length c0,.slice A1 right.length c1,.slice A2 lkeys.length c2,.slice A3 rkeys.length c3,grouped,.slice A4 group.length c4,.slice A5 aggs.length c5,left,right,lkeys,rkeys,group,aggs⟩=
  (allB id [btw left.length 1 4,btw right.length 1 4,btw lkeys.length 1 4,btw rkeys.length 1 4]&&(if grouped then btw aggs.length 1 4&&decide ((group.length:Int)≤8-aggs.length)else(group.length:Int)+aggs.length==0))):=Lib.hid rfl
 generalize countsB ⟨kind,mode,low,high,size,limit,.slice A0 left.length c0,.slice A1 right.length c1,.slice A2 lkeys.length c2,.slice A3 rkeys.length c3,grouped,.slice A4 group.length c4,.slice A5 aggs.length c5,left,right,lkeys,rkeys,group,aggs⟩=R at HC⊢;clear HL;have z0:=K2.cell 0 _ rfl;have z1:=K2.cell 1 _ rfl;have z2:=K2.cell 2 _ rfl;have z3:=K2.cell 3 _ rfl;have ZZ:=Lib.hid (And.intro z0 (And.intro z1 (And.intro z2 z3)));have y0:=K1.cell 10 _ rfl;have y1:=K1.cell 11 _ rfl;have y2:=K1.cell 12 _ rfl;clear z0 z1 z2 z3 K1 K2;have HB:=Lib.hid hB;clear hB;obtain⟨bs,hbs⟩: ∃bs:List Bool,bs=[btw left.length 1 4,btw right.length 1 4,btw lkeys.length 1 4,btw rkeys.length 1 4]:=⟨_,rfl⟩;have HBS:=Lib.hid hbs;have HW:=Lib.hid (show(wrap64 ((group.length:Int)+aggs.length)==0)=((group.length:Int)+aggs.length==0)from by rw[Bool.eq_iff_iff];simp only[beq_iff_eq];unfold wrap64;omega);clear hbs;go_enter Tryz.func98,Tryz.ntmps98
 go_wp2
 go_loop [4,15] (fun _ i=> ∃k:Nat,k≤4∧i= .int .i64 k∧Hid (∀b∈bs.take k,id b=true)) (fun _ i=>4-(intOf i).toNat)
 case atStart=>exact⟨0,by omega,rfl,by simp[Hid]⟩
 case round=>
  obtain⟨k,hk,rfl,H⟩:=hrel;have hk4:k=0∨k=1∨k=2∨k=3∨k=4:=by omega
  rcases hk4 with rfl|rfl|rfl|rfl|rfl
  ·obtain⟨z0,z1,z2,z3⟩:=ZZ.out
   cases hq:btw left.length 1 4
   ·have E:=Lib.hid (all_no (f:=id) (l:=bs) (k:=0) (by rw[HBS.out];rfl) hq)
    clear H
    go_wp2_with (go_at_call 127;refine(between_any _ _ _ _).mono ?_;rintro e w' ⟨rfl,rfl⟩)
    go_ret;exact⟨ret_bool (by rw[HC.out,←HBS.out,E.out];rfl),HB.out _ _⟩
   ·have E:=Lib.hid (all_step (f:=id) (l:=bs) (k:=0) H.out (by rw[HBS.out];rfl) hq)
    clear H
    go_wp2_with (go_at_call 127;refine(between_any _ _ _ _).mono ?_;rintro e w' ⟨rfl,rfl⟩)
    go_round
    case rel=>exact⟨1,by omega,by go_num,E.out⟩
    case measure=>simp[intOf]
  ·obtain⟨z0,z1,z2,z3⟩:=ZZ.out
   cases hq:btw right.length 1 4
   ·have E:=Lib.hid (all_no (f:=id) (l:=bs) (k:=1) (by rw[HBS.out];rfl) hq)
    clear H
    go_wp2_with (go_at_call 127;refine(between_any _ _ _ _).mono ?_;rintro e w' ⟨rfl,rfl⟩)
    go_ret;exact⟨ret_bool (by rw[HC.out,←HBS.out,E.out];rfl),HB.out _ _⟩
   ·have E:=Lib.hid (all_step (f:=id) (l:=bs) (k:=1) H.out (by rw[HBS.out];rfl) hq)
    clear H
    go_wp2_with (go_at_call 127;refine(between_any _ _ _ _).mono ?_;rintro e w' ⟨rfl,rfl⟩)
    go_round
    case rel=>exact⟨2,by omega,by go_num,E.out⟩
    case measure=>simp[intOf]
  ·obtain⟨z0,z1,z2,z3⟩:=ZZ.out
   cases hq:btw lkeys.length 1 4
   ·have E:=Lib.hid (all_no (f:=id) (l:=bs) (k:=2) (by rw[HBS.out];rfl) hq)
    clear H
    go_wp2_with (go_at_call 127;refine(between_any _ _ _ _).mono ?_;rintro e w' ⟨rfl,rfl⟩)
    go_ret;exact⟨ret_bool (by rw[HC.out,←HBS.out,E.out];rfl),HB.out _ _⟩
   ·have E:=Lib.hid (all_step (f:=id) (l:=bs) (k:=2) H.out (by rw[HBS.out];rfl) hq)
    clear H
    go_wp2_with (go_at_call 127;refine(between_any _ _ _ _).mono ?_;rintro e w' ⟨rfl,rfl⟩)
    go_round
    case rel=>exact⟨3,by omega,by go_num,E.out⟩
    case measure=>simp[intOf]
  ·obtain⟨z0,z1,z2,z3⟩:=ZZ.out
   cases hq:btw rkeys.length 1 4
   ·have E:=Lib.hid (all_no (f:=id) (l:=bs) (k:=3) (by rw[HBS.out];rfl) hq)
    clear H
    go_wp2_with (go_at_call 127;refine(between_any _ _ _ _).mono ?_;rintro e w' ⟨rfl,rfl⟩)
    go_ret;exact⟨ret_bool (by rw[HC.out,←HBS.out,E.out];rfl),HB.out _ _⟩
   ·have E:=Lib.hid (all_step (f:=id) (l:=bs) (k:=3) H.out (by rw[HBS.out];rfl) hq)
    clear H
    go_wp2_with (go_at_call 127;refine(between_any _ _ _ _).mono ?_;rintro e w' ⟨rfl,rfl⟩)
    go_round
    case rel=>exact⟨4,by omega,by go_num,E.out⟩
    case measure=>simp[intOf]
  ·have E:=Lib.hid (all_yes (f:=id) (l:=bs) (by have:=H.out;rw[HBS.out]at this⊢;exact this))
   clear H ZZ;cases grouped
   ·cases hq:((group.length:Int)+aggs.length==0)
    all_goals
     have HQ:=Lib.hid (HC.out.trans (by rw[←HBS.out,E.out,hq]));go_wp2;go_ret;exact⟨ret_bool (by rw[HQ.out,HW.out,hq];rfl),HB.out _ _⟩
   ·cases h1:btw aggs.length 1 4
    ·have HQ:=Lib.hid (HC.out.trans (by rw[←HBS.out,E.out,h1]))
     go_wp2_with (go_at_call 127;refine(between_any _ _ _ _).mono ?_;rintro e w' ⟨rfl,rfl⟩)
     go_ret;exact⟨ret_bool (by rw[HQ.out];rfl),HB.out _ _⟩
    ·cases hq:decide ((group.length:Int)≤8-aggs.length)
     all_goals
      have HQ:=Lib.hid (HC.out.trans (by rw[←HBS.out,E.out,h1,hq]))
      go_wp2_with (go_at_call 127;refine(between_any _ _ _ _).mono ?_;rintro e w' ⟨rfl,rfl⟩)
      go_ret;exact⟨ret_bool (by rw[HQ.out];first|rfl|exact hq),HB.out _ _⟩
end Go.Proofs.YtjhbeecmdgglgaaGreatDoor
namespace Go.Proofs.YtjhbeecmdgglgaaGreatDoor
open Go.RowKit Go.Maps
theorem intI:EInfo Tryz.prog 3 1 8:=by
 have h:(Tryz.prog.info? 3).map (fun i=>(i.zero,i.size,i.bytes))=some (some (.int .i64 0),1,8):=by kernel_rfl
 obtain⟨i,hi,h1,h2,h3⟩:=info_parts h;exact⟨i,_,hi,h1,h2,h3,rfl,by omega⟩
set_option maxHeartbeats 4000000 in
set_option maxRecDepth 100000 in
theorem grow_nil (n:Nat)(w:World)(h1:1≤n)(hn:n≤1000):
 Calls Tryz.prog 134 #[.slice none 0 0,.int .i64 n] w fun e w'=> ∃g G,e= .returned (.slice (some ⟨g,0,none⟩) 0 G)∧w'.ownsRow w.heap.size 3 1 (.slice (some ⟨g,0,none⟩) 0 G) 0 []∧Below w.heap.size w w':=by
 have hinfo:(Tryz.prog.info? 3).map (fun i=>(i.zero,i.size,i.bytes))=some (some (.int .i64 0),1,8):=by kernel_rfl
 obtain⟨i0,hi0,hz0,hs0,hb0⟩:=info_parts hinfo
 have hold:(Builtin.firstCells i0.size 0 (.slice none 0 0)).run Tryz.prog w.drew= .ok ([]:List Value).toArray w.drew:=by
  exact run_firstCells_none w.drew i0.size 0 0 0
 have hrz: ∀ty,(Builtin.append_ #[22,3] ty #[.slice none 0 0,.int .i64 (n:Int)]).run Tryz.prog w=
  .ok (.slice (some ⟨w.heap.size,0,none⟩) (0+n) (grownCap w (0+n) 0 3)) (w.drew.alloc (.cells (([]:List Value).toArray++Builtin.zeroCells (Value.int .i64 0).cells n++Builtin.zeroCells (Value.int .i64 0).cells (grownCap w (0+n) 0 3-(0+n))) 3)):=fun ty=>by
  exact Lib.run_append_grow_zeros w 22 3 ty 3 i0 (.int .i64 0) .i64 .i64 Tryz.underlying22 Tryz.underlying3 hi0 hz0 none 0 0 [] hold n (by omega) (by omega) (by omega) (by omega)
   (by rw[hb0];omega)
   (growslice_fits (by omega) (by rw[hb0];omega))
 have hGn:0+n≤grownCap w (0+n) 0 3:=grownCap_ge w _ _ _;have hG63:=grownCap_le_maxLen w (0+n) 0 3 (by unfold maxLen;omega);rw[Nat.zero_add]at hrz hGn hG63;generalize grownCap w n 0 3=G at hrz hGn hG63;have HG:=Lib.hid hG63
 have hsz:(([]:List Value).toArray++Builtin.zeroCells (Value.int .i64 0).cells n++Builtin.zeroCells (Value.int .i64 0).cells (G-n)).size=G:=by
  simp[Builtin.zeroCells,Value.cells];omega
 generalize ([]:List Value).toArray++Builtin.zeroCells (Value.int .i64 0).cells n++Builtin.zeroCells (Value.int .i64 0).cells (G-n)=cur at hrz hsz;have HZ:=Lib.hid hsz;clear hsz hold hinfo hi0 hz0 hs0 hb0;unfold maxLen at hG63;go_enter Tryz.func134,Tryz.ntmps134
 go_wp2_with (at_builtin;refine Lib.wpList_append_run _ rfl _ _ _ _ rfl _ _ rfl rfl _ _ (hrz _) ?_)
 all_goals
  go_ret;refine⟨_,G,rfl,⟨rfl,.inr ⟨_,G,cur,rfl,Nat.le_refl _,?_,Nat.zero_le _,HG.out,by rw[HZ.out];omega,by simp⟩⟩,?_⟩
  ·exact heap_alloc_new w.drew _
  ·exact(Below.refl _ _).drew.alloc (Nat.le_refl _) _
def catTo (a b:List Int):Nat→List Int
 |0=>[]
 |1=>a
 |_=>a++b
theorem intCells_app (a b:List Int):intCells (a++b)=intCells a++intCells b:=List.map_append
theorem intCells_len (a:List Int):(intCells a).length=a.length:=List.length_map _
theorem intCells_one (a:List Int): ∀u∈intCells a,u.oneCell'=true:=by
 intro u hu;obtain⟨b,-,rfl⟩:=List.mem_map.1 hu;rfl
set_option maxHeartbeats 4000000 in
set_option maxRecDepth 10000 in
theorem concat_any (v va vb:Value)(a b:List Int)(w:World)(hv:Sl w v 2 [va,vb])(ha:Sl w va a.length (intCells a))(hb:Sl w vb b.length (intCells b))(h1:1≤a.length+b.length)(h2:a.length+b.length≤1000):
 Calls Tryz.prog 101 #[v] w fun e w'=> ∃v',e= .returned v'∧Sl w' v' (a++b).length (intCells (a++b))∧(∀k,v'.ownBlock=some k→w.heap.size≤k)∧Below w.heap.size w w':=by
 have HA:=Lib.hid ha;have HB:=Lib.hid hb;obtain⟨A,c,rfl,q1,q2,-,q3⟩:=hv;obtain⟨g,off,rfl,hc⟩:=q3 (by simp);have z0:w.cell? ⟨g,off,none⟩=some va:=hc 0 va rfl;have z1:w.cell? ⟨g,off+1,none⟩=some vb:=hc 1 vb rfl;obtain⟨A0,c0,rfl,n0,m0,-⟩:=ha;obtain⟨A1,c1,rfl,n1,m1,-⟩:=hb;have ZB:=Lib.hid (fun(W:World) (h:Below w.heap.size w W)=>And.intro (cell_below h z0) (cell_below h z1));unfold maxLen at m0 m1 q2;clear hc;go_enter Tryz.func101,Tryz.ntmps101
 go_wp2
 go_loop [3,5,11] (fun s _ i=> ∃k:Nat,k≤2∧i= .int .i64 k∧s= .int .i64 ((catTo a b k).length:Nat)) (fun _ _ i=>2-(intOf i).toNat)
 case atStart=>exact⟨0,by omega,rfl,rfl⟩
 case round=>
  obtain⟨k,hk,rfl,rfl⟩:=hrel;have hk3:k=0∨k=1∨k=2:=by omega
  rcases hk3 with rfl|rfl|rfl
  ·have e:((catTo a b 0).length:Int)=0:=rfl
   rw[e];clear e;go_wp2
   go_round
   case rel=>exact⟨1,by omega,by go_num,by simp[catTo]⟩
   case measure=>simp[intOf]
  ·have e:(catTo a b 1).length=a.length:=rfl
   rw[e];go_wp2
   go_round
   case rel=>exact⟨2,by omega,by go_num,by simp[catTo]⟩
   case measure=>simp[intOf]
  ·have e:(catTo a b 2).length=a.length+b.length:=by simp[catTo]
   rw[e];clear e;generalize hn:a.length+b.length=n at h1 h2;have HN:=Lib.hid hn;clear hn
   go_wp2_with fail
   refine(grow_nil n _ h1 h2).mono ?_;rintro e w1 ⟨g1,G,rfl,hown1,hb1⟩;have HO:=Lib.hid hown1;clear hown1 z0 z1
   go_wp2_with fail
   go_loopw[6,8,27] (fun t _ i wr=> ∃(k:Nat) (u:Value),u=t∧k≤2∧i= .int .i64 k∧wr.ownsRow w.heap.size 3 1 u (catTo a b k).length (intCells (catTo a b k))∧Below w.heap.size w wr) (fun _ _ i _=>2-(intOf i).toNat)
   case atStart=>exact⟨0,_,rfl,by omega,rfl,HO.out,hb1⟩
   case round=>
    obtain⟨k,u,rfl,hk,rfl,hown,hbw⟩:=hrel;obtain⟨z0,z1⟩:=ZB.out _ hbw;obtain⟨Au,cu,hu,-⟩:=Sl.of_own hown;have hk3:k=0∨k=1∨k=2:=by omega
    rcases hk3 with rfl|rfl|rfl
    ·subst hu
     go_wp2_with (at_builtin;refine wpList_app rfl (.tmp 31) (.tmp 32) 22 rfl w.heap.size 3 1 8 Tryz.underlying22 intI _ (catTo a b 0).length _ rfl hown _ a.length (intCells a) rfl (HA.out.below hbw) (by rw[intCells_len];omega) (intCells_one a) ?_ ?_ ?_ ?_)
     ·have:=HN.out;unfold maxLen;simp[catTo];omega
     ·have:=HN.out;simp[catTo];omega
     ·exact hbw.size
     ·intro v2 w3 hown3 hg3 hat3
      have hbw3:=below_grown hbw hg3 (own_ge hown)
      have O3:Hid (w3.ownsRow w.heap.size 3 1 v2 (catTo a b 1).length (intCells (catTo a b 1))):=by
       have e:(catTo a b 0).length+a.length=(catTo a b 1).length:=by simp[catTo]
       rw[e]at hown3;exact hown3
      clear hown3 hg3 hat3 hown;go_wp2;go_roundw
      case rel=>exact⟨1,_,rfl,by omega,by go_num,O3.out,hbw3⟩
      case measure=>simp[intOf]
    ·subst hu
     go_wp2_with (at_builtin;refine wpList_app rfl (.tmp 31) (.tmp 32) 22 rfl w.heap.size 3 1 8 Tryz.underlying22 intI _ (catTo a b 1).length _ rfl hown _ b.length (intCells b) rfl (HB.out.below hbw) (by rw[intCells_len];omega) (intCells_one b) ?_ ?_ ?_ ?_)
     ·have:=HN.out;unfold maxLen;simp[catTo];omega
     ·have:=HN.out;simp[catTo];omega
     ·exact hbw.size
     ·intro v2 w3 hown3 hg3 hat3
      have hbw3:=below_grown hbw hg3 (own_ge hown)
      have O3:Hid (w3.ownsRow w.heap.size 3 1 v2 (catTo a b 2).length (intCells (catTo a b 2))):=by
       have e:(catTo a b 1).length+b.length=(catTo a b 2).length:=by simp[catTo]
       rw[e,←intCells_app]at hown3;exact hown3
      clear hown3 hg3 hat3 hown;go_wp2;go_roundw
      case rel=>exact⟨2,_,rfl,by omega,by go_num,O3.out,hbw3⟩
      case measure=>simp[intOf]
    ·have HO2:=Lib.hid hown
     clear hown hu;go_wp2;go_ret;exact⟨_,rfl,Sl.of_own HO2.out,own_ge HO2.out,hbw⟩
set_option maxHeartbeats 400000 in
set_option maxRecDepth 10000 in
theorem typeOne_any (n:Int)(w:World):Calls Tryz.prog 131 #[.int .i64 n] w fun e w'=>e= .returned (.bool (btw n 1 3))∧w=w':=by
 go_enter Tryz.func131,Tryz.ntmps131
 go_wp2_with (go_at_call 127;refine(between_any _ _ _ _).mono ?_;rintro e w' ⟨rfl,rfl⟩)
 go_ret;exact⟨rfl,rfl⟩
set_option maxHeartbeats 1000000 in
set_option maxRecDepth 10000 in
theorem allTypes_any (v:Value)(l:List Int)(w:World)(h:Sl w v l.length (intCells l)):
 Calls Tryz.prog 130 #[v,.func (.func 131) #[] #[]] w fun e w'=>e= .returned (.bool (allB (fun n=>btw n 1 3) l))∧w=w':=by
 have HH:=Lib.hid h;obtain⟨A,c,rfl,h1,h2,-⟩:=h;unfold maxLen at h2;go_enter Tryz.func130,Tryz.ntmps130
 go_wp2
 go_loop [6,9] (fun _ i=> ∃k:Nat,k≤l.length∧i= .int .i64 k∧Hid (∀x∈l.take k,btw x 1 3=true)) (fun _ i=>l.length-(intOf i).toNat)
 case atStart=>exact⟨0,by omega,rfl,by simp[Hid]⟩
 case round=>
  obtain⟨k,hk,rfl,H⟩:=hrel;by_cases hlt:k<l.length
  ·obtain⟨b,off,rfl,-,hc⟩:=int_at HH.out rfl hlt
   have c1:=hc w (Below.refl _ _);have hg:l[k]?=some (l.getD k 0):=by simp[hlt]
   generalize l.getD k 0=n at c1 hg;have HX:=Lib.hid hg;clear hg hc;cases hq:btw n 1 3
   ·have e1:=Lib.hid (all_no (f:=fun n=>btw n 1 3) HX.out hq)
    go_wp2_with (go_at_call 131;refine(typeOne_any n _).mono ?_;rintro e w1 ⟨rfl,rfl⟩)
    go_ret;exact⟨ret_bool e1.out.symm,rfl⟩
   ·have e1:=Lib.hid (all_step (f:=fun n=>btw n 1 3) H.out HX.out hq)
    go_wp2_with (go_at_call 131;refine(typeOne_any n _).mono ?_;rintro e w1 ⟨rfl,rfl⟩)
    go_round
    case rel=>exact⟨k+1,by omega,by go_num,e1.out⟩
    case measure=>simp[intOf];omega
  ·obtain rfl:k=l.length:=by omega
   have e1:=Lib.hid (all_yes (f:=fun n:Int=>btw n 1 3) H.out);go_wp2;go_ret;exact⟨ret_bool e1.out.symm,rfl⟩
end Go.Proofs.YtjhbeecmdgglgaaGreatDoor
namespace Go.Proofs.YtjhbeecmdgglgaaGreatDoor
open Go.RowKit Go.Maps
def unlR (n:Int) (seen:List Int):List Int→Bool
 |[]=>true
 |x::r=>(btw x 0 (n-1)&&seen.count x==0)&&unlR n (seen++[x]) r
def unlikeB (l:List Int) (n:Int):Bool:=unlR n [] l
theorem unl_step {l:List Int}{n x:Int}{k:Nat}(hk:l[k]?=some x):unlR n (l.take k) (l.drop k)=((btw x 0 (n-1)&&(l.take k).count x==0)&&unlR n (l.take (k+1)) (l.drop (k+1))):=by
 obtain⟨hlt,rfl⟩:=List.getElem?_eq_some_iff.1 hk;rw[List.drop_eq_getElem_cons hlt,unlR,List.take_add_one,hk];rfl
theorem unl_end {l:List Int}{n:Int}:unlR n (l.take l.length) (l.drop l.length)=true:=by rw[List.drop_length];rfl
def Counts (D:DataW Unit) (l:List Int):Prop:=IsMap D∧ ∀y:Int,(Lit.int .i64 y).wf=true→D.atKey (.int .i64 y) (.lit (.int .i64 0))= .lit (.int .i64 (l.count y:Nat))
theorem wf_of {x:Int}(h: -9223372036854775808≤x∧x≤9223372036854775807):(Lit.int .i64 x).wf=true:=by
 have e:IntKind.i64.min= -9223372036854775808:=by decide
 simp only[Lit.wf,e];simpa using h
theorem counts_none:Counts (.map []) []:=⟨⟨[],rfl⟩,fun _ _=>rfl⟩
theorem isKey_int (x:Int):WideAt.IsKeyLit (.int .i64 x):=trivial
theorem isMap_put {D:DataW Unit}(h:IsMap D)(k:Lit)(d:DataW Unit):IsMap (D.put k d):=by
 obtain⟨es,rfl⟩:=h;exact⟨_,rfl⟩
theorem counts_put {D:DataW Unit}{l:List Int}{x:Int}(h:Counts D l):Counts (D.put (.int .i64 x) (.lit (.int .i64 ((l.count x:Nat)+1:Int)))) (l++[x]):=by
 refine⟨isMap_put h.1 _ _,fun y hy=> ?_⟩;by_cases e:y=x
 ·subst e
  rw[atKey_put_same h.1 (isKey_int y)];simp
 ·rw[atKey_put_other (by intro h;injection h with _ h;exact e h),h.2 y hy]
  have:List.count y [x]=0:=by rw[List.count_eq_zero];simpa using e
  rw[List.count_append,this,Nat.add_zero]
theorem lit_inj {a b:Int}(h:(DataW.lit (.int .i64 a):DataW Unit)= .lit (.int .i64 b)):a=b:=by
 injection h with h;injection h
theorem lawI:Keyed Tryz.prog 3:=int_keyed Tryz.underlying3
theorem zeroI (w:World):(zeroValue 3).run Tryz.prog w= .ok (.int .i64 0) w:=by kernel_rfl
set_option maxHeartbeats 2000000 in
set_option maxRecDepth 100000 in
theorem unlOne_any {x n:Int}{bm bn M k:Nat}{D:DataW Unit}{l:List Int}(w:World)(K1:Blk w bm 201 #[.map (some M)])(K2:Blk w bn 3 #[.int .i64 n])(hown:w.ownsMap Tryz.prog 3 (plainElem Tryz.prog 3) M k D)(hk:k≤1000)(hD:Counts D l)(hl:l.length≤1000)
 (hx: -9223372036854775808≤x∧x≤9223372036854775807) (n1:bm≠M) (n2:bn≠M):
 Calls Tryz.prog 160 #[.int .i64 x,.pointer (some ⟨bm,0,none⟩),.pointer (some ⟨bn,0,none⟩)] w fun e w'=>e= .returned (.bool (btw x 0 (n-1)&&l.count x==0))∧
  w'.ownsMap Tryz.prog 3 (plainElem Tryz.prog 3) M (k+1) (D.put (.int .i64 x) (.lit (.int .i64 ((l.count x:Nat)+1:Int))))∧w.grownBy w' (some M):=by
 have hwf:=wf_of hx;have hkey:keyOf Tryz.prog 3 (.int .i64 x)=some (.int .i64 x):=keyOf_int_mk Tryz.underlying3 hwf;obtain⟨c,hrun,hat,-⟩:=hown.lookup_int (t:=201) lawI Tryz.underlying201 Tryz.underlying3 (zeroI _) hkey
 have hc:c=(l.count x:Nat):=by
  have:=hat.symm.trans (hD.2 x hwf);injection this with this;injection this
 subst hc;have hcl:l.count x≤1000:=Nat.le_trans (List.count_le_length) hl;have hput:=atKey_put_same (D:=D) hD.1 (isKey_int x) (.lit (.int .i64 ((l.count x:Nat)+1:Int))) (.lit (.int .i64 0));have HP:=Lib.hid hput;have HK:=Lib.hid hkey;have z1:=K1.cell 0 _ rfl;have z2:=K2.cell 0 _ rfl;have m1:some M≠some bm:=fun h=>n1 (Option.some.inj h).symm;have m2:some M≠some bn:=fun h=>n2 (Option.some.inj h).symm;have HM1:=Lib.hid m1;have HM2:=Lib.hid m2;have hwc:(Lit.int .i64 ((l.count x:Nat)+1:Int)).wf=true:=wf_of (by omega);have HW:=Lib.hid hwc;generalize l.count x=q at hrun hcl HP HW⊢;have hkk:k<maxLen:=by unfold maxLen;omega
 have HKK:=Lib.hid hkk;clear hat hput hkey hwf m1 m2 hwc hD hkk n1 n2;by_cases h1:0≤x
 ·by_cases h2:x<n
  ·have E:Hid ((btw x 0 (n-1)&&q==0)=(q==0)):=Lib.hid (by rw[btw_yes h1 (by omega)];rfl)
   go_enter Tryz.func160,Tryz.ntmps160
   go_wp2_with (at_mapUpdate;refine wpList_mapUpdate_own _ rfl _ _ _ 201 rfl 3 3 lawI Tryz.underlying201 _ M k _ rfl hown HKK.out _ _ _ rfl rfl HK.out _ [] (plainElem_int Tryz.underlying3 HW.out) ?_;intro w1 hown1 hgrow1
                have y1:=(K1.grown hgrow1 HM1.out).cell 0 _ rfl;have y2:=(K2.grown hgrow1 HM2.out).cell 0 _ rfl;obtain⟨c2,hrun2,hat2,-⟩:=hown1.lookup_int (t:=201) lawI Tryz.underlying201 Tryz.underlying3 (zeroI _) HK.out
                have hc2:(c2==1)=(q==0):=by
                 have hcc:=lit_inj (hat2.symm.trans HP.out);rw[hcc,Bool.eq_iff_iff];simp;omega
                clear hrun hat2)
   go_ret;exact⟨ret_bool (by rw[E.out]),hown1,hgrow1⟩
  ·have E:Hid ((btw x 0 (n-1)&&q==0)=false):=Lib.hid (by rw[btw_no (by omega)];rfl)
   go_enter Tryz.func160,Tryz.ntmps160
   go_wp2_with (at_mapUpdate;refine wpList_mapUpdate_own _ rfl _ _ _ 201 rfl 3 3 lawI Tryz.underlying201 _ M k _ rfl hown HKK.out _ _ _ rfl rfl HK.out _ [] (plainElem_int Tryz.underlying3 HW.out) ?_;intro w1 hown1 hgrow1
                have y1:=(K1.grown hgrow1 HM1.out).cell 0 _ rfl;have y2:=(K2.grown hgrow1 HM2.out).cell 0 _ rfl;clear hrun)
   go_ret;exact⟨ret_bool (by rw[E.out]),hown1,hgrow1⟩
 ·have E:Hid ((btw x 0 (n-1)&&q==0)=false):=Lib.hid (by rw[btw_no (by omega)];rfl)
  go_enter Tryz.func160,Tryz.ntmps160
  go_wp2_with (at_mapUpdate;refine wpList_mapUpdate_own _ rfl _ _ _ 201 rfl 3 3 lawI Tryz.underlying201 _ M k _ rfl hown HKK.out _ _ _ rfl rfl HK.out _ [] (plainElem_int Tryz.underlying3 HW.out) ?_;intro w1 hown1 hgrow1
               have y1:=(K1.grown hgrow1 HM1.out).cell 0 _ rfl;have y2:=(K2.grown hgrow1 HM2.out).cell 0 _ rfl;clear hrun)
  go_ret;exact⟨ret_bool (by rw[E.out]),hown1,hgrow1⟩
set_option maxHeartbeats 2000000 in
set_option maxRecDepth 100000 in
theorem allUnl_any {v:Value}{l:List Int}{n:Int}{B bm bn M:Nat}(w:World)(hs: ∀wr,Below B w wr→Sl wr v l.length (intCells l))(K1:Blk w bm 201 #[.map (some M)])(K2:Blk w bn 3 #[.int .i64 n])
 (hown:w.ownsMap Tryz.prog 3 (plainElem (H:=Unit) Tryz.prog 3) M 0 (.map [])) (hB:B≤M) (hB2:B≤w.heap.size) (n1:bm≠M) (n2:bn≠M) (hl:l.length≤1000) (hr: ∀x∈l,-9223372036854775808≤x∧x≤9223372036854775807):
 Calls Tryz.prog 130 #[v,.func (.func 160) #[] #[.pointer (some ⟨bm,0,none⟩),.pointer (some ⟨bn,0,none⟩)]] w fun e w'=>e= .returned (.bool (unlikeB l n))∧Below B w w':=by
 have HS:=Lib.hid hs;have HR:=Lib.hid hr;obtain⟨A,c,rfl,h1,h2,-⟩:=hs w (Below.refl _ _);have m1:some M≠some bm:=fun h=>n1 (Option.some.inj h).symm;have m2:some M≠some bn:=fun h=>n2 (Option.some.inj h).symm;have HM1:=Lib.hid m1;have HM2:=Lib.hid m2;have HN1:=Lib.hid n1;have HN2:=Lib.hid n2;have HO:=Lib.hid hown;clear hs hr m1 m2 n1 n2 hown;go_enter Tryz.func130,Tryz.ntmps130
 go_wp2
 go_loopw[6,9] (fun _ i wr=> ∃(k:Nat) (D:DataW Unit),k≤l.length∧i= .int .i64 k∧Hid (unlikeB l n=unlR n (l.take k) (l.drop k))∧Hid (Counts D (l.take k))∧wr.ownsMap Tryz.prog 3 (plainElem (H:=Unit) Tryz.prog 3) M k D∧Blk wr bm 201 #[.map (some M)]∧Blk wr bn 3 #[.int .i64 n]∧Below B w wr)
  (fun _ i _=>l.length-(intOf i).toNat)
 case atStart=>exact⟨0,_,by omega,rfl,rfl,counts_none,HO.out,K1,K2,Below.refl _ _⟩
 case round=>
  obtain⟨k,D,hk,rfl,H,HD,hown,J1,J2,hbw⟩:=hrel;by_cases hlt:k<l.length
  ·obtain⟨b,off,rfl,-,hc⟩:=int_at (HS.out _ hbw) rfl hlt
   have c1:=hc _ (Below.refl _ _);have hg:l[k]?=some (l.getD k 0):=by simp[hlt]
   generalize l.getD k 0=x at c1 hg;have HX:=Lib.hid hg;have HRX:=Lib.hid (HR.out x (List.mem_of_getElem? hg));have HST:=Lib.hid (unl_step (n:=n) hg);have hty:(l.take k).length≤1000:=by rw[List.length_take];omega
   have HT:=Lib.hid (show l.take k++[x]=l.take (k+1)from by rw[List.take_add_one,hg];rfl);clear hg hc;cases hq:(btw x 0 (n-1)&&(l.take k).count x==0)
   ·have e1:=Lib.hid (show unlikeB l n=false from by rw[H.out,HST.out,hq];rfl)
    have HQ:=Lib.hid hq;clear hq
    go_wp2_with (go_at_call 160;refine(unlOne_any (n:=n) (l:=l.take k) _ J1 J2 hown (by omega) HD.out hty HRX.out HN1.out HN2.out).mono ?_;rw[HQ.out];rintro e w1 ⟨rfl,hown1,hg1⟩)
    go_ret;exact⟨ret_bool e1.out.symm,hbw.grown hg1 (Nat.le_trans hB2 hbw.size) (fun j hj=>by cases hj;exact hB)⟩
   ·have e1:=Lib.hid (show unlikeB l n=unlR n (l.take (k+1)) (l.drop (k+1))from by rw[H.out,HST.out,hq];rfl)
    have HQ:=Lib.hid hq;clear hq;have HC:=Lib.hid (counts_put (x:=x) HD.out)
    go_wp2_with (go_at_call 160;refine(unlOne_any (n:=n) (l:=l.take k) _ J1 J2 hown (by omega) HD.out hty HRX.out HN1.out HN2.out).mono ?_;rw[HQ.out];rintro e w1 ⟨rfl,hown1,hg1⟩)
    go_roundw
    case rel=>exact⟨k+1,_,by omega,by go_num,e1.out,(by have:=HC.out;rw[HT.out]at this;exact this),hown1,J1.grown hg1 HM1.out,J2.grown hg1 HM2.out,hbw.grown hg1 (Nat.le_trans hB2 hbw.size) (fun j hj=>by cases hj;exact hB)⟩
    case measure=>simp[intOf];omega
  ·obtain rfl:k=l.length:=by omega
   have e1:=Lib.hid (show unlikeB l n=true from by rw[H.out,unl_end]);go_wp2;go_ret;exact⟨ret_bool e1.out.symm,hbw⟩
set_option maxHeartbeats 2000000 in
set_option maxRecDepth 100000 in
theorem unlike_any (v:Value)(l:List Int)(n:Int)(w:World)(h:Sl w v l.length (intCells l))(hl:l.length≤1000)(hr: ∀x∈l,-9223372036854775808≤x∧x≤9223372036854775807):
 Calls Tryz.prog 132 #[v,.int .i64 n] w fun e w'=>e= .returned (.bool (unlikeB l n))∧Below w.heap.size w w':=by
 have hmm:= @run_makeMap Tryz.prog;have HH:=Lib.hid h;have HR:=Lib.hid hr;clear h hr;go_enter Tryz.func132,Tryz.ntmps132
 have K1:=new_second (w.alloc (.cells #[.int .i64 n] 3)) 201 #[.map (some (w.heap.size+1))] (.map #[] 0);have K2:=((Blk.new w 3 #[.int .i64 n]).alloc (.map #[] 0)).alloc (.cells #[.map (some (w.heap.size+1))] 201);have HO:=(World.ownsMap_made (w.alloc (.cells #[.int .i64 n] 3)) Tryz.prog 3 (plainElem (H:=Unit) Tryz.prog 3)).alloc (.cells #[.map (some (w.heap.size+1))] 201);have hB:=below_trans (below_trans (below_alloc w (.cells #[.int .i64 n] 3)) (below_alloc _ (.map #[] 0))) (below_alloc _ (.cells #[.map (some (w.heap.size+1))] 201));rw[World.size_alloc]at K1 HO;have HK1:=Lib.hid K1;have HK2:=Lib.hid K2;have HHO:=Lib.hid HO;clear K1 K2 HO
 go_wp2_with fail
 refine(allUnl_any (B:=w.heap.size) _ (fun wr hb=>HH.out.below (hB.trans hb)) HK1.out HK2.out HHO.out (by omega) hB.size (by omega) (by omega) hl HR.out).mono ?_;rintro e w1 ⟨rfl,hb1⟩;go_wp2;go_ret;exact⟨rfl,hB.trans hb1⟩
end Go.Proofs.YtjhbeecmdgglgaaGreatDoor
namespace Go.Proofs.YtjhbeecmdgglgaaGreatDoor
open Go.RowKit Go.Maps
def I64 (l:List Int):Prop:= ∀x∈l,-9223372036854775808≤x∧x≤9223372036854775807
structure Pl.fit (p:Pl):Prop where
 l:I64 p.left
 r:I64 p.right
 k:I64 p.lkeys
 q:I64 p.rkeys
 g:I64 p.group
 a: ∀x∈p.aggs,(-9223372036854775808≤x.1∧x.1≤9223372036854775807)∧(-9223372036854775808≤x.2∧x.2≤9223372036854775807)
structure Pl.short (p:Pl):Prop where
 l1:1≤p.left.length
 l2:p.left.length≤4
 r1:1≤p.right.length
 r2:p.right.length≤4
 k1:1≤p.lkeys.length
 k2:p.lkeys.length≤4
 q1:1≤p.rkeys.length
 q2:p.rkeys.length≤4
 g:p.group.length≤8
 a:p.aggs.length≤4
def typesB (p:Pl):Bool:=allB (fun n=>btw n 1 3) (p.left++p.right)
theorem two_sl (W:World)(u v:Value):Sl (W.alloc (.cells #[u,v] 22)) (.slice (some ⟨W.heap.size,0,none⟩) 2 2) 2 [u,v]:=Sl.block (Blk.new W 22 #[u,v]) 2 2 (Nat.le_refl _) (by decide)
theorem two_sl1 (w:World)(o:Obj)(u v:Value):Sl ((w.alloc o).alloc (.cells #[u,v] 22)) (.slice (some ⟨w.heap.size+1,0,none⟩) 2 2) 2 [u,v]:=by
 have:=two_sl (w.alloc o) u v;rwa[World.size_alloc]at this
set_option maxHeartbeats 2000000 in
set_option maxRecDepth 10000 in
theorem typesFine_any (p:Pl)(w:World)(h:p.ok w)(hs:p.short):
 Calls Tryz.prog 99 #[.agg #[.int .i64 p.kind,.int .i64 p.mode,.int .i64 p.low,.int .i64 p.high,.int .i64 p.size,.int .i64 p.limit,p.vl,p.vr,p.vk,p.vq,.bool p.grouped,p.vg,p.va]] w fun e w'=>e= .returned (.bool (typesB p))∧Below w.heap.size w w':=by
 have HL:=Lib.hid h.l;have HR:=Lib.hid h.r;have hB:=below_trans (below_alloc w (.cells #[.int .i64 p.kind,.int .i64 p.mode,.int .i64 p.low,.int .i64 p.high,.int .i64 p.size,.int .i64 p.limit,p.vl,p.vr,p.vk,p.vq,.bool p.grouped,p.vg,p.va] 25)) (below_alloc _ (.cells #[p.vl,p.vr] 22));have HT:=Lib.hid (two_sl1 w (.cells #[.int .i64 p.kind,.int .i64 p.mode,.int .i64 p.low,.int .i64 p.high,.int .i64 p.size,.int .i64 p.limit,p.vl,p.vr,p.vk,p.vq,.bool p.grouped,p.vg,p.va] 25) p.vl p.vr);have E:Hid (typesB p=allB (fun n=>btw n 1 3) (p.left++p.right)):=Lib.hid rfl;obtain⟨l1,l2,r1,r2,-⟩:=hs;clear h;generalize typesB p=R at E⊢;obtain⟨kind,mode,low,high,size,limit,vl,vr,vk,vq,grouped,vg,va,left,right,lkeys,rkeys,group,aggs⟩:=p;simp only at HL HR hB HT E l1 l2 r1 r2⊢;obtain⟨A0,c0,rfl,-⟩:=id HL.out;obtain⟨A1,c1,rfl,-⟩:=id HR.out;go_enter Tryz.func99,Tryz.ntmps99
 go_wp2_with fail
 refine(concat_any _ _ _ left right _ HT.out (HL.out.below hB) (HR.out.below hB) (by omega) (by omega)).mono ?_;rintro e w1 ⟨v1,rfl,hs1,-,hb1⟩;have HS1:=Lib.hid hs1;have hB1:=below_trans hB hb1;clear hs1 hb1
 go_wp2_with fail
 refine(allTypes_any v1 (left++right) _ HS1.out).mono ?_;rintro e w2 ⟨rfl,rfl⟩;go_wp2;go_ret;exact⟨ret_bool E.out.symm,hB1⟩
def aggOk (t:List Int) (a:Int×Int):Bool:=if a.1=1 then a.2==0 else btw a.2 0 ((t.length:Int)-1)&&(a.1 != 2||t.getD a.2.toNat 0==2)
set_option maxHeartbeats 2000000 in
set_option maxRecDepth 10000 in
theorem formOne_any (a:Int×Int)(t:List Int)(vt:Value)(bt:Nat)(w:World)(K:Blk w bt 22 #[vt])(ht:Sl w vt t.length (intCells t))(hl:t.length≤1000):
 Calls Tryz.prog 133 #[.agg #[.int .i64 a.1,.int .i64 a.2],.pointer (some ⟨bt,0,none⟩)] w fun e w'=>e= .returned (.bool (aggOk t a))∧Below w.heap.size w w':=by
 obtain⟨f,c⟩:=a;have HH:=Lib.hid ht;obtain⟨A,cc,rfl,q1,q2,-⟩:=ht;unfold maxLen at q2;have z:=(K.alloc (.cells #[.int .i64 f,.int .i64 c] 94)).cell 0 _ rfl;simp only;by_cases h1:f=1
 ·have hb:=beqT h1
  have E:Hid (aggOk t (f,c)=(c==0)):=Lib.hid (if_pos h1);clear h1;go_enter Tryz.func133,Tryz.ntmps133
  go_wp2;go_ret;exact⟨ret_bool E.out.symm,below_alloc _ _⟩
 ·have hb:=beqF h1
  have E:Hid (aggOk t (f,c)=(btw c 0 ((t.length:Int)-1)&&(f != 2||t.getD c.toNat 0==2))):=Lib.hid (if_neg h1);clear h1;cases h2:btw c 0 ((t.length:Int)-1)
  ·have R:=Lib.hid (E.out.trans (by rw[h2]))
   go_enter Tryz.func133,Tryz.ntmps133
   go_wp2_with (go_at_call 127;refine(between_any _ _ _ _).mono ?_;rintro e w' ⟨rfl,rfl⟩)
   go_ret;exact⟨ret_bool (by rw[R.out];rfl),below_alloc _ _⟩
  ·obtain⟨b1,b2⟩:=btw_of h2
   obtain⟨m,rfl⟩: ∃m:Nat,c=m:=⟨c.toNat,by omega⟩;have hm:m<t.length:=by omega
   obtain⟨g,off,rfl,-,hc⟩:=int_at HH.out rfl hm;have c1:=hc _ (below_alloc w (.cells #[.int .i64 f,.int .i64 (m:Int)] 94));have hmn:((m:Int)).toNat=m:=by omega
   rw[hmn]at E;generalize t.getD m 0=y at c1 E;clear hc hmn;cases h3:(f==2)
   ·have g3:=bne_of h3
    simp only[Bool.not_false]at g3;have R:=Lib.hid (E.out.trans (by rw[h2,g3]));go_enter Tryz.func133,Tryz.ntmps133
    go_wp2_with (go_at_call 127;refine(between_any _ _ _ _).mono ?_;rintro e w' ⟨rfl,rfl⟩)
    go_ret;exact⟨ret_bool (by rw[R.out];rfl),below_alloc _ _⟩
   ·have g3:=bne_of h3
    simp only[Bool.not_true]at g3;have R:=Lib.hid (E.out.trans (by rw[h2,g3]));go_enter Tryz.func133,Tryz.ntmps133
    go_wp2_with (go_at_call 127;refine(between_any _ _ _ _).mono ?_;rintro e w' ⟨rfl,rfl⟩)
    go_ret;exact⟨ret_bool (by rw[R.out];simp),below_alloc _ _⟩
set_option maxHeartbeats 1000000 in
set_option maxRecDepth 10000 in
theorem allForm_any (v:Value)(l:List (Int×Int))(t:List Int)(vt:Value)(bt:Nat)(w:World)(h:Sl w v l.length (aggCells l))(K:Blk w bt 22 #[vt])(ht:Sl w vt t.length (intCells t))(hl:t.length≤1000):
 Calls Tryz.prog 128 #[v,.func (.func 133) #[] #[.pointer (some ⟨bt,0,none⟩)]] w fun e w'=>e= .returned (.bool (allB (aggOk t) l))∧Below w.heap.size w w':=by
 have HH:=Lib.hid h;have HT:=Lib.hid ht;have HK:=Lib.hid K;obtain⟨A,c,rfl,h1,h2,-⟩:=h;unfold maxLen at h2;clear ht K;go_enter Tryz.func128,Tryz.ntmps128
 go_wp2
 go_loopw[6,9] (fun _ i wr=> ∃k:Nat,k≤l.length∧i= .int .i64 k∧Hid (∀x∈l.take k,aggOk t x=true)∧Below w.heap.size w wr) (fun _ i _=>l.length-(intOf i).toNat)
 case atStart=>exact⟨0,by omega,rfl,by simp[Hid],Below.refl _ _⟩
 case round=>
  obtain⟨k,hk,rfl,H,hbw⟩:=hrel;by_cases hlt:k<l.length
  ·have hx:=List.getElem?_eq_getElem (l:=l) hlt
   generalize l[k]=x at hx;obtain⟨g,off,rfl,-,hc⟩:=agg_at HH.out rfl hx;obtain⟨c1,c2⟩:=hc _ hbw;have HX:=Lib.hid hx;have hbw2:=hbw.alloc hbw.size (.cells #[.int .i64 x.1,.int .i64 x.2] 94);clear hx hc;cases hq:aggOk t x
   ·have e1:=Lib.hid (all_no (f:=aggOk t) HX.out hq)
    have HQ:=Lib.hid hq;clear hq
    go_wp2_with (go_at_call 133;refine(formOne_any x t vt bt _ (HK.out.below hbw2) (HT.out.below hbw2) hl).mono ?_;rw[HQ.out];rintro e w1 ⟨rfl,hb1⟩)
    go_ret;exact⟨ret_bool e1.out.symm,below_trans hbw2 hb1⟩
   ·have e1:=Lib.hid (all_step (f:=aggOk t) H.out HX.out hq)
    have HQ:=Lib.hid hq;clear hq
    go_wp2_with (go_at_call 133;refine(formOne_any x t vt bt _ (HK.out.below hbw2) (HT.out.below hbw2) hl).mono ?_;rw[HQ.out];rintro e w1 ⟨rfl,hb1⟩)
    go_roundw
    case rel=>exact⟨k+1,by omega,by go_num,e1.out,below_trans hbw2 hb1⟩
    case measure=>simp[intOf];omega
  ·obtain rfl:k=l.length:=by omega
   have e1:=Lib.hid (all_yes (f:=aggOk t) H.out);go_wp2;go_ret;exact⟨ret_bool e1.out.symm,hbw⟩
end Go.Proofs.YtjhbeecmdgglgaaGreatDoor
