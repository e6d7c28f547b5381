/-slices.Concat of two lists of stamped rows, and of two rows. (Printed by gencat.py.) Batches: put (a joined row is written down). (Printed by genput.p -/
import Derived.Test.YtjhbeecmdgglgaaGreatDoorGrpX6
import Derived.Test.YtjhbeecmdgglgaaGreatDoorGrpX22
import Derived.Test.YtjhbeecmdgglgaaGreatDoorGrpX8
import Derived.Test.YtjhbeecmdgglgaaGreatDoorGrpX15
import Derived.Test.YtjhbeecmdgglgaaGreatDoorGrpX32
set_option linter.unusedSimpArgs false
set_option linter.unusedVariables false
namespace Go.Proofs.YtjhbeecmdgglgaaGreatDoor
open Go.RowKit Go.Maps
theorem stpI:EInfo Tryz.prog 53 2 32:=by
 have h:(Tryz.prog.info? 53).map (fun i=>(i.zero,i.size,i.bytes))=some (some (.agg #[.int .i64 0,.slice none 0 0]),2,32):=by kernel_rfl
 obtain⟨i,hi,h1,h2,h3⟩:=info_parts h;exact⟨i,_,hi,h1,h2,h3,rfl,by omega⟩
theorem catS_len (a:List Chn):(chnCells a).length=a.length*2:=by unfold chnCells;rw[flat_len Chn.cells_len]
theorem catS_app (a b:List Chn):chnCells (a++b)=chnCells a++chnCells b:=List.flatMap_append
theorem catV_len (a:List Val):(rowCells a).length=a.length*3:=rowCells_len a
theorem catV_app (a b:List Val):rowCells (a++b)=rowCells a++rowCells b:=List.flatMap_append
theorem chns_oneC {w:World}{l:List Chn}(h: ∀c∈l,Sl w c.v c.r.length (rowCells c.r)): ∀u∈chnCells l,u.oneCell'=true:=by
 intro u hu;obtain⟨c,hc,hu⟩:=List.mem_flatMap.1 hu;exact chn_one (h c hc) u hu
def catToS (a b:List Chn):Nat→List Chn
 |0=>[]
 |1=>a
 |_=>a++b
set_option maxHeartbeats 4000000 in
set_option maxRecDepth 100000 in
theorem grow_nilS (n:Nat)(w:World)(h1:1≤n)(hn:n≤1000):
 Calls Tryz.prog 120 #[.slice none 0 0,.int .i64 n] w fun e w'=> ∃u,e= .returned u∧w'.ownsRow w.heap.size 53 2 u 0 []∧Below w.heap.size w w':=by
 have hinfo:(Tryz.prog.info? 53).map (fun i=>(i.zero,i.size,i.bytes))=some (some (.agg #[.int .i64 0,.slice none 0 0]),2,32):=by kernel_rfl
 obtain⟨i0,hi0,hz0,hs0,hb0⟩:=info_parts hinfo
 have hold:(Builtin.firstCells i0.size 0 (.slice none 0 0)).run Tryz.prog w.drew= .ok ([]:List Value).toArray w.drew:=by
  exact run_firstCells_none w.drew i0.size 0 0 0
 have hrz: ∀ty,(Builtin.append_ #[26,3] ty #[.slice none 0 0,.int .i64 (n:Int)]).run Tryz.prog w=
  .ok (.slice (some ⟨w.heap.size,0,none⟩) (0+n) (grownCap w (0+n) 0 53)) (w.drew.alloc (.cells (([]:List Value).toArray++Builtin.zeroCells (Value.cells (Value.agg #[.int .i64 0,.slice none 0 0])) n++Builtin.zeroCells (Value.cells (Value.agg #[.int .i64 0,.slice none 0 0])) (grownCap w (0+n) 0 53-(0+n))) 53)):=fun ty=>by
  exact Lib.run_append_grow_zeros w 26 3 ty 53 i0 (.agg #[.int .i64 0,.slice none 0 0]) .i64 .i64 Tryz.underlying26 Tryz.underlying3 hi0 hz0 none 0 0 [] hold n (by omega) (by omega) (by omega) (by omega)
   (by rw[hb0];omega)
   (growslice_fits (by omega) (by rw[hb0];omega))
 have hGn:0+n≤grownCap w (0+n) 0 53:=grownCap_ge w _ _ _;have hG63:=grownCap_le_maxLen w (0+n) 0 53 (by unfold maxLen;omega);rw[Nat.zero_add]at hrz hGn hG63;generalize grownCap w n 0 53=G at hrz hGn hG63;have HG:=Lib.hid hG63
 have hsz:(([]:List Value).toArray++Builtin.zeroCells (Value.cells (Value.agg #[.int .i64 0,.slice none 0 0])) n++Builtin.zeroCells (Value.cells (Value.agg #[.int .i64 0,.slice none 0 0])) (G-n)).size=G*2:=by
  simp[Builtin.zeroCells,Value.cells];omega
 generalize ([]:List Value).toArray++Builtin.zeroCells (Value.cells (Value.agg #[.int .i64 0,.slice none 0 0])) n++Builtin.zeroCells (Value.cells (Value.agg #[.int .i64 0,.slice none 0 0])) (G-n)=cur at hrz hsz;have HZ:=Lib.hid hsz;clear hsz hold hinfo hi0 hz0 hs0 hb0;unfold maxLen at hG63;go_enter Tryz.func120,Tryz.ntmps120
 go_wp2_with (at_builtin;refine Lib.wpList_append_run _ rfl _ _ _ _ rfl _ _ rfl rfl _ _ (hrz _) ?_)
 all_goals
  go_ret;refine⟨_,rfl,⟨rfl,.inr ⟨_,G,cur,rfl,Nat.le_refl _,?_,Nat.zero_le _,HG.out,by rw[HZ.out],by simp⟩⟩,?_⟩
  ·exact heap_alloc_new w.drew _
  ·exact(Below.refl _ _).drew.alloc (Nat.le_refl _) _
set_option maxHeartbeats 1000000 in
set_option maxRecDepth 10000 in
theorem grow_zeroS (w:World):Calls Tryz.prog 120 #[.slice none 0 0,.int .i64 0] w fun e w'=>e= .returned (.slice none 0 0)∧w=w':=by
 go_enter Tryz.func120,Tryz.ntmps120
 go_wp2;go_ret;exact⟨rfl,rfl⟩
theorem grow_allS (n:Nat)(w:World)(hn:n≤1000):Calls Tryz.prog 120 #[.slice none 0 0,.int .i64 n] w fun e w'=> ∃u,e= .returned u∧w'.ownsRow w.heap.size 53 2 u 0 []∧Below w.heap.size w w':=by
 by_cases h:1≤n
 ·exact grow_nilS n w h hn
 ·obtain rfl:n=0:=by omega
  refine(grow_zeroS w).mono ?_;rintro e w' ⟨rfl,rfl⟩;exact⟨_,rfl,⟨rfl,.inl ⟨rfl,rfl⟩⟩,Below.refl _ _⟩
set_option maxHeartbeats 4000000 in
set_option maxRecDepth 10000 in
theorem concat_anyS (v va vb:Value)(a b:List Chn)(w:World)(hv:Sl w v 2 [va,vb])(ha:Sl w va a.length (chnCells a))(hb:Sl w vb b.length (chnCells b))(ho:(∀u∈chnCells a,u.oneCell'=true)∧(∀u∈chnCells b,u.oneCell'=true))(h2:a.length+b.length≤1000):
 Calls Tryz.prog 83 #[v] w fun e w'=> ∃v',e= .returned v'∧w'.ownsRow w.heap.size 53 2 v' (a++b).length (chnCells (a++b))∧Below w.heap.size w w':=by
 have HA:=Lib.hid ha;have HB:=Lib.hid hb;have HOa:=Lib.hid ho.1;have HOb:=Lib.hid ho.2;clear ho;obtain⟨A,c,rfl,q1,q2,-,q3⟩:=hv;obtain⟨g,off,rfl,hc⟩:=q3 (by simp);have z0:w.cell? ⟨g,off,none⟩=some va:=hc 0 va rfl;have z1:w.cell? ⟨g,off+1,none⟩=some vb:=hc 1 vb rfl;obtain⟨A0,c0,rfl,n0,m0,-⟩:=ha;obtain⟨A1,c1,rfl,n1,m1,-⟩:=hb;have ZB:=Lib.hid (fun(W:World) (h:Below w.heap.size w W)=>And.intro (cell_below h z0) (cell_below h z1));unfold maxLen at m0 m1 q2;clear hc;go_enter Tryz.func83,Tryz.ntmps83
 go_wp2
 go_loop [3,5,11] (fun s _ i=> ∃k:Nat,k≤2∧i= .int .i64 k∧s= .int .i64 ((catToS a b k).length:Nat)) (fun _ _ i=>2-(intOf i).toNat)
 case atStart=>exact⟨0,by omega,rfl,rfl⟩
 case round=>
  obtain⟨k,hk,rfl,rfl⟩:=hrel;have hk3:k=0∨k=1∨k=2:=by omega
  rcases hk3 with rfl|rfl|rfl
  ·have e:((catToS a b 0).length:Int)=0:=rfl
   rw[e];clear e;go_wp2
   go_round
   case rel=>exact⟨1,by omega,by go_num,by simp[catToS]⟩
   case measure=>simp[intOf]
  ·have e:(catToS a b 1).length=a.length:=rfl
   rw[e];go_wp2
   go_round
   case rel=>exact⟨2,by omega,by go_num,by simp[catToS]⟩
   case measure=>simp[intOf]
  ·have e:(catToS a b 2).length=a.length+b.length:=by simp[catToS]
   rw[e];clear e;generalize hn:a.length+b.length=n at h2;have HN:=Lib.hid hn;clear hn
   go_wp2_with fail
   refine(grow_allS n _ h2).mono ?_;rintro e w1 ⟨u0,rfl,hown1,hb1⟩;obtain⟨Au0,cu0,hu0,-⟩:=Sl.of_own hown1;rw[hu0]at hown1;rw[hu0];clear hu0;have HO:=Lib.hid hown1;clear hown1 z0 z1
   go_wp2_with fail
   go_loopw[6,8,27] (fun t _ i wr=> ∃(k:Nat) (u:Value),u=t∧k≤2∧i= .int .i64 k∧wr.ownsRow w.heap.size 53 2 u (catToS a b k).length (chnCells (catToS a b k))∧Below w.heap.size w wr) (fun _ _ i _=>2-(intOf i).toNat)
   case atStart=>exact⟨0,_,rfl,by omega,rfl,HO.out,hb1⟩
   case round=>
    obtain⟨k,u,rfl,hk,rfl,hown,hbw⟩:=hrel;obtain⟨z0,z1⟩:=ZB.out _ hbw;obtain⟨Au,cu,hu,-⟩:=Sl.of_own hown;have hk3:k=0∨k=1∨k=2:=by omega
    rcases hk3 with rfl|rfl|rfl
    ·subst hu
     go_wp2_with (at_builtin;refine wpList_app rfl (.tmp 31) (.tmp 32) 26 rfl w.heap.size 53 2 32 Tryz.underlying26 stpI _ (catToS a b 0).length _ rfl hown _ a.length (chnCells a) rfl (HA.out.below hbw) (catS_len a) (HOa.out) ?_ ?_ ?_ ?_)
     ·have:=HN.out;unfold maxLen;simp[catToS];omega
     ·have:=HN.out;simp[catToS];omega
     ·exact hbw.size
     ·intro v2 w3 hown3 hg3 hat3
      have hbw3:=below_grown hbw hg3 (own_ge hown)
      have O3:Hid (w3.ownsRow w.heap.size 53 2 v2 (catToS a b 1).length (chnCells (catToS a b 1))):=by
       have e:(catToS a b 0).length+a.length=(catToS a b 1).length:=by simp[catToS]
       rw[e]at hown3;exact hown3
      clear hown3 hg3 hat3 hown;go_wp2;go_roundw
      case rel=>exact⟨1,_,rfl,by omega,by go_num,O3.out,hbw3⟩
      case measure=>simp[intOf]
    ·subst hu
     go_wp2_with (at_builtin;refine wpList_app rfl (.tmp 31) (.tmp 32) 26 rfl w.heap.size 53 2 32 Tryz.underlying26 stpI _ (catToS a b 1).length _ rfl hown _ b.length (chnCells b) rfl (HB.out.below hbw) (catS_len b) (HOb.out) ?_ ?_ ?_ ?_)
     ·have:=HN.out;unfold maxLen;simp[catToS];omega
     ·have:=HN.out;simp[catToS];omega
     ·exact hbw.size
     ·intro v2 w3 hown3 hg3 hat3
      have hbw3:=below_grown hbw hg3 (own_ge hown)
      have O3:Hid (w3.ownsRow w.heap.size 53 2 v2 (catToS a b 2).length (chnCells (catToS a b 2))):=by
       have e:(catToS a b 1).length+b.length=(catToS a b 2).length:=by simp[catToS]
       rw[e,←catS_app]at hown3;exact hown3
      clear hown3 hg3 hat3 hown;go_wp2;go_roundw
      case rel=>exact⟨2,_,rfl,by omega,by go_num,O3.out,hbw3⟩
      case measure=>simp[intOf]
    ·have HO2:=Lib.hid hown
     clear hown hu;go_wp2;go_ret;exact⟨_,rfl,HO2.out,hbw⟩
def catToV (a b:List Val):Nat→List Val
 |0=>[]
 |1=>a
 |_=>a++b
set_option maxHeartbeats 4000000 in
set_option maxRecDepth 100000 in
theorem grow_nilV (n:Nat)(w:World)(h1:1≤n)(hn:n≤1000):
 Calls Tryz.prog 86 #[.slice none 0 0,.int .i64 n] w fun e w'=> ∃u,e= .returned u∧w'.ownsRow w.heap.size 68 3 u 0 []∧Below w.heap.size w w':=by
 have hinfo:(Tryz.prog.info? 68).map (fun i=>(i.zero,i.size,i.bytes))=some (some (.agg #[.int .i64 0,.int .i64 0,.string ⟨#[]⟩]),3,32):=by kernel_rfl
 obtain⟨i0,hi0,hz0,hs0,hb0⟩:=info_parts hinfo
 have hold:(Builtin.firstCells i0.size 0 (.slice none 0 0)).run Tryz.prog w.drew= .ok ([]:List Value).toArray w.drew:=by
  exact run_firstCells_none w.drew i0.size 0 0 0
 have hrz: ∀ty,(Builtin.append_ #[43,3] ty #[.slice none 0 0,.int .i64 (n:Int)]).run Tryz.prog w=
  .ok (.slice (some ⟨w.heap.size,0,none⟩) (0+n) (grownCap w (0+n) 0 68)) (w.drew.alloc (.cells (([]:List Value).toArray++Builtin.zeroCells (Value.cells (Value.agg #[.int .i64 0,.int .i64 0,.string ⟨#[]⟩])) n++Builtin.zeroCells (Value.cells (Value.agg #[.int .i64 0,.int .i64 0,.string ⟨#[]⟩])) (grownCap w (0+n) 0 68-(0+n))) 68)):=fun ty=>by
  exact Lib.run_append_grow_zeros w 43 3 ty 68 i0 (.agg #[.int .i64 0,.int .i64 0,.string ⟨#[]⟩]) .i64 .i64 Tryz.underlying43 Tryz.underlying3 hi0 hz0 none 0 0 [] hold n (by omega) (by omega) (by omega) (by omega)
   (by rw[hb0];omega)
   (growslice_fits (by omega) (by rw[hb0];omega))
 have hGn:0+n≤grownCap w (0+n) 0 68:=grownCap_ge w _ _ _;have hG63:=grownCap_le_maxLen w (0+n) 0 68 (by unfold maxLen;omega);rw[Nat.zero_add]at hrz hGn hG63;generalize grownCap w n 0 68=G at hrz hGn hG63;have HG:=Lib.hid hG63
 have hsz:(([]:List Value).toArray++Builtin.zeroCells (Value.cells (Value.agg #[.int .i64 0,.int .i64 0,.string ⟨#[]⟩])) n++Builtin.zeroCells (Value.cells (Value.agg #[.int .i64 0,.int .i64 0,.string ⟨#[]⟩])) (G-n)).size=G*3:=by
  simp[Builtin.zeroCells,Value.cells];omega
 generalize ([]:List Value).toArray++Builtin.zeroCells (Value.cells (Value.agg #[.int .i64 0,.int .i64 0,.string ⟨#[]⟩])) n++Builtin.zeroCells (Value.cells (Value.agg #[.int .i64 0,.int .i64 0,.string ⟨#[]⟩])) (G-n)=cur at hrz hsz;have HZ:=Lib.hid hsz;clear hsz hold hinfo hi0 hz0 hs0 hb0;unfold maxLen at hG63;go_enter Tryz.func86,Tryz.ntmps86
 go_wp2_with (at_builtin;refine Lib.wpList_append_run _ rfl _ _ _ _ rfl _ _ rfl rfl _ _ (hrz _) ?_)
 all_goals
  go_ret;refine⟨_,rfl,⟨rfl,.inr ⟨_,G,cur,rfl,Nat.le_refl _,?_,Nat.zero_le _,HG.out,by rw[HZ.out],by simp⟩⟩,?_⟩
  ·exact heap_alloc_new w.drew _
  ·exact(Below.refl _ _).drew.alloc (Nat.le_refl _) _
set_option maxHeartbeats 1000000 in
set_option maxRecDepth 10000 in
theorem grow_zeroV (w:World):Calls Tryz.prog 86 #[.slice none 0 0,.int .i64 0] w fun e w'=>e= .returned (.slice none 0 0)∧w=w':=by
 go_enter Tryz.func86,Tryz.ntmps86
 go_wp2;go_ret;exact⟨rfl,rfl⟩
theorem grow_allV (n:Nat)(w:World)(hn:n≤1000):Calls Tryz.prog 86 #[.slice none 0 0,.int .i64 n] w fun e w'=> ∃u,e= .returned u∧w'.ownsRow w.heap.size 68 3 u 0 []∧Below w.heap.size w w':=by
 by_cases h:1≤n
 ·exact grow_nilV n w h hn
 ·obtain rfl:n=0:=by omega
  refine(grow_zeroV w).mono ?_;rintro e w' ⟨rfl,rfl⟩;exact⟨_,rfl,⟨rfl,.inl ⟨rfl,rfl⟩⟩,Below.refl _ _⟩
set_option maxHeartbeats 4000000 in
set_option maxRecDepth 10000 in
theorem concat_anyV (v va vb:Value)(a b:List Val)(w:World)(hv:Sl w v 2 [va,vb])(ha:Sl w va a.length (rowCells a))(hb:Sl w vb b.length (rowCells b))(h2:a.length+b.length≤1000):
 Calls Tryz.prog 35 #[v] w fun e w'=> ∃v',e= .returned v'∧w'.ownsRow w.heap.size 68 3 v' (a++b).length (rowCells (a++b))∧Below w.heap.size w w':=by
 have HA:=Lib.hid ha;have HB:=Lib.hid hb;obtain⟨A,c,rfl,q1,q2,-,q3⟩:=hv;obtain⟨g,off,rfl,hc⟩:=q3 (by simp);have z0:w.cell? ⟨g,off,none⟩=some va:=hc 0 va rfl;have z1:w.cell? ⟨g,off+1,none⟩=some vb:=hc 1 vb rfl;obtain⟨A0,c0,rfl,n0,m0,-⟩:=ha;obtain⟨A1,c1,rfl,n1,m1,-⟩:=hb;have ZB:=Lib.hid (fun(W:World) (h:Below w.heap.size w W)=>And.intro (cell_below h z0) (cell_below h z1));unfold maxLen at m0 m1 q2;clear hc;go_enter Tryz.func35,Tryz.ntmps35
 go_wp2
 go_loop [3,5,11] (fun s _ i=> ∃k:Nat,k≤2∧i= .int .i64 k∧s= .int .i64 ((catToV a b k).length:Nat)) (fun _ _ i=>2-(intOf i).toNat)
 case atStart=>exact⟨0,by omega,rfl,rfl⟩
 case round=>
  obtain⟨k,hk,rfl,rfl⟩:=hrel;have hk3:k=0∨k=1∨k=2:=by omega
  rcases hk3 with rfl|rfl|rfl
  ·have e:((catToV a b 0).length:Int)=0:=rfl
   rw[e];clear e;go_wp2
   go_round
   case rel=>exact⟨1,by omega,by go_num,by simp[catToV]⟩
   case measure=>simp[intOf]
  ·have e:(catToV a b 1).length=a.length:=rfl
   rw[e];go_wp2
   go_round
   case rel=>exact⟨2,by omega,by go_num,by simp[catToV]⟩
   case measure=>simp[intOf]
  ·have e:(catToV a b 2).length=a.length+b.length:=by simp[catToV]
   rw[e];clear e;generalize hn:a.length+b.length=n at h2;have HN:=Lib.hid hn;clear hn
   go_wp2_with fail
   refine(grow_allV n _ h2).mono ?_;rintro e w1 ⟨u0,rfl,hown1,hb1⟩;obtain⟨Au0,cu0,hu0,-⟩:=Sl.of_own hown1;rw[hu0]at hown1;rw[hu0];clear hu0;have HO:=Lib.hid hown1;clear hown1 z0 z1
   go_wp2_with fail
   go_loopw[6,8,27] (fun t _ i wr=> ∃(k:Nat) (u:Value),u=t∧k≤2∧i= .int .i64 k∧wr.ownsRow w.heap.size 68 3 u (catToV a b k).length (rowCells (catToV a b k))∧Below w.heap.size w wr) (fun _ _ i _=>2-(intOf i).toNat)
   case atStart=>exact⟨0,_,rfl,by omega,rfl,HO.out,hb1⟩
   case round=>
    obtain⟨k,u,rfl,hk,rfl,hown,hbw⟩:=hrel;obtain⟨z0,z1⟩:=ZB.out _ hbw;obtain⟨Au,cu,hu,-⟩:=Sl.of_own hown;have hk3:k=0∨k=1∨k=2:=by omega
    rcases hk3 with rfl|rfl|rfl
    ·subst hu
     go_wp2_with (at_builtin;refine wpList_app rfl (.tmp 31) (.tmp 32) 43 rfl w.heap.size 68 3 32 Tryz.underlying43 valJ _ (catToV a b 0).length _ rfl hown _ a.length (rowCells a) rfl (HA.out.below hbw) (catV_len a) (rowCells_one a) ?_ ?_ ?_ ?_)
     ·have:=HN.out;unfold maxLen;simp[catToV];omega
     ·have:=HN.out;simp[catToV];omega
     ·exact hbw.size
     ·intro v2 w3 hown3 hg3 hat3
      have hbw3:=below_grown hbw hg3 (own_ge hown)
      have O3:Hid (w3.ownsRow w.heap.size 68 3 v2 (catToV a b 1).length (rowCells (catToV a b 1))):=by
       have e:(catToV a b 0).length+a.length=(catToV a b 1).length:=by simp[catToV]
       rw[e]at hown3;exact hown3
      clear hown3 hg3 hat3 hown;go_wp2;go_roundw
      case rel=>exact⟨1,_,rfl,by omega,by go_num,O3.out,hbw3⟩
      case measure=>simp[intOf]
    ·subst hu
     go_wp2_with (at_builtin;refine wpList_app rfl (.tmp 31) (.tmp 32) 43 rfl w.heap.size 68 3 32 Tryz.underlying43 valJ _ (catToV a b 1).length _ rfl hown _ b.length (rowCells b) rfl (HB.out.below hbw) (catV_len b) (rowCells_one b) ?_ ?_ ?_ ?_)
     ·have:=HN.out;unfold maxLen;simp[catToV];omega
     ·have:=HN.out;simp[catToV];omega
     ·exact hbw.size
     ·intro v2 w3 hown3 hg3 hat3
      have hbw3:=below_grown hbw hg3 (own_ge hown)
      have O3:Hid (w3.ownsRow w.heap.size 68 3 v2 (catToV a b 2).length (rowCells (catToV a b 2))):=by
       have e:(catToV a b 1).length+b.length=(catToV a b 2).length:=by simp[catToV]
       rw[e,←catV_app]at hown3;exact hown3
      clear hown3 hg3 hat3 hown;go_wp2;go_roundw
      case rel=>exact⟨2,_,rfl,by omega,by go_num,O3.out,hbw3⟩
      case measure=>simp[intOf]
    ·have HO2:=Lib.hid hown
     clear hown hu;go_wp2;go_ret;exact⟨_,rfl,HO2.out,hbw⟩
end Go.Proofs.YtjhbeecmdgglgaaGreatDoor
namespace Go.Proofs.YtjhbeecmdgglgaaGreatDoor
open Go.RowKit Go.Maps
set_option maxHeartbeats 4000000 in
set_option maxRecDepth 10000 in
theorem jput_any (c base:Nat)(va vb vl:Value)(a b:List Val)(m:List Chn)(w:World)(hK:Blk w c 42 #[vl])(hcb:c<base)(hbs:base≤w.heap.size)(hO:OwnC w base vl m)(ha:Sl w va a.length (rowCells a))(hb:Sl w vb b.length (rowCells b))(hl:a.length+b.length≤1000)(hm:m.length≤1000000):
 Calls Tryz.prog 34 #[va,vb,.pointer (some ⟨c,0,none⟩)] w fun e w'=>e= .returned (.tuple #[])∧(∃vl',Blk w' c 42 #[vl']∧(∃v',OwnC w' base vl' (m++[⟨v',a++b,1⟩]))∧(vl'.ownBlock=vl.ownBlock∨ ∀k,vl'.ownBlock=some k→w.heap.size≤k))∧Turned (fun k=>k=c∨vl.ownBlock=some k) w w':=by
 obtain⟨Av,cv,rfl,hc1,hc2,-⟩:=Sl.of_own hO.own;unfold maxLen at hc2;obtain⟨n9,hn9⟩: ∃n,(a++b).length=n:=⟨_,rfl⟩;have HN9:=Lib.hid hn9;obtain⟨Aa,ca,rfl,na,ma,-⟩:=id ha;obtain⟨Ab,cb,rfl,nb,mb,-⟩:=id hb;have HKC:=Lib.hid hK;have HCB:=Lib.hid hcb;have HBS:=Lib.hid hbs;have HO:=Lib.hid hO;have HBX:=Lib.hid ((below_alloc w (.cells #[.slice Aa a.length ca,.slice Ab b.length cb] 43)).drew);have HTW:Hid (Sl (w.alloc (.cells #[.slice Aa a.length ca,.slice Ab b.length cb] 43)).drew (.slice (some ⟨w.heap.size,0,none⟩) 2 2) 2 [.slice Aa a.length ca,.slice Ab b.length cb]):=Lib.hid (Sl.block (Blk.new w 43 #[.slice Aa a.length ca,.slice Ab b.length cb]) 2 2 (Nat.le_refl _) (by decide));have HCAT:=Lib.hid (concat_anyV (.slice (some ⟨w.heap.size,0,none⟩) 2 2) (.slice Aa a.length ca) (.slice Ab b.length cb) a b (w.alloc (.cells #[.slice Aa a.length ca,.slice Ab b.length cb] 43)).drew HTW.out (ha.below HBX.out) (hb.below HBX.out) (by omega));rw[hn9]at HCAT;unfold maxLen at ma mb;clear hn9 hK hO ha hb hbs hcb HTW;go_enter Tryz.func34,Tryz.ntmps34
 go_upto_region 0 with fail
 refine tr (S:=(fun _=>True)) trivial (fun hHeld=> ?_);refine tk 1 ?_;refine tk 2 ?_;refine tc2 0 3 ?_ ?_;intro K hK;have dq:=(HKC.out.drew.cell 0 _ rfl);go_simp;clear dq;refine hK.out _ _ trivial (fun hHeld0=> ?_);clear hK K;refine tc 3 ?_;intro K hK;go_simp;refine hK.out _ _ trivial (fun hHeld3=> ?_);clear hK K;refine tc 4 ?_;intro K hK;go_simp;refine Calls.mono (by with_reducible exact HCAT.out) ?_;rintro e w2 ⟨v9,rfl,ho9,hb9⟩;obtain⟨A9,c9,rfl,-⟩:=Sl.of_own ho9;have HB2:=Lib.hid (below_trans HBX.out hb9);have HO9:=Lib.hid ho9;have HK2:=Lib.hid (HKC.out.below HB2.out);clear ho9 hb9
 focus go_wp2_with fail
 refine hK.out _ _ trivial (fun hHeld4=> ?_);clear hK K;refine tk 5 ?_;refine tc 6 ?_;intro K hK;go_simp;refine hK.out _ _ trivial (fun hHeld6=> ?_);clear hK K;rotate_left;intro K hK;go_simp;refine hK.out _ _ trivial (fun hHeld3=> ?_);clear hK K;refine tc2 0 4 ?_ ?_;intro K hK;have dq:=((HKC.out.alloc (.cells #[.slice Aa a.length ca,.slice Ab b.length cb] 43)).drew.cell 0 _ rfl);go_simp;clear dq;refine hK.out _ _ trivial (fun hHeld0=> ?_);clear hK K;refine tc 4 ?_;intro K hK;go_simp;refine Calls.mono (by with_reducible exact HCAT.out) ?_;rintro e w2 ⟨v9,rfl,ho9,hb9⟩;obtain⟨A9,c9,rfl,-⟩:=Sl.of_own ho9;have HB2:=Lib.hid (below_trans HBX.out hb9);have HO9:=Lib.hid ho9;have HK2:=Lib.hid (HKC.out.below HB2.out);clear ho9 hb9
 focus go_wp2_with fail
 refine hK.out _ _ trivial (fun hHeld4=> ?_);clear hK K;refine tk 5 ?_;refine tc 6 ?_;intro K hK;go_simp;refine hK.out _ _ trivial (fun hHeld6=> ?_);clear hK K;rotate_left;intro K hK;go_simp;refine Calls.mono (by with_reducible exact HCAT.out) ?_;rintro e w2 ⟨v9,rfl,ho9,hb9⟩;obtain⟨A9,c9,rfl,-⟩:=Sl.of_own ho9;have HB2:=Lib.hid (below_trans HBX.out hb9);have HO9:=Lib.hid ho9;have HK2:=Lib.hid (HKC.out.below HB2.out);clear ho9 hb9
 focus go_wp2_with fail
 refine hK.out _ _ trivial (fun hHeld4=> ?_);clear hK K;refine tk 5 ?_;refine tc2 0 6 ?_ ?_;intro K hK;have dq:=(HK2.out.cell 0 _ rfl);go_simp;clear dq;refine hK.out _ _ trivial (fun hHeld0=> ?_);clear hK K;refine tc 6 ?_;intro K hK;go_simp;refine hK.out _ _ trivial (fun hHeld6=> ?_);clear hK K;rotate_left;intro K hK;go_simp;refine hK.out _ _ trivial (fun hHeld6=> ?_);clear hK K;refine tc 0 ?_;intro K hK;have dq:=((HK2.out.alloc (.cells #[.int .i64 1,.slice A9 n9 c9] 48)).cell 0 _ rfl);go_simp;clear dq;refine hK.out _ _ trivial (fun hHeld0=> ?_);clear hK K
 all_goals
  refine tc 7 ?_;intro K hK;have HOX:=Lib.hid ((HO.out.below HB2.out).alloc (.cells #[.int .i64 1,.slice A9 n9 c9] 48));have HCH:=Lib.hid (one_chn w2 ⟨.slice A9 n9 c9,a++b,1⟩);have hsz:base≤(w2.alloc (.cells #[.int .i64 1,.slice A9 n9 c9] 48)).heap.size:=by have:=HB2.out.size;have:=HBS.out;rw[World.size_alloc];omega
  refine step_app (by rfl) _ _ 42 (by rfl) base 48 2 32 Tryz.underlying42 chgI (.slice Av m.length cv) m.length _ (by rfl) HOX.out.own _ 1 (Chn.cells ⟨.slice A9 n9 c9,a++b,1⟩) (by rfl) HCH.out rfl (chn_one (Sl.of_own HO9.out)) (by unfold maxLen;omega) (by omega) hsz ?_;intro v3 w3 hown3 hg3 hat3
  have HOW:=Lib.hid (HOX.out.snoc (c:=⟨.slice A9 n9 c9,a++b,1⟩) hown3 hg3 hat3 (by show Sl _ _ (a++b).length _;rw[HN9.out];exact(Sl.of_own HO9.out).below (below_alloc w2 (.cells #[.int .i64 1,.slice A9 n9 c9] 48))) (fun k hk=>by
   have h1:=own_ge HO9.out k hk;have h2:=own_lt HO9.out k hk;have h3:w.heap.size≤(w.alloc (.cells #[.slice Aa a.length ca,.slice Ab b.length cb] 43)).drew.heap.size:=HBX.out.size;refine⟨by have:=HBS.out;omega,by rw[World.size_alloc];omega,fun e=> ?_⟩;have:=(own_lt HO.out.own k e);omega))
  have HK3:Hid (Blk w3 c 42 #[.slice Av m.length cv]):=Lib.hid (blk_turned (HK2.out.alloc (.cells #[.int .i64 1,.slice A9 n9 c9] 48)) (turned_grown hg3) (fun e=>by have:=own_ge HO.out.own _ e;have:=HCB.out;omega));have HT3:Hid (Turned (fun k=>k=c∨(Value.slice Av m.length cv).ownBlock=some k) w w3):=Lib.hid ((turned_below (F:=fun k=>k=c∨(Value.slice Av m.length cv).ownBlock=some k) (HB2.out.alloc HB2.out.size (.cells #[.int .i64 1,.slice A9 n9 c9] 48))).transN (turned_grown hg3) (fun k _ e=> .inr e));have HAT:=Lib.hid hat3;obtain⟨A3,n3,c3,hv3⟩: ∃A n c,v3= .slice A n c:=by obtain⟨A,c,e,-⟩:=Sl.of_own hown3;exact⟨A,_,c,e⟩
  subst hv3;clear hown3 hg3 hat3 hsz;refine hK.out _ _ trivial (fun hHeld7=> ?_);clear hK K;refine tc 8 ?_;intro K hK;have dq:=HK3.out.cell 0 _ rfl;have fq:=HK3.out.free 0;go_simp;clear dq fq;refine hK.out _ _ trivial (fun hHeld8=> ?_);clear hK K;refine td ?_
 all_goals
  go_wp2_with fail
  go_end0
  have HTF:=Lib.hid (HT3.out.trans ((turned_set w3 ⟨c,0,none⟩ (.slice A3 n3 c3)).imp (fun k _ e=>(.inl e:k=c∨(Value.slice Av m.length cv).ownBlock=some k))))
  exact⟨rfl,⟨_,HK3.out.set_ 0 _,⟨_,HOW.out.set HCB.out _⟩,by
   rcases HAT.out with e|e
   ·exact .inl e
   ·refine .inr (fun k hk=> ?_)
    rw[hk]at e;injection e with e;have:=HB2.out.size;rw[e,World.size_alloc];omega⟩,HTF.out⟩
end Go.Proofs.YtjhbeecmdgglgaaGreatDoor
namespace Go.Proofs.YtjhbeecmdgglgaaGreatDoor
open Go.RowKit Go.Maps
theorem madeCells_addB (z:Array Value)(m:Nat):(madeCells z (z.size+m)).toList=z.toList++(madeCells z m).toList:=by
 apply List.ext_getElem?;intro i;rw[List.getElem?_append];simp only[madeCells,Array.toList_map,Array.toList_range,List.getElem?_map,Array.length_toList];by_cases h:i<z.size
 ·simp[h,show i<z.size+m from by omega,Nat.mod_eq_of_lt h]
 ·rw[if_neg h]
  by_cases h2:i<z.size+m
  ·simp[h2,show i-z.size<m from by omega,Nat.mod_eq_sub_mod (show z.size≤i by omega)]
  ·simp[h2,show ¬i-z.size<m from by omega]
theorem made_b (n:Nat):(madeCells (.bool false:Value).cells (n*1)).toList=List.replicate n (.bool false):=by
 induction n with
 |zero=>simp[madeCells]
 |succ n ih=>
  have e:(n+1)*1=(Value.bool false).cells.size+n*1:=by show _=1+n*1;omega
  rw[e,madeCells_addB,ih];simp[List.replicate_succ,Value.cells]
def zeroV:Value:= .agg #[.int .i64 0,.int .i64 0,.string ⟨#[]⟩]
theorem made_v (n:Nat):(madeCells zeroV.cells (n*3)).toList=rowCells (nullsR n):=by
 induction n with
 |zero=>simp[madeCells,nullsR,rowCells]
 |succ n ih=>
  have e:(n+1)*3=zeroV.cells.size+n*3:=by show _=3+n*3;omega
  rw[e,madeCells_addB,ih];show zeroV.cells.toList++rowCells (nullsR n)=rowCells (nullsR (n+1));unfold nullsR;rw[List.replicate_succ];rfl
theorem bool_make (n:Nat)(hn:n≤4096): ∃zs:Array Value,zs=((List.replicate n false).map Value.bool).toArray∧ ∀w:World,(Instr.makeSlice 72 (.int .i64 (n:Int)) (.int .i64 (n:Int))).run Tryz.prog w= .ok (.slice (some ⟨w.heap.size,0,none⟩) n n) (w.alloc (.cells zs 4)):=by
 have h:(Tryz.prog.info? 4).map (fun i=>(i.zero,i.size,i.bytes))=some (some (.bool false),1,1):=by kernel_rfl
 obtain⟨i,hi,h1,h2,h3⟩:=info_parts h;refine⟨madeCells (.bool false:Value).cells (n*1),Array.toList_inj.1 (by rw[made_b];simp),fun w=> ?_⟩;have:=run_make (P:=Tryz.prog) w 72 4 i _ Tryz.underlying72 hi h1 .i64 .i64 (n:Int) (n:Int) (by omega) (by omega) (by rw[h3];omega) (by omega);rw[h2]at this;simpa using this
theorem val_make (n:Nat)(hn:n≤4096): ∃zs:Array Value,zs=(rowCells (nullsR n)).toArray∧ ∀w:World,(Instr.makeSlice 43 (.int .i64 (n:Int)) (.int .i64 (n:Int))).run Tryz.prog w= .ok (.slice (some ⟨w.heap.size,0,none⟩) n n) (w.alloc (.cells zs 68)):=by
 have h:(Tryz.prog.info? 68).map (fun i=>(i.zero,i.size,i.bytes))=some (some zeroV,3,32):=by kernel_rfl
 obtain⟨i,hi,h1,h2,h3⟩:=info_parts h;refine⟨madeCells zeroV.cells (n*3),Array.toList_inj.1 (by rw[made_v]),fun w=> ?_⟩;have:=run_make (P:=Tryz.prog) w 43 68 i _ Tryz.underlying43 hi h1 .i64 .i64 (n:Int) (n:Int) (by omega) (by omega) (by rw[h3];omega) (by omega);rw[h2]at this;simpa using this
theorem nulls_len (n:Nat):(nullsR n).length=n:=List.length_replicate
theorem nulls_sl (W:World)(n:Nat)(hn:n≤4096):Sl (W.alloc (.cells (rowCells (nullsR n)).toArray 68)) (.slice (some ⟨W.heap.size,0,none⟩) n n) (nullsR n).length (rowCells (nullsR n)):=by
 rw[nulls_len];have:=Sl.block (Blk.new W 68 (rowCells (nullsR n)).toArray) n n (Nat.le_refl _) (by unfold maxLen;omega);simpa using this
def BRow (w:World) (g:Nat) (B:List Bool):Prop:=Blk w g 4 (B.map Value.bool).toArray
theorem BRow.cell {w:World}{g:Nat}{B:List Bool}(h:BRow w g B){k:Nat}{b:Bool}(hk:B[k]?=some b):w.cell? ⟨g,k,none⟩=some (.bool b):=Blk.cell h k _ (by rw[List.getElem?_toArray,List.getElem?_map,hk];rfl)
theorem BRow.set {w:World}{g:Nat}{B:List Bool}(h:BRow w g B)(k:Nat)(b:Bool):BRow (w.setCell ⟨g,k,none⟩ (.bool b)) g (B.set k b):=by
 have h2:=Blk.set_ h k (.bool b);unfold BRow;rw[List.map_set,←List.setIfInBounds_toArray];exact h2
end Go.Proofs.YtjhbeecmdgglgaaGreatDoor
