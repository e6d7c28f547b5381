/-Plans: slices.Concat of two lists; typesFine; unlike. Plans: unlike. The reference's FormOf. step and sign; changes in form. What buffers need of rows -/
import Derived.Test.YtjhbeecmdgglgaaGreatDoorGrpV5
import Derived.Lib.Walk
import Derived.Lib.SliceRun
import Derived.Lib.AppendZerosOnto
import Derived.Maps.OwnOps
import Derived.Maps.Views
import Derived.Test.YtjhbeecmdgglgaaGreatDoorGrpV3
import Derived.Test.YtjhbeecmdgglgaaGreatDoorGrpV4
import Derived.Maps.OwnSet
import Derived.StringKeys
import Derived.Test.YtjhbeecmdgglgaaGreatDoorGrpV1
import Derived.SizedLaws
import Derived.Deep.Fields
set_option linter.unusedSimpArgs false
set_option linter.unusedVariables false
namespace Go.Proofs.YtjhbeecmdgglgaaGreatDoor
open Go.RowKit Go.Maps
theorem intI:EInfo Tryz.prog 3 1 8:=by
 have h:(Tryz.prog.info? 3).map (fun i=>(i.zero,i.size,i.bytes))=some (some (.int .i64 0),1,8):=by kernel_rfl
 obtain⟨i,hi,h1,h2,h3⟩:=info_parts h;exact⟨i,_,hi,h1,h2,h3,rfl,by omega⟩
set_option maxHeartbeats 4000000 in
set_option maxRecDepth 100000 in
theorem grow_nil (n:Nat)(w:World)(h1:1≤n)(hn:n≤1000):
 Calls Tryz.prog 134 #[.slice none 0 0,.int .i64 n] w fun e w'=> ∃g G,e= .returned (.slice (some ⟨g,0,none⟩) 0 G)∧w'.ownsRow w.heap.size 3 1 (.slice (some ⟨g,0,none⟩) 0 G) 0 []∧Below w.heap.size w w':=by
 have hinfo:(Tryz.prog.info? 3).map (fun i=>(i.zero,i.size,i.bytes))=some (some (.int .i64 0),1,8):=by kernel_rfl
 obtain⟨i0,hi0,hz0,hs0,hb0⟩:=info_parts hinfo
 have hold:(Builtin.firstCells i0.size 0 (.slice none 0 0)).run Tryz.prog w.drew= .ok ([]:List Value).toArray w.drew:=by
  exact run_firstCells_none w.drew i0.size 0 0 0
 have hrz: ∀ty,(Builtin.append_ #[22,3] ty #[.slice none 0 0,.int .i64 (n:Int)]).run Tryz.prog w=
  .ok (.slice (some ⟨w.heap.size,0,none⟩) (0+n) (grownCap w (0+n) 0 3)) (w.drew.alloc (.cells (([]:List Value).toArray++Builtin.zeroCells (Value.int .i64 0).cells n++Builtin.zeroCells (Value.int .i64 0).cells (grownCap w (0+n) 0 3-(0+n))) 3)):=fun ty=>by
  exact Lib.run_append_grow_zeros w 22 3 ty 3 i0 (.int .i64 0) .i64 .i64 Tryz.underlying22 Tryz.underlying3 hi0 hz0 none 0 0 [] hold n (by omega) (by omega) (by omega) (by omega)
   (by rw[hb0];omega)
   (growslice_fits (by omega) (by rw[hb0];omega))
 have hGn:0+n≤grownCap w (0+n) 0 3:=grownCap_ge w _ _ _;have hG63:=grownCap_le_maxLen w (0+n) 0 3 (by unfold maxLen;omega);rw[Nat.zero_add]at hrz hGn hG63;generalize grownCap w n 0 3=G at hrz hGn hG63;have HG:=Lib.hid hG63
 have hsz:(([]:List Value).toArray++Builtin.zeroCells (Value.int .i64 0).cells n++Builtin.zeroCells (Value.int .i64 0).cells (G-n)).size=G:=by
  simp[Builtin.zeroCells,Value.cells];omega
 generalize ([]:List Value).toArray++Builtin.zeroCells (Value.int .i64 0).cells n++Builtin.zeroCells (Value.int .i64 0).cells (G-n)=cur at hrz hsz;have HZ:=Lib.hid hsz;clear hsz hold hinfo hi0 hz0 hs0 hb0;unfold maxLen at hG63;go_enter Tryz.func134,Tryz.ntmps134
 go_wp2_with (at_builtin;refine Lib.wpList_append_run _ rfl _ _ _ _ rfl _ _ rfl rfl _ _ (hrz _) ?_)
 all_goals
  go_ret;refine⟨_,G,rfl,⟨rfl,.inr ⟨_,G,cur,rfl,Nat.le_refl _,?_,Nat.zero_le _,HG.out,by rw[HZ.out];omega,by simp⟩⟩,?_⟩
  ·exact heap_alloc_new w.drew _
  ·exact(Below.refl _ _).drew.alloc (Nat.le_refl _) _
def catTo (a b:List Int):Nat→List Int
 |0=>[]
 |1=>a
 |_=>a++b
theorem intCells_app (a b:List Int):intCells (a++b)=intCells a++intCells b:=List.map_append
theorem intCells_len (a:List Int):(intCells a).length=a.length:=List.length_map _
theorem intCells_one (a:List Int): ∀u∈intCells a,u.oneCell'=true:=by
 intro u hu;obtain⟨b,-,rfl⟩:=List.mem_map.1 hu;rfl
set_option maxHeartbeats 4000000 in
set_option maxRecDepth 10000 in
theorem concat_any (v va vb:Value)(a b:List Int)(w:World)(hv:Sl w v 2 [va,vb])(ha:Sl w va a.length (intCells a))(hb:Sl w vb b.length (intCells b))(h1:1≤a.length+b.length)(h2:a.length+b.length≤1000):
 Calls Tryz.prog 101 #[v] w fun e w'=> ∃v',e= .returned v'∧Sl w' v' (a++b).length (intCells (a++b))∧(∀k,v'.ownBlock=some k→w.heap.size≤k)∧Below w.heap.size w w':=by
 have HA:=Lib.hid ha;have HB:=Lib.hid hb;obtain⟨A,c,rfl,q1,q2,-,q3⟩:=hv;obtain⟨g,off,rfl,hc⟩:=q3 (by simp);have z0:w.cell? ⟨g,off,none⟩=some va:=hc 0 va rfl;have z1:w.cell? ⟨g,off+1,none⟩=some vb:=hc 1 vb rfl;obtain⟨A0,c0,rfl,n0,m0,-⟩:=ha;obtain⟨A1,c1,rfl,n1,m1,-⟩:=hb;have ZB:=Lib.hid (fun(W:World) (h:Below w.heap.size w W)=>And.intro (cell_below h z0) (cell_below h z1));unfold maxLen at m0 m1 q2;clear hc;go_enter Tryz.func101,Tryz.ntmps101
 go_wp2
 go_loop [3,5,11] (fun s _ i=> ∃k:Nat,k≤2∧i= .int .i64 k∧s= .int .i64 ((catTo a b k).length:Nat)) (fun _ _ i=>2-(intOf i).toNat)
 case atStart=>exact⟨0,by omega,rfl,rfl⟩
 case round=>
  obtain⟨k,hk,rfl,rfl⟩:=hrel;have hk3:k=0∨k=1∨k=2:=by omega
  rcases hk3 with rfl|rfl|rfl
  ·have e:((catTo a b 0).length:Int)=0:=rfl
   rw[e];clear e;go_wp2
   go_round
   case rel=>exact⟨1,by omega,by go_num,by simp[catTo]⟩
   case measure=>simp[intOf]
  ·have e:(catTo a b 1).length=a.length:=rfl
   rw[e];go_wp2
   go_round
   case rel=>exact⟨2,by omega,by go_num,by simp[catTo]⟩
   case measure=>simp[intOf]
  ·have e:(catTo a b 2).length=a.length+b.length:=by simp[catTo]
   rw[e];clear e;generalize hn:a.length+b.length=n at h1 h2;have HN:=Lib.hid hn;clear hn
   go_wp2_with fail
   refine(grow_nil n _ h1 h2).mono ?_;rintro e w1 ⟨g1,G,rfl,hown1,hb1⟩;have HO:=Lib.hid hown1;clear hown1 z0 z1
   go_wp2_with fail
   go_loopw[6,8,27] (fun t _ i wr=> ∃(k:Nat) (u:Value),u=t∧k≤2∧i= .int .i64 k∧wr.ownsRow w.heap.size 3 1 u (catTo a b k).length (intCells (catTo a b k))∧Below w.heap.size w wr) (fun _ _ i _=>2-(intOf i).toNat)
   case atStart=>exact⟨0,_,rfl,by omega,rfl,HO.out,hb1⟩
   case round=>
    obtain⟨k,u,rfl,hk,rfl,hown,hbw⟩:=hrel;obtain⟨z0,z1⟩:=ZB.out _ hbw;obtain⟨Au,cu,hu,-⟩:=Sl.of_own hown;have hk3:k=0∨k=1∨k=2:=by omega
    rcases hk3 with rfl|rfl|rfl
    ·subst hu
     go_wp2_with (at_builtin;refine wpList_app rfl (.tmp 31) (.tmp 32) 22 rfl w.heap.size 3 1 8 Tryz.underlying22 intI _ (catTo a b 0).length _ rfl hown _ a.length (intCells a) rfl (HA.out.below hbw) (by rw[intCells_len];omega) (intCells_one a) ?_ ?_ ?_ ?_)
     ·have:=HN.out;unfold maxLen;simp[catTo];omega
     ·have:=HN.out;simp[catTo];omega
     ·exact hbw.size
     ·intro v2 w3 hown3 hg3 hat3
      have hbw3:=below_grown hbw hg3 (own_ge hown)
      have O3:Hid (w3.ownsRow w.heap.size 3 1 v2 (catTo a b 1).length (intCells (catTo a b 1))):=by
       have e:(catTo a b 0).length+a.length=(catTo a b 1).length:=by simp[catTo]
       rw[e]at hown3;exact hown3
      clear hown3 hg3 hat3 hown;go_wp2;go_roundw
      case rel=>exact⟨1,_,rfl,by omega,by go_num,O3.out,hbw3⟩
      case measure=>simp[intOf]
    ·subst hu
     go_wp2_with (at_builtin;refine wpList_app rfl (.tmp 31) (.tmp 32) 22 rfl w.heap.size 3 1 8 Tryz.underlying22 intI _ (catTo a b 1).length _ rfl hown _ b.length (intCells b) rfl (HB.out.below hbw) (by rw[intCells_len];omega) (intCells_one b) ?_ ?_ ?_ ?_)
     ·have:=HN.out;unfold maxLen;simp[catTo];omega
     ·have:=HN.out;simp[catTo];omega
     ·exact hbw.size
     ·intro v2 w3 hown3 hg3 hat3
      have hbw3:=below_grown hbw hg3 (own_ge hown)
      have O3:Hid (w3.ownsRow w.heap.size 3 1 v2 (catTo a b 2).length (intCells (catTo a b 2))):=by
       have e:(catTo a b 1).length+b.length=(catTo a b 2).length:=by simp[catTo]
       rw[e,←intCells_app]at hown3;exact hown3
      clear hown3 hg3 hat3 hown;go_wp2;go_roundw
      case rel=>exact⟨2,_,rfl,by omega,by go_num,O3.out,hbw3⟩
      case measure=>simp[intOf]
    ·have HO2:=Lib.hid hown
     clear hown hu;go_wp2;go_ret;exact⟨_,rfl,Sl.of_own HO2.out,own_ge HO2.out,hbw⟩
set_option maxHeartbeats 400000 in
set_option maxRecDepth 10000 in
theorem typeOne_any (n:Int)(w:World):Calls Tryz.prog 131 #[.int .i64 n] w fun e w'=>e= .returned (.bool (btw n 1 3))∧w=w':=by
 go_enter Tryz.func131,Tryz.ntmps131
 go_wp2_with (go_at_call 127;refine(between_any _ _ _ _).mono ?_;rintro e w' ⟨rfl,rfl⟩)
 go_ret;exact⟨rfl,rfl⟩
set_option maxHeartbeats 1000000 in
set_option maxRecDepth 10000 in
theorem allTypes_any (v:Value)(l:List Int)(w:World)(h:Sl w v l.length (intCells l)):
 Calls Tryz.prog 130 #[v,.func (.func 131) #[] #[]] w fun e w'=>e= .returned (.bool (allB (fun n=>btw n 1 3) l))∧w=w':=by
 have HH:=Lib.hid h;obtain⟨A,c,rfl,h1,h2,-⟩:=h;unfold maxLen at h2;go_enter Tryz.func130,Tryz.ntmps130
 go_wp2
 go_loop [6,9] (fun _ i=> ∃k:Nat,k≤l.length∧i= .int .i64 k∧Hid (∀x∈l.take k,btw x 1 3=true)) (fun _ i=>l.length-(intOf i).toNat)
 case atStart=>exact⟨0,by omega,rfl,by simp[Hid]⟩
 case round=>
  obtain⟨k,hk,rfl,H⟩:=hrel;by_cases hlt:k<l.length
  ·obtain⟨b,off,rfl,-,hc⟩:=int_at HH.out rfl hlt
   have c1:=hc w (Below.refl _ _);have hg:l[k]?=some (l.getD k 0):=by simp[hlt]
   generalize l.getD k 0=n at c1 hg;have HX:=Lib.hid hg;clear hg hc;cases hq:btw n 1 3
   ·have e1:=Lib.hid (all_no (f:=fun n=>btw n 1 3) HX.out hq)
    go_wp2_with (go_at_call 131;refine(typeOne_any n _).mono ?_;rintro e w1 ⟨rfl,rfl⟩)
    go_ret;exact⟨ret_bool e1.out.symm,rfl⟩
   ·have e1:=Lib.hid (all_step (f:=fun n=>btw n 1 3) H.out HX.out hq)
    go_wp2_with (go_at_call 131;refine(typeOne_any n _).mono ?_;rintro e w1 ⟨rfl,rfl⟩)
    go_round
    case rel=>exact⟨k+1,by omega,by go_num,e1.out⟩
    case measure=>simp[intOf];omega
  ·obtain rfl:k=l.length:=by omega
   have e1:=Lib.hid (all_yes (f:=fun n:Int=>btw n 1 3) H.out);go_wp2;go_ret;exact⟨ret_bool e1.out.symm,rfl⟩
end Go.Proofs.YtjhbeecmdgglgaaGreatDoor
namespace Go.Proofs.YtjhbeecmdgglgaaGreatDoor
open Go.RowKit Go.Maps
def unlR (n:Int) (seen:List Int):List Int→Bool
 |[]=>true
 |x::r=>(btw x 0 (n-1)&&seen.count x==0)&&unlR n (seen++[x]) r
def unlikeB (l:List Int) (n:Int):Bool:=unlR n [] l
theorem unl_step {l:List Int}{n x:Int}{k:Nat}(hk:l[k]?=some x):unlR n (l.take k) (l.drop k)=((btw x 0 (n-1)&&(l.take k).count x==0)&&unlR n (l.take (k+1)) (l.drop (k+1))):=by
 obtain⟨hlt,rfl⟩:=List.getElem?_eq_some_iff.1 hk;rw[List.drop_eq_getElem_cons hlt,unlR,List.take_add_one,hk];rfl
theorem unl_end {l:List Int}{n:Int}:unlR n (l.take l.length) (l.drop l.length)=true:=by rw[List.drop_length];rfl
def Counts (D:DataW Unit) (l:List Int):Prop:=IsMap D∧ ∀y:Int,(Lit.int .i64 y).wf=true→D.atKey (.int .i64 y) (.lit (.int .i64 0))= .lit (.int .i64 (l.count y:Nat))
theorem wf_of {x:Int}(h: -9223372036854775808≤x∧x≤9223372036854775807):(Lit.int .i64 x).wf=true:=by
 have e:IntKind.i64.min= -9223372036854775808:=by decide
 simp only[Lit.wf,e];simpa using h
theorem counts_none:Counts (.map []) []:=⟨⟨[],rfl⟩,fun _ _=>rfl⟩
theorem isKey_int (x:Int):WideAt.IsKeyLit (.int .i64 x):=trivial
theorem isMap_put {D:DataW Unit}(h:IsMap D)(k:Lit)(d:DataW Unit):IsMap (D.put k d):=by
 obtain⟨es,rfl⟩:=h;exact⟨_,rfl⟩
theorem counts_put {D:DataW Unit}{l:List Int}{x:Int}(h:Counts D l):Counts (D.put (.int .i64 x) (.lit (.int .i64 ((l.count x:Nat)+1:Int)))) (l++[x]):=by
 refine⟨isMap_put h.1 _ _,fun y hy=> ?_⟩;by_cases e:y=x
 ·subst e
  rw[atKey_put_same h.1 (isKey_int y)];simp
 ·rw[atKey_put_other (by intro h;injection h with _ h;exact e h),h.2 y hy]
  have:List.count y [x]=0:=by rw[List.count_eq_zero];simpa using e
  rw[List.count_append,this,Nat.add_zero]
theorem lit_inj {a b:Int}(h:(DataW.lit (.int .i64 a):DataW Unit)= .lit (.int .i64 b)):a=b:=by
 injection h with h;injection h
theorem lawI:Keyed Tryz.prog 3:=int_keyed Tryz.underlying3
theorem zeroI (w:World):(zeroValue 3).run Tryz.prog w= .ok (.int .i64 0) w:=by kernel_rfl
set_option maxHeartbeats 2000000 in
set_option maxRecDepth 100000 in
theorem unlOne_any {x n:Int}{bm bn M k:Nat}{D:DataW Unit}{l:List Int}(w:World)(K1:Blk w bm 201 #[.map (some M)])(K2:Blk w bn 3 #[.int .i64 n])(hown:w.ownsMap Tryz.prog 3 (plainElem Tryz.prog 3) M k D)(hk:k≤1000)(hD:Counts D l)(hl:l.length≤1000)
 (hx: -9223372036854775808≤x∧x≤9223372036854775807) (n1:bm≠M) (n2:bn≠M):
 Calls Tryz.prog 160 #[.int .i64 x,.pointer (some ⟨bm,0,none⟩),.pointer (some ⟨bn,0,none⟩)] w fun e w'=>e= .returned (.bool (btw x 0 (n-1)&&l.count x==0))∧
  w'.ownsMap Tryz.prog 3 (plainElem Tryz.prog 3) M (k+1) (D.put (.int .i64 x) (.lit (.int .i64 ((l.count x:Nat)+1:Int))))∧w.grownBy w' (some M):=by
 have hwf:=wf_of hx;have hkey:keyOf Tryz.prog 3 (.int .i64 x)=some (.int .i64 x):=keyOf_int_mk Tryz.underlying3 hwf;obtain⟨c,hrun,hat,-⟩:=hown.lookup_int (t:=201) lawI Tryz.underlying201 Tryz.underlying3 (zeroI _) hkey
 have hc:c=(l.count x:Nat):=by
  have:=hat.symm.trans (hD.2 x hwf);injection this with this;injection this
 subst hc;have hcl:l.count x≤1000:=Nat.le_trans (List.count_le_length) hl;have hput:=atKey_put_same (D:=D) hD.1 (isKey_int x) (.lit (.int .i64 ((l.count x:Nat)+1:Int))) (.lit (.int .i64 0));have HP:=Lib.hid hput;have HK:=Lib.hid hkey;have z1:=K1.cell 0 _ rfl;have z2:=K2.cell 0 _ rfl;have m1:some M≠some bm:=fun h=>n1 (Option.some.inj h).symm;have m2:some M≠some bn:=fun h=>n2 (Option.some.inj h).symm;have HM1:=Lib.hid m1;have HM2:=Lib.hid m2;have hwc:(Lit.int .i64 ((l.count x:Nat)+1:Int)).wf=true:=wf_of (by omega);have HW:=Lib.hid hwc;generalize l.count x=q at hrun hcl HP HW⊢;have hkk:k<maxLen:=by unfold maxLen;omega
 have HKK:=Lib.hid hkk;clear hat hput hkey hwf m1 m2 hwc hD hkk n1 n2;by_cases h1:0≤x
 ·by_cases h2:x<n
  ·have E:Hid ((btw x 0 (n-1)&&q==0)=(q==0)):=Lib.hid (by rw[btw_yes h1 (by omega)];rfl)
   go_enter Tryz.func160,Tryz.ntmps160
   go_wp2_with (at_mapUpdate;refine wpList_mapUpdate_own _ rfl _ _ _ 201 rfl 3 3 lawI Tryz.underlying201 _ M k _ rfl hown HKK.out _ _ _ rfl rfl HK.out _ [] (plainElem_int Tryz.underlying3 HW.out) ?_;intro w1 hown1 hgrow1
                have y1:=(K1.grown hgrow1 HM1.out).cell 0 _ rfl;have y2:=(K2.grown hgrow1 HM2.out).cell 0 _ rfl;obtain⟨c2,hrun2,hat2,-⟩:=hown1.lookup_int (t:=201) lawI Tryz.underlying201 Tryz.underlying3 (zeroI _) HK.out
                have hc2:(c2==1)=(q==0):=by
                 have hcc:=lit_inj (hat2.symm.trans HP.out);rw[hcc,Bool.eq_iff_iff];simp;omega
                clear hrun hat2)
   go_ret;exact⟨ret_bool (by rw[E.out]),hown1,hgrow1⟩
  ·have E:Hid ((btw x 0 (n-1)&&q==0)=false):=Lib.hid (by rw[btw_no (by omega)];rfl)
   go_enter Tryz.func160,Tryz.ntmps160
   go_wp2_with (at_mapUpdate;refine wpList_mapUpdate_own _ rfl _ _ _ 201 rfl 3 3 lawI Tryz.underlying201 _ M k _ rfl hown HKK.out _ _ _ rfl rfl HK.out _ [] (plainElem_int Tryz.underlying3 HW.out) ?_;intro w1 hown1 hgrow1
                have y1:=(K1.grown hgrow1 HM1.out).cell 0 _ rfl;have y2:=(K2.grown hgrow1 HM2.out).cell 0 _ rfl;clear hrun)
   go_ret;exact⟨ret_bool (by rw[E.out]),hown1,hgrow1⟩
 ·have E:Hid ((btw x 0 (n-1)&&q==0)=false):=Lib.hid (by rw[btw_no (by omega)];rfl)
  go_enter Tryz.func160,Tryz.ntmps160
  go_wp2_with (at_mapUpdate;refine wpList_mapUpdate_own _ rfl _ _ _ 201 rfl 3 3 lawI Tryz.underlying201 _ M k _ rfl hown HKK.out _ _ _ rfl rfl HK.out _ [] (plainElem_int Tryz.underlying3 HW.out) ?_;intro w1 hown1 hgrow1
               have y1:=(K1.grown hgrow1 HM1.out).cell 0 _ rfl;have y2:=(K2.grown hgrow1 HM2.out).cell 0 _ rfl;clear hrun)
  go_ret;exact⟨ret_bool (by rw[E.out]),hown1,hgrow1⟩
set_option maxHeartbeats 2000000 in
set_option maxRecDepth 100000 in
theorem allUnl_any {v:Value}{l:List Int}{n:Int}{B bm bn M:Nat}(w:World)(hs: ∀wr,Below B w wr→Sl wr v l.length (intCells l))(K1:Blk w bm 201 #[.map (some M)])(K2:Blk w bn 3 #[.int .i64 n])
 (hown:w.ownsMap Tryz.prog 3 (plainElem (H:=Unit) Tryz.prog 3) M 0 (.map [])) (hB:B≤M) (hB2:B≤w.heap.size) (n1:bm≠M) (n2:bn≠M) (hl:l.length≤1000) (hr: ∀x∈l,-9223372036854775808≤x∧x≤9223372036854775807):
 Calls Tryz.prog 130 #[v,.func (.func 160) #[] #[.pointer (some ⟨bm,0,none⟩),.pointer (some ⟨bn,0,none⟩)]] w fun e w'=>e= .returned (.bool (unlikeB l n))∧Below B w w':=by
 have HS:=Lib.hid hs;have HR:=Lib.hid hr;obtain⟨A,c,rfl,h1,h2,-⟩:=hs w (Below.refl _ _);have m1:some M≠some bm:=fun h=>n1 (Option.some.inj h).symm;have m2:some M≠some bn:=fun h=>n2 (Option.some.inj h).symm;have HM1:=Lib.hid m1;have HM2:=Lib.hid m2;have HN1:=Lib.hid n1;have HN2:=Lib.hid n2;have HO:=Lib.hid hown;clear hs hr m1 m2 n1 n2 hown;go_enter Tryz.func130,Tryz.ntmps130
 go_wp2
 go_loopw[6,9] (fun _ i wr=> ∃(k:Nat) (D:DataW Unit),k≤l.length∧i= .int .i64 k∧Hid (unlikeB l n=unlR n (l.take k) (l.drop k))∧Hid (Counts D (l.take k))∧wr.ownsMap Tryz.prog 3 (plainElem (H:=Unit) Tryz.prog 3) M k D∧Blk wr bm 201 #[.map (some M)]∧Blk wr bn 3 #[.int .i64 n]∧Below B w wr)
  (fun _ i _=>l.length-(intOf i).toNat)
 case atStart=>exact⟨0,_,by omega,rfl,rfl,counts_none,HO.out,K1,K2,Below.refl _ _⟩
 case round=>
  obtain⟨k,D,hk,rfl,H,HD,hown,J1,J2,hbw⟩:=hrel;by_cases hlt:k<l.length
  ·obtain⟨b,off,rfl,-,hc⟩:=int_at (HS.out _ hbw) rfl hlt
   have c1:=hc _ (Below.refl _ _);have hg:l[k]?=some (l.getD k 0):=by simp[hlt]
   generalize l.getD k 0=x at c1 hg;have HX:=Lib.hid hg;have HRX:=Lib.hid (HR.out x (List.mem_of_getElem? hg));have HST:=Lib.hid (unl_step (n:=n) hg);have hty:(l.take k).length≤1000:=by rw[List.length_take];omega
   have HT:=Lib.hid (show l.take k++[x]=l.take (k+1)from by rw[List.take_add_one,hg];rfl);clear hg hc;cases hq:(btw x 0 (n-1)&&(l.take k).count x==0)
   ·have e1:=Lib.hid (show unlikeB l n=false from by rw[H.out,HST.out,hq];rfl)
    have HQ:=Lib.hid hq;clear hq
    go_wp2_with (go_at_call 160;refine(unlOne_any (n:=n) (l:=l.take k) _ J1 J2 hown (by omega) HD.out hty HRX.out HN1.out HN2.out).mono ?_;rw[HQ.out];rintro e w1 ⟨rfl,hown1,hg1⟩)
    go_ret;exact⟨ret_bool e1.out.symm,hbw.grown hg1 (Nat.le_trans hB2 hbw.size) (fun j hj=>by cases hj;exact hB)⟩
   ·have e1:=Lib.hid (show unlikeB l n=unlR n (l.take (k+1)) (l.drop (k+1))from by rw[H.out,HST.out,hq];rfl)
    have HQ:=Lib.hid hq;clear hq;have HC:=Lib.hid (counts_put (x:=x) HD.out)
    go_wp2_with (go_at_call 160;refine(unlOne_any (n:=n) (l:=l.take k) _ J1 J2 hown (by omega) HD.out hty HRX.out HN1.out HN2.out).mono ?_;rw[HQ.out];rintro e w1 ⟨rfl,hown1,hg1⟩)
    go_roundw
    case rel=>exact⟨k+1,_,by omega,by go_num,e1.out,(by have:=HC.out;rw[HT.out]at this;exact this),hown1,J1.grown hg1 HM1.out,J2.grown hg1 HM2.out,hbw.grown hg1 (Nat.le_trans hB2 hbw.size) (fun j hj=>by cases hj;exact hB)⟩
    case measure=>simp[intOf];omega
  ·obtain rfl:k=l.length:=by omega
   have e1:=Lib.hid (show unlikeB l n=true from by rw[H.out,unl_end]);go_wp2;go_ret;exact⟨ret_bool e1.out.symm,hbw⟩
set_option maxHeartbeats 2000000 in
set_option maxRecDepth 100000 in
theorem unlike_any (v:Value)(l:List Int)(n:Int)(w:World)(h:Sl w v l.length (intCells l))(hl:l.length≤1000)(hr: ∀x∈l,-9223372036854775808≤x∧x≤9223372036854775807):
 Calls Tryz.prog 132 #[v,.int .i64 n] w fun e w'=>e= .returned (.bool (unlikeB l n))∧Below w.heap.size w w':=by
 have hmm:= @run_makeMap Tryz.prog;have HH:=Lib.hid h;have HR:=Lib.hid hr;clear h hr;go_enter Tryz.func132,Tryz.ntmps132
 have K1:=new_second (w.alloc (.cells #[.int .i64 n] 3)) 201 #[.map (some (w.heap.size+1))] (.map #[] 0);have K2:=((Blk.new w 3 #[.int .i64 n]).alloc (.map #[] 0)).alloc (.cells #[.map (some (w.heap.size+1))] 201);have HO:=(World.ownsMap_made (w.alloc (.cells #[.int .i64 n] 3)) Tryz.prog 3 (plainElem (H:=Unit) Tryz.prog 3)).alloc (.cells #[.map (some (w.heap.size+1))] 201);have hB:=below_trans (below_trans (below_alloc w (.cells #[.int .i64 n] 3)) (below_alloc _ (.map #[] 0))) (below_alloc _ (.cells #[.map (some (w.heap.size+1))] 201));rw[World.size_alloc]at K1 HO;have HK1:=Lib.hid K1;have HK2:=Lib.hid K2;have HHO:=Lib.hid HO;clear K1 K2 HO
 go_wp2_with fail
 refine(allUnl_any (B:=w.heap.size) _ (fun wr hb=>HH.out.below (hB.trans hb)) HK1.out HK2.out HHO.out (by omega) hB.size (by omega) (by omega) hl HR.out).mono ?_;rintro e w1 ⟨rfl,hb1⟩;go_wp2;go_ret;exact⟨rfl,hB.trans hb1⟩
end Go.Proofs.YtjhbeecmdgglgaaGreatDoor
namespace Go.Proofs.YtjhbeecmdgglgaaGreatDoor
open Go.RowKit
end Go.Proofs.YtjhbeecmdgglgaaGreatDoor
namespace Go.Proofs.YtjhbeecmdgglgaaGreatDoor
open Go.RowKit Go.Maps
def stepI (k:Int):Int:=if k=1∨k=4 then 1 else-1
theorem stepI_two (k:Int):stepI k=1∨stepI k= -1:=by unfold stepI;split<;>simp
set_option maxHeartbeats 1000000 in
theorem cstep_any (k:Int)(v:Value)(w:World)(h1:1≤k)(h4:k≤4):
 Calls Tryz.prog 72 #[.agg #[.int .i64 k,v]] w fun e w'=>e= .returned (.int .i64 (stepI k))∧Below w.heap.size w w':=by
 have hq:k=1∨k=2∨k=3∨k=4:=by omega
 have hB:=below_alloc w (.cells #[.int .i64 k,v] 48);rcases hq with rfl|rfl|rfl|rfl<;>
 ·go_enter Tryz.func72,Tryz.ntmps72
  go_wp2;go_ret;exact⟨rfl,hB⟩
structure GoodC (l:List Chn):Prop where
 few:l.length≤4096
 good: ∀c∈l,GoodR c.r∧1≤c.k∧c.k≤4
theorem err_zero {l:List Chn}{i:Nat}{c:Chn}(h:l[i]?=some c)(he:errAt l i=0):keyErr c.r=0∧1≤c.k∧c.k≤4:=by
 by_cases h1:c.k<1∨4<c.k
 ·rw[err_one h h1]at he;omega
 ·by_cases hy:keyErr c.r=0
  ·exact⟨hy,by omega,by omega⟩
  ·rw[err_two h (by omega) (by omega) hy]at he;exact absurd he hy
theorem form_errs {l:List Chn}(h:formC l=0):l.length≤4096∧ ∀i,i<l.length→errAt l i=0:=by
 have h0: ¬4096<l.length:=by
  intro h0;unfold formC at h;rw[if_pos h0]at h;omega
 refine⟨by omega,fun i=> ?_⟩
 induction i using Nat.strongRecOn with
 |ind i ih=>
  intro hi;by_cases e:errAt l i=0
  ·exact e
  ·have:=form_bad h0 hi (fun j hj=>ih j hj (by omega)) rfl e
   rw[h]at this;exact absurd this.symm e
theorem form_zero {l:List Chn}(hf:FineC l)(h:formC l=0):GoodC l:=by
 obtain⟨h1,h2⟩:=form_errs h;refine⟨h1,fun c hc=> ?_⟩;obtain⟨i,hi,rfl⟩:=List.mem_iff_getElem.1 hc;have:=err_zero (List.getElem?_eq_getElem hi) (h2 i hi);exact⟨goodR_of (hf.rows _ hc) this.1,this.2⟩
end Go.Proofs.YtjhbeecmdgglgaaGreatDoor
namespace Go.Proofs.YtjhbeecmdgglgaaGreatDoor
open Go.RowKit
theorem valJ:EInfo Tryz.prog 68 3 32:=by
 have h:(Tryz.prog.info? 68).map (fun i=>(i.zero,i.size,i.bytes))=some (some (.agg #[.int .i64 0,.int .i64 0,.string ⟨#[]⟩]),3,32):=by kernel_rfl
 obtain⟨i,hi,h1,h2,h3⟩:=info_parts h;exact⟨i,_,hi,h1,h2,h3,rfl,by omega⟩
theorem val_cell (x:Val): ∀u∈x.cells,u.oneCell'=true:=by
 intro u hu;simp[Val.cells]at hu;rcases hu with rfl|rfl|rfl<;>rfl
theorem rowCells_len (l:List Val):(rowCells l).length=l.length*3:=flat_len Val.cells_len l
theorem rowCells_one (l:List Val): ∀u∈rowCells l,u.oneCell'=true:=by
 intro u hu;obtain⟨x,-,hx⟩:=List.mem_flatMap.1 hu;exact val_cell x u hx
theorem own_emptyT (W:World)(base:Nat)(t:TypeId)(size:Nat)(h:base≤W.heap.size):(W.alloc (.cells #[] t)).ownsRow base t size (.slice (some ⟨W.heap.size,0,none⟩) 0 0) 0 []:=
 ⟨by simp,.inr ⟨_,0,#[],rfl,h,heap_alloc_new W _,Nat.le_refl _,by decide,by simp,by simp⟩⟩
theorem sl_grown {w w':World}{v:Value}{n:Nat}{cs:List Value}{row:Option Nat}(h:Sl w v n cs)(hg:w.grownBy w' row)(hr: ∀k,v.ownBlock=some k→row≠some k):Sl w' v n cs:=by
 obtain⟨A,c,rfl,h1,h2,h0,h3⟩:=h;refine⟨A,c,rfl,h1,h2,h0,fun hne=> ?_⟩;obtain⟨b,off,rfl,hc⟩:=h3 hne;refine⟨b,off,rfl,fun j u hj=> ?_⟩;have hcc:=hc j u hj;have hlt:=World.block_lt_of_cell? w _ hcc;rw[World.cell?_of_block (hg.block b hlt (fun e=>hr b rfl e.symm))];exact hcc
theorem run_copy_wide {P:Program}(w:World)(dT sT ty elem:TypeId)(g o dLen dCap:Nat)(a:Addr)(sLen sCap size:Nat)(cur:Array Value)(t:TypeId)(cs:List Value)
 (hu:P.underlying dT=some (.slice elem)) (hs:(P.info? elem).map (·.size)=some size)
 (hg:w.heap[g]?=some (.cells cur t (0,0))) (hn:cs.length=Nat.min sLen dLen*size)
 (hsrc: ∀j v,cs[j]?=some v→w.cell? (a.add j)=some v) (hfit:o+cs.length≤cur.size) (h1: ∀v∈cs,v.oneCell'=true):
 (Builtin.copy_ #[dT,sT] ty #[.slice (some ⟨g,o,none⟩) dLen dCap,.slice (some a) sLen sCap]).run P w=
  .ok (goInt (Nat.min sLen dLen)) (w.setRow g (cur.toList.take o++cs++cur.toList.drop (o+cs.length)).toArray):=by
 have hl:=run_loadCells_list (P:=P) w a cs hsrc;have hst:=run_storeCells_at P g o t cs 0 cur w hg (by simpa using hfit) h1;cases hq:P.info? elem with
 |none=>simp[hq]at hs
 |some i=>
  have hi:i.size=size:=by simpa[hq]using hs
  simp[Builtin.copy_,run_underlying hu,Builtin.lenOf,Builtin.firstCells,sizeOf,typeInfo,hq,hi,←hn,hl,hst]
theorem flat_take {α:Type}{f:α→List Value}{size:Nat}(hf: ∀a,(f a).length=size)(l:List α)(k:Nat):(l.flatMap f).take (k*size)=(l.take k).flatMap f:=by
 induction l generalizing k with
 |nil=>simp
 |cons a l ih=>
  cases k with
  |zero=>simp
  |succ k=>rw[List.flatMap_cons,List.take_succ_cons,List.flatMap_cons,List.take_append,hf a,List.take_of_length_le (by rw[hf a,Nat.add_mul];omega),←ih k];congr 2;rw[Nat.add_mul];omega
theorem flat_drop {α:Type}{f:α→List Value}{size:Nat}(hf: ∀a,(f a).length=size)(l:List α)(k:Nat):(l.flatMap f).drop (k*size)=(l.drop k).flatMap f:=by
 induction l generalizing k with
 |nil=>simp
 |cons a l ih=>
  cases k with
  |zero=>simp
  |succ k=>rw[List.flatMap_cons,List.drop_succ_cons,List.drop_append,hf a,List.drop_of_length_le (by rw[hf a,Nat.add_mul];omega),List.nil_append,←ih k];congr 1;rw[Nat.add_mul];omega
theorem grown_of_below {w w':World}(h:Below w.heap.size w w')(row:Option Nat):w.grownBy w' row:=⟨h.os,h.tape,h.output,h.size,fun k hk _=>h.block k hk⟩
theorem grown_trans {a b c:World}{row:Option Nat}(h:a.grownBy b row)(k:b.grownBy c row):a.grownBy c row:=⟨k.os.trans h.os,k.tape.trans h.tape,k.output.trans h.output,Nat.le_trans h.size k.size,fun j hj hn=>(k.block j (Nat.lt_of_lt_of_le hj h.size) hn).trans (h.block j hj hn)⟩
theorem grown_new {a b c:World}{row row':Option Nat}(h:a.grownBy b row)(k:b.grownBy c row')(hr: ∀j,row'=some j→row=some j∨a.heap.size≤j):a.grownBy c row:=⟨k.os.trans h.os,k.tape.trans h.tape,k.output.trans h.output,Nat.le_trans h.size k.size,fun j hj hn=>(k.block j (Nat.lt_of_lt_of_le hj h.size) (fun e=>by
 rcases hr j e.symm with h1|h1
 ·exact hn h1.symm
 ·omega)).trans (h.block j hj hn)⟩
theorem drew_grown {w w':World}{row:Option Nat}(h:w.drew.grownBy w' row):w.grownBy w' row:=⟨h.os,h.tape,h.output,h.size,h.block⟩
theorem grown_drew {w w':World}{row:Option Nat}(h:w.grownBy w' row):w.grownBy w'.drew row:=⟨h.os,h.tape,h.output,h.size,h.block⟩
theorem step_copy_run {P:Program}{ops:Array Oper}{o:Oper}{a:Act}{w w':World}{K:Act→World→Prop}{Q:Exit→Act→World→Prop}{E:Prop}{r:Value}(hgd:o.guard=none)(d s:Operand)(dT sT:TypeId)
 (ho:o.op= .call {callee:= .builtin .copy,args:= #[d,s],argTypes:= #[dT,sT]}) (dv sv:Value) (hd:a.eval d=dv) (hs:a.eval s=sv) (hrun:(Builtin.copy_ #[dT,sT] o.type #[dv,sv]).run P w= .ok r w')
 (h:K (a.put o.dst r) w'):if Region.wanted o (yielded ops a.tmps)=true then Oper.wp P o a w K Q else E:=by
 rw[if_pos (by simp[Region.wanted,hgd])];unfold Oper.wp;simp[execOp,ho,resolve,invoke,builtin,hd,hs,hrun,Result.andThen];exact h
theorem sl_set {w:World}{v:Value}{n:Nat}{cs:List Value}(h:Sl w v n cs){p:Addr}(hp:cs≠[]→ ∀k,v.ownBlock=some k→k≠p.block)(u:Value):Sl (w.setCell p u) v n cs:=by
 obtain⟨A,c,rfl,h1,h2,h0,h3⟩:=h;refine⟨A,c,rfl,h1,h2,h0,fun hne=> ?_⟩;obtain⟨b,off,rfl,hc⟩:=h3 hne;refine⟨b,off,rfl,fun j x hj=> ?_⟩;have hcc:=hc j x hj;rw[World.cell?_of_block (Below.heap_setCell w p u b (hp hne b rfl))];exact hcc
theorem nil_yes (W:World)(n c:Nat):(binOp .eql 43 (.slice none n c) (.slice none 0 0)).run Tryz.prog W= .ok (.bool true) W:=by kernel_rfl
theorem nil_no (W:World)(p:Addr)(n c:Nat):(binOp .eql 43 (.slice (some p) n c) (.slice none 0 0)).run Tryz.prog W= .ok (.bool false) W:=by kernel_rfl
end Go.Proofs.YtjhbeecmdgglgaaGreatDoor
namespace Go.Proofs.YtjhbeecmdgglgaaGreatDoor
open Go.RowKit Go.Maps
theorem lawS:Keyed Tryz.prog 9:=string_keyed Tryz.underlying9
theorem keyRow_short {l:List Val}(h:GoodR l):(keyRow l).length≤1048:=by
 have h8:=h.few;have hg:=h.good;clear h
 have:(keyRow l).length≤131*l.length:=by
  clear h8
  induction l with
  |nil=>simp[keyRow]
  |cons x l ih=>
   have h1:=keyCell_len x (good_size (hg x (by simp)).1);have h2:=ih fun y hy=>hg y (by simp[hy]);rw[show keyRow (x::l)=keyCell x++keyRow l from List.flatMap_cons,List.length_append,List.length_cons];omega
 omega
theorem keyS {r:List Val}(h:GoodR r):keyOf Tryz.prog 9 (.string (str (keyRow r)))=some (kOf r):=by
 have hl:=keyRow_short h;have:=WideMaps.keyOf_string_mk (P:=Tryz.prog) (k:=9) Tryz.underlying9 (s:=str (keyRow r)) (by rw[str_size];unfold maxLen;omega);rw[this];rfl
theorem zeroS (w:World):(zeroValue 3).run Tryz.prog w= .ok (.int .i64 0) w:=by kernel_rfl
def Pile (w:World) (M N:Nat) (A:AV):Prop:= ∃n,n≤N∧w.ownsMap Tryz.prog 9 (plainElem (H:=Unit) Tryz.prog 3) M n (mkD A)
def addR (A:AV) (r:List Val) (n:Int):AV×Int:=
 if lookA A r+n<0 then(A,9)
 else if 1073741824<lookA A r+n∨(hasA A r=false∧0<lookA A r+n∧A.length=4096)then(A,2)
 else if lookA A r+n=0 then(delA A r,0)else(putA A r (lookA A r+n),0)
theorem del_put {A:AV}{r:List Val}{n:Int}(h:Rises A)(hr:GoodR r):delA (putA A r n) r=delA A r:=by
 induction A with
 |nil=>simp[putA,delA,rowsF_self hr]
 |cons x t ih=>
  obtain⟨x,m⟩:=x;have hx:GoodR x:=h.good (x,m) (by simp);obtain⟨h1,h2⟩:=List.pairwise_cons.1 h.rise;have h1: ∀p∈t,rowsF x p.1<0:=h1;unfold putA;by_cases e:rowsF x r=0
  ·rw[if_pos e];simp[delA,e]
  ·rw[if_neg e]
   by_cases l:rowsF x r<0
   ·rw[if_pos l];simp[delA,e,ih h.tail]
   ·rw[if_neg l]
    simp[delA,rowsF_self hr,e];have hlt:rowsF r x<0:=by rw[rowsF_flip hx hr];omega
    have: ∀q:AV,(∀p∈q,GoodR p.1)→(∀p∈q,rowsF r p.1<0)→delA q r=q:=by
     intro q
     induction q with
     |nil=>intros;rfl
     |cons y q ih2=>
      obtain⟨y,c⟩:=y;intro hq hq2;have hy:GoodR y:=hq (y,c) (by simp);have:=hq2 (y,c) (by simp);simp only at this;unfold delA;rw[if_neg (by rw[rowsF_flip hr hy];omega),ih2 (fun p hp=>hq p (by simp[hp])) (fun p hp=>hq2 p (by simp[hp]))]
    exact(this t (fun p hp=>h.good p (by simp[hp])) fun p hp=>rowsF_trans hr hx (h.good p (by simp[hp])) hlt (h1 p hp)).symm
set_option maxHeartbeats 4000000 in
set_option maxRecDepth 100000 in
theorem add_any {M N:Nat}{A:AV}{r:List Val}{n:Int}(w:World)(hp:Pile w M N A)(hN:N≤1000000)(hA:Rises A)(hr:GoodR r)(hb: -1099511627776≤lookA A r∧lookA A r≤1099511627776)(hn: -1099511627776≤n∧n≤1099511627776):
 Calls Tryz.prog 71 #[.map (some M),.string (str (keyRow r)),.int .i64 n] w fun e w'=>e= .returned (.int .i64 (addR A r n).2)∧Pile w' M (N+1) (addR A r n).1∧w.grownBy w' (some M):=by
 obtain⟨k,hk,hown⟩:=hp;have HK:=Lib.hid (keyS hr);have hat0:=mkD_at hA.good hr;have hhas:=mkD_has hA.good hr;have hput:=fun m=>mkD_put (n:=m) hA hr
 have HPD:=Lib.hid (fun m=>show((mkD A).put (kOf r) (.lit (.int .i64 m))).del (kOf r)=mkD (delA A r)from by
  rw[hput m,mkD_del (rises_put hA hr) hr,del_put hA hr])
 have HPUT:=Lib.hid hput;have HH:=Lib.hid hhas;have HSZ:=Lib.hid (mkD_size A);have HR:Hid (addR A r n=if lookA A r+n<0 then(A,9)else if 1073741824<lookA A r+n∨(hasA A r=false∧0<lookA A r+n∧A.length=4096)then(A,2)else if lookA A r+n=0 then(delA A r,0)else(putA A r (lookA A r+n),0)):=Lib.hid rfl;generalize addR A r n=R at HR⊢;obtain⟨c,hrun,hat,-⟩:=hown.lookup_int (t:=105) lawS Tryz.underlying105 Tryz.underlying3 (zeroS _) HK.out;obtain rfl:=lit_inj (hat.symm.trans hat0);generalize lookA A r=c at hrun hb HR HPUT;generalize hasA A r=b at HH HR
 have hlen: ∀ty,(Builtin.len_ #[105] ty #[.map (some M)]).run Tryz.prog w= .ok (.int .i64 A.length) w:=fun ty=>by
  have:=hown.len (t:=105) (e:=3) Tryz.underlying105 ty;rw[HSZ.out]at this;exact this
 have HWN:=Lib.hid (show(Lit.int .i64 (c+n)).wf=true from wf_of (by omega));have hkk:k<maxLen:=by unfold maxLen;omega
 have HKK:=Lib.hid hkk;clear hat hat0 hhas hput hA hr hkk;generalize str (keyRow r)=s at HK hrun⊢;by_cases h1:c+n<0
 ·have EE:=Lib.hid (HR.out.trans (if_pos h1))
  go_enter Tryz.func71,Tryz.ntmps71
  go_wp2;go_ret;exact⟨ret_int (by rw[EE.out]),⟨k,by omega,by rw[EE.out];exact hown⟩,World.grownBy.refl w _⟩
 ·have HR2:=Lib.hid (HR.out.trans (if_neg h1))
  clear HR;by_cases h2:1073741824<c+n
  ·have EE:=Lib.hid (HR2.out.trans (if_pos (.inl h2)))
   clear HR2;go_enter Tryz.func71,Tryz.ntmps71
   go_wp2_with (at_lookup;refine wpList_lookup_own_ok_int _ rfl _ _ 105 rfl 9 3 .i64 lawS Tryz.underlying105 Tryz.underlying3 (zeroS _) M k _ rfl hown _ _ rfl HK.out ?_;intro c2 hat2 hwc2;rw[HH.out];clear hat2 hwc2)
   go_ret;exact⟨ret_int (by rw[EE.out]),⟨k,by omega,by rw[EE.out];exact hown⟩,World.grownBy.refl w _⟩
  ·cases b
   ·by_cases h3:0<c+n
    ·by_cases h4:A.length=4096
     ·have EE:=Lib.hid (HR2.out.trans (if_pos (.inr ⟨rfl,h3,h4⟩)))
      have hb4:((A.length:Int)==4096)=true:=by simp[h4]
      clear HR2 h4;go_enter Tryz.func71,Tryz.ntmps71
      go_wp2_with (first
       |(at_lookup;refine wpList_lookup_own_ok_int _ rfl _ _ 105 rfl 9 3 .i64 lawS Tryz.underlying105 Tryz.underlying3 (zeroS _) M k _ rfl hown _ _ rfl HK.out ?_;intro c2 hat2 hwc2;rw[HH.out];clear hat2 hwc2))
      go_ret;exact⟨ret_int (by rw[EE.out]),⟨k,by omega,by rw[EE.out];exact hown⟩,World.grownBy.refl w _⟩
     ·have hz: ¬c+n=0:=by omega
      have EE:=Lib.hid (HR2.out.trans ((if_neg (by rintro(h|⟨-,-,h⟩);exact h2 h;exact h4 h)).trans (if_neg hz)));have hb4:((A.length:Int)==4096)=false:=by simp;omega
      have hbz:=beqF hz;clear HR2 h4 hz;go_enter Tryz.func71,Tryz.ntmps71
      go_wp2_with (first
       |(at_lookup;refine wpList_lookup_own_ok_int _ rfl _ _ 105 rfl 9 3 .i64 lawS Tryz.underlying105 Tryz.underlying3 (zeroS _) M k _ rfl hown _ _ rfl HK.out ?_;intro c2 hat2 hwc2;rw[HH.out];clear hat2 hwc2)
       |(at_mapUpdate;refine wpList_mapUpdate_own _ rfl _ _ _ 105 rfl 9 3 lawS Tryz.underlying105 _ M k _ rfl hown HKK.out _ _ _ rfl rfl HK.out _ [] (plainElem_int Tryz.underlying3 HWN.out) ?_;intro w1 hown1 hgrow1;clear hrun))
      go_ret;exact⟨ret_int (by rw[EE.out]),⟨k+1,by omega,by rw[EE.out];have h:=hown1;rw[HPUT.out]at h;exact h⟩,hgrow1⟩
    ·have hz:c+n=0:=by omega
     have EE:=Lib.hid (HR2.out.trans ((if_neg (by rintro(h|⟨-,h,-⟩);exact h2 h;exact h3 h)).trans (if_pos hz)));have hbz:=beqT hz;clear HR2 hz;go_enter Tryz.func71,Tryz.ntmps71
     go_wp2_with (first
      |(at_lookup;refine wpList_lookup_own_ok_int _ rfl _ _ 105 rfl 9 3 .i64 lawS Tryz.underlying105 Tryz.underlying3 (zeroS _) M k _ rfl hown _ _ rfl HK.out ?_;intro c2 hat2 hwc2;rw[HH.out];clear hat2 hwc2)
      |(at_mapUpdate;refine wpList_mapUpdate_own _ rfl _ _ _ 105 rfl 9 3 lawS Tryz.underlying105 _ M k _ rfl hown HKK.out _ _ _ rfl rfl HK.out _ [] (plainElem_int Tryz.underlying3 HWN.out) ?_;intro w1 hown1 hgrow1;clear hrun)
      |(at_delete;refine wpList_delete_own _ rfl _ _ 105 9 rfl 3 lawS Tryz.underlying105 _ M (k+1) _ rfl hown1 _ _ rfl HK.out ?_;intro w2 hown2 hturn2))
     go_ret;exact⟨ret_int (by rw[EE.out]),⟨k+1,by omega,by rw[EE.out];have h:=hown2;rw[HPD.out]at h;exact h⟩,hgrow1.andThen hturn2.grown (fun j hj=> .inr hj)⟩
   ·by_cases hz:c+n=0
    ·have EE:=Lib.hid (HR2.out.trans ((if_neg (by rintro(h|⟨h,-⟩);exact h2 h;exact absurd h (by decide))).trans (if_pos hz)))
     have hbz:=beqT hz;clear HR2 hz;go_enter Tryz.func71,Tryz.ntmps71
     go_wp2_with (first
      |(at_lookup;refine wpList_lookup_own_ok_int _ rfl _ _ 105 rfl 9 3 .i64 lawS Tryz.underlying105 Tryz.underlying3 (zeroS _) M k _ rfl hown _ _ rfl HK.out ?_;intro c2 hat2 hwc2;rw[HH.out];clear hat2 hwc2)
      |(at_mapUpdate;refine wpList_mapUpdate_own _ rfl _ _ _ 105 rfl 9 3 lawS Tryz.underlying105 _ M k _ rfl hown HKK.out _ _ _ rfl rfl HK.out _ [] (plainElem_int Tryz.underlying3 HWN.out) ?_;intro w1 hown1 hgrow1;clear hrun)
      |(at_delete;refine wpList_delete_own _ rfl _ _ 105 9 rfl 3 lawS Tryz.underlying105 _ M (k+1) _ rfl hown1 _ _ rfl HK.out ?_;intro w2 hown2 hturn2))
     go_ret;exact⟨ret_int (by rw[EE.out]),⟨k+1,by omega,by rw[EE.out];have h:=hown2;rw[HPD.out]at h;exact h⟩,hgrow1.andThen hturn2.grown (fun j hj=> .inr hj)⟩
    ·have EE:=Lib.hid (HR2.out.trans ((if_neg (by rintro(h|⟨h,-⟩);exact h2 h;exact absurd h (by decide))).trans (if_neg hz)))
     have hbz:=beqF hz;clear HR2 hz;go_enter Tryz.func71,Tryz.ntmps71
     go_wp2_with (first
      |(at_lookup;refine wpList_lookup_own_ok_int _ rfl _ _ 105 rfl 9 3 .i64 lawS Tryz.underlying105 Tryz.underlying3 (zeroS _) M k _ rfl hown _ _ rfl HK.out ?_;intro c2 hat2 hwc2;rw[HH.out];clear hat2 hwc2)
      |(at_mapUpdate;refine wpList_mapUpdate_own _ rfl _ _ _ 105 rfl 9 3 lawS Tryz.underlying105 _ M k _ rfl hown HKK.out _ _ _ rfl rfl HK.out _ [] (plainElem_int Tryz.underlying3 HWN.out) ?_;intro w1 hown1 hgrow1;clear hrun))
     go_ret;exact⟨ret_int (by rw[EE.out]),⟨k+1,by omega,by rw[EE.out];have h:=hown1;rw[HPUT.out]at h;exact h⟩,hgrow1⟩
end Go.Proofs.YtjhbeecmdgglgaaGreatDoor
namespace Go.Proofs.YtjhbeecmdgglgaaGreatDoor
open Go.RowKit Go.Maps
theorem map_below {w w':World}{M n:Nat}{D:DataW Unit}(h:w.ownsMap Tryz.prog 9 (plainElem (H:=Unit) Tryz.prog 3) M n D)(hb:Below w.heap.size w w'):w'.ownsMap Tryz.prog 9 (plainElem (H:=Unit) Tryz.prog 3) M n D:=by
 have hl:=h.lt;obtain⟨es,clock,h1,r⟩:=h;exact⟨es,clock,(hb.block M hl).trans h1,r⟩
theorem Pile.below {w w':World}{M N:Nat}{A:AV}(h:Pile w M N A)(hb:Below w.heap.size w w'):Pile w' M N A:=by
 obtain⟨n,hn,ho⟩:=h;exact⟨n,hn,map_below ho hb⟩
theorem Pile.lt {w:World}{M N:Nat}{A:AV}(h:Pile w M N A):M<w.heap.size:=by
 obtain⟨n,hn,ho⟩:=h;exact ho.lt
theorem put_last {A:AV}{r:List Val}{n:Int}(h:Rises (A++[(r,n)])):putA A r n=A++[(r,n)]:=by
 induction A with
 |nil=>rfl
 |cons x t ih=>
  obtain⟨x,m⟩:=x;obtain⟨h1,-⟩:=List.pairwise_cons.1 h.rise;have:=h1 (r,n) (by simp);simp only at this;unfold putA;rw[if_neg (by omega),if_pos this,ih h.tail];rfl
theorem rises_take {A:AV}(h:Rises A)(k:Nat):Rises (A.take k):=⟨fun p hp=>h.good p (List.mem_of_mem_take hp),h.rise.sublist (List.take_sublist k A)⟩
set_option maxHeartbeats 4000000 in
set_option maxRecDepth 100000 in
theorem of_any (v:Value)(l:List Cnt)(w:World)(h:View w v l)(hf:FineV l)(hg:GoodV l)(hm:Mx w):
 Calls Tryz.prog 70 #[v] w fun e w'=> ∃M,e= .returned (.map (some M))∧w.heap.size≤M∧Pile w' M 4096 (av l)∧Below w.heap.size w w':=by
 have hmm:= @run_makeMap Tryz.prog;have HV:=Lib.hid h;have HF:=Lib.hid hf;have HM:=Lib.hid hm;have HG:=Lib.hid hg;have hl:=hg.few;have HR:=Lib.hid hg.rises;have HN:=Lib.hid hg.nums;obtain⟨A,c,rfl,h1,h2,-⟩:=h.sl;clear h hf hm hg;unfold maxLen at h2;have hB:=below_alloc w (.map #[] 0);have HO:=Lib.hid (World.ownsMap_made w Tryz.prog 9 (plainElem (H:=Unit) Tryz.prog 3));go_enter Tryz.func70,Tryz.ntmps70
 go_wp2_with fail
 go_loopw[5,6,7,11] (fun _ _ _ i wr=> ∃k n:Nat,k≤l.length∧n≤k∧i= .int .i64 k∧wr.ownsMap Tryz.prog 9 (plainElem (H:=Unit) Tryz.prog 3) w.heap.size n (mkD ((av l).take k))∧Below w.heap.size w wr) (fun _ _ _ i _=>l.length-(intOf i).toNat)
 case atStart=>exact⟨0,0,by omega,by omega,rfl,HO.out,hB⟩
 case round=>
  obtain⟨k,n,hk,hnk,rfl,hown,hbw⟩:=hrel;by_cases hlt:k<l.length
  ·have hx:=List.getElem?_eq_getElem (l:=l) hlt
   generalize l[k]=x at hx;obtain⟨g,off,rfl,-,hc⟩:=cnt_at HV.out.sl rfl hx;obtain⟨d1,d2⟩:=hc _ hbw;have hmem:=List.mem_of_getElem? hx;have HRW:=Lib.hid (HV.out.rows x hmem);have HFX:=Lib.hid (HF.out.rows x hmem);have hxa:(av l)[k]?=some (x.r,x.n):=by unfold av;rw[List.getElem?_map,hx];rfl
   have HGX:=Lib.hid (HR.out.good _ (List.mem_of_getElem? hxa));have hxn:=HN.out _ (List.mem_of_getElem? hxa);have HT:=Lib.hid (show(av l).take (k+1)=(av l).take k++[(x.r,x.n)]from by rw[List.take_add_one,hxa];rfl);clear hx hc hmem hxa;obtain⟨xv,xr,xn⟩:=x;simp only at d1 d2 HRW HFX hxn HGX HT;obtain⟨Ax,cx,rfl,-⟩:=id HRW.out;have hbw2:=hbw.alloc hbw.size (.cells #[.slice Ax xr.length cx,.int .i64 xn] 45);have HSX:=Lib.hid (HRW.out.below hbw2);have kb:=(Blk.new wr 45 #[.slice Ax xr.length cx,.int .i64 xn]);have hown2:=hown.alloc (.cells #[.slice Ax xr.length cx,.int .i64 xn] 45)
   have HKE:Hid (keyR xr=(str (keyRow xr),0)):=by
    have h8:=HGX.out.few
    have:keyErr xr=0:=by
     have hz:firstNZ (xr.map checkV)=0:=firstNZ_none (by intro y hy;obtain⟨z,hz,rfl⟩:=List.mem_map.1 hy;exact(HGX.out.good z hz).1);unfold keyErr;rw[if_neg (by omega),hz]
    exact Lib.hid (if_neg (by rw[this];simp))
   have HK:=Lib.hid (keyS HGX.out);have HRT:=Lib.hid (rises_take HR.out k)
   have HPUT:=Lib.hid (show(mkD ((av l).take k)).put (kOf xr) (.lit (.int .i64 xn))=mkD ((av l).take (k+1))from by
    rw[mkD_put HRT.out HGX.out,put_last (by rw[←HT.out];exact rises_take HR.out (k+1)),←HT.out])
   have HWN:=Lib.hid (show(Lit.int .i64 xn).wf=true from wf_of (by omega));have HKK:=Lib.hid (show n<maxLen from by unfold maxLen;omega);generalize str (keyRow xr)=s at HKE HK;clear hown
   go_wp2_with fail
   refine(key_any _ xr _ HSX.out HFX.out (HM.out.below hbw2)).mono ?_;rw[HKE.out];rintro e w2 ⟨rfl,hb2⟩;have y1:=(kb.below hb2).cell 1 _ rfl;have hbw3:=below_trans hbw2 hb2;have hown3:=map_below hown2 hb2;clear hown2 hb2 kb hbw2
   go_wp2_with (at_mapUpdate;refine wpList_mapUpdate_own _ rfl _ _ _ 105 rfl 9 3 lawS Tryz.underlying105 _ w.heap.size n _ rfl hown3 HKK.out _ _ _ rfl rfl HK.out _ [] (plainElem_int Tryz.underlying3 HWN.out) ?_;intro w4 hown4 hgrow4)
   have hown5:w4.ownsMap Tryz.prog 9 (plainElem (H:=Unit) Tryz.prog 3) w.heap.size (n+1) (mkD ((av l).take (k+1))):=by rw[←HPUT.out];exact hown4
   have HO5:=Lib.hid hown5;have hbw4:=hbw3.grown hgrow4 hbw3.size (fun j hj=>by cases hj;exact Nat.le_refl _);clear hown4 hown5 hgrow4 hown3;go_roundw
   case rel=>exact⟨k+1,n+1,by omega,by omega,by go_num,HO5.out,hbw4⟩
   case measure=>simp[intOf];omega
  ·obtain rfl:k=l.length:=by omega
   have HO2:=Lib.hid hown;clear hown;go_wp2;go_ret;refine⟨_,rfl,Nat.le_refl _,⟨n,by omega,?_⟩,hbw⟩;have:=HO2.out;rwa[List.take_of_length_le (by unfold av;rw[List.length_map];omega)]at this
end Go.Proofs.YtjhbeecmdgglgaaGreatDoor
namespace Go.Proofs.YtjhbeecmdgglgaaGreatDoor
open Go.RowKit Go.Maps
set_option maxHeartbeats 400000 in
set_option maxRecDepth 10000 in
theorem num_any (n:Int)(w:World):Calls Tryz.prog 44 #[.int .i64 n] w fun e w'=>e= .returned (.agg #[.int .i64 2,.int .i64 n,.string ⟨#[]⟩])∧Below w.heap.size w w':=by
 go_enter Tryz.func44,Tryz.ntmps44
 go_wp2;exact bodyPost_ret (v:= .agg #[.int .i64 2,.int .i64 n,.string ⟨#[]⟩]) (by simp[results,Tryz.results44,go_sem]) rfl ⟨rfl,below_alloc _ _⟩
def numV (n:Int):Val:=⟨2,n,⟨#[]⟩⟩
theorem nums_fine (a b:Int)(ha: -9223372036854775808≤a∧a≤9223372036854775807)(hb: -9223372036854775808≤b∧b≤9223372036854775807):Fine [numV a,numV b]:=by
 refine⟨fun x hx=> ?_,fun x hx=> ?_⟩
 ·simp only[List.mem_cons,List.mem_nil_iff,or_false]at hx
  have:(⟨#[]⟩:ByteArray).size=0:=rfl;rcases hx with rfl|rfl<;>simp[numV,this]
 ·simp only[List.mem_cons,List.mem_nil_iff,or_false]at hx
  rcases hx with rfl|rfl
  ·exact ha
  ·exact hb
end Go.Proofs.YtjhbeecmdgglgaaGreatDoor
namespace Go.Proofs.YtjhbeecmdgglgaaGreatDoor
section
open Go.ChangeShapes Go.WideShapes Go.RowKit Go.Deep
section
variable {H:Type} {enc:TypeId×Value→H} {P:Program} {w:World} {base:Nat} {spare:Nat→Bool} {held:Bool}
theorem open_flatQ {t e:TypeId}{fuel:Nat}{cs:List Value}{x:DataW H×List MemPlace}{α:Type}{f:α→List Value}{Q:α→Prop}{size:Nat}(hf: ∀a,(f a).length=size)(h0:0<size)
 (ht:P.underlying t=some (.slice e)) (hC:P.cellsOf e=size) (hel: ∀fuel cs x,DataW.trod enc P w base spare held fuel e cs=some x→ ∃a,cs=f a∧Q a)
 (h:DataW.trod enc P w base spare held fuel t cs=some x): ∃(v:Value) (l:List α),cs=[v]∧Sl w v l.length (l.flatMap f)∧ ∀a∈l,Q a:=by
 obtain⟨v,l,e1,hs⟩:=open_flat (f:=fun a: {a// Q a}=>f a.1) (fun a=>hf a.1) h0 ht hC (fun fuel cs x h=>by obtain⟨a,e,q⟩:=hel fuel cs x h;exact⟨⟨a,q⟩,e⟩) h;refine⟨v,l.map Subtype.val,e1,?_,?_⟩
 ·rw[List.length_map,List.flatMap_map];exact hs
 ·intro a ha
  obtain⟨b,-,rfl⟩:=List.mem_map.1 ha;exact b.2
end
theorem wf_i64 {n:Int}(h:(Lit.int .i64 n).wf=true): -9223372036854775808≤n∧n≤9223372036854775807:=by
 have h':IntKind.i64.min≤n∧n≤9223372036854775807:=by simpa[Lit.wf]using h
 have e:IntKind.i64.min= -9223372036854775808:=by decide
 rw[e]at h';exact h'
section
variable {H:Type} {enc:TypeId×Value→H} {w:World} {base:Nat} {spare:Nat→Bool} {held:Bool}
set_option maxRecDepth 100000 in
theorem val_trod (fuel:Nat)(cs:List Value)(x:DataW H×List MemPlace)(h:DataW.trod enc Tryz.prog w base spare held fuel 68 cs=some x): ∃v:Val,cs=v.cells∧v.ok:=by
 have hC:Tryz.prog.cellsOf 68=3:=by kernel_rfl
 have hi:Tryz.prog.cellsOf 3=1:=by kernel_rfl
 have hs:Tryz.prog.cellsOf 9=1:=by kernel_rfl
 obtain⟨y0,y1,y2,n,-,hl,h0,h1,h2⟩:=Go.Deep.trod_struct3 Tryz.underlying68 h;rw[hC]at hl;simp only[hs,hi]at h0 h1 h2;obtain⟨s0,e0,-,q0⟩:=DataW.trod_int Tryz.underlying3 h0;obtain⟨s1,e1,-,q1⟩:=DataW.trod_int Tryz.underlying3 h1;obtain⟨s2,e2,-,q2⟩:=DataW.trod_string Tryz.underlying9 h2
 match cs,hl with
 |[a,b,c],_=>
  simp at e0 e1 e2;subst e0 e1 e2;have b0:=wf_i64 q0;have b1:=wf_i64 q1;unfold maxLen at q2;exact⟨⟨s0,s1,s2⟩,rfl,b0.1,b0.2,b1.1,b1.2,q2⟩
end
section
variable {H:Type} {enc:TypeId×Value→H} {P:Program} {w:World} {base:Nat} {spare:Nat→Bool} {held:Bool}
theorem struct_one {ts:TypeId}{fs:Array Field}{fuel:Nat}{cs:List Value}{x:DataW H×List MemPlace}(hs:P.underlying ts=some (.struct fs))
 (hone: ∀(i:Nat) (f:Field),fs[i]?=some f→f.offset=i∧P.cellsOf f.type=1) (hC:P.cellsOf ts=fs.size) (h:DataW.trod enc P w base spare held fuel ts cs=some x):
 ∃n,cs.length=fs.size∧ ∀(i:Nat) (f:Field),fs[i]?=some f→ ∃y,DataW.trod enc P w base spare held n f.type [cs.getD i undef]=some y:=by
 obtain⟨xs,n,_,rfl,hl,hxl,hf⟩:=DataW.trod_struct hs h;rw[hC]at hl;refine⟨n,hl,fun i f hi=> ?_⟩;have hlt:i<fs.size:=(Array.getElem?_eq_some_iff.1 hi).1;obtain⟨ho,hc1⟩:=hone i f hi;have g:=hf i f hi;rw[ho,hc1,take1_drop cs i undef (by omega),List.getElem?_eq_getElem (by omega)]at g;exact⟨_,g⟩
end
end
end Go.Proofs.YtjhbeecmdgglgaaGreatDoor
namespace Go.Proofs.YtjhbeecmdgglgaaGreatDoor
end Go.Proofs.YtjhbeecmdgglgaaGreatDoor
namespace Go.Proofs.YtjhbeecmdgglgaaGreatDoor
open Go.RowKit
theorem cntI:EInfo Tryz.prog 45 2 32:=by
 have h:(Tryz.prog.info? 45).map (fun i=>(i.zero,i.size,i.bytes))=some (some (.agg #[.slice none 0 0,.int .i64 0]),2,32):=by kernel_rfl
 obtain⟨i,hi,h1,h2,h3⟩:=info_parts h;exact⟨i,_,hi,h1,h2,h3,rfl,by omega⟩
structure OwnV (w:World) (base:Nat) (v:Value) (l:List Cnt):Prop where
 own:w.ownsRow base 45 2 v l.length (cntCells l)
 rows: ∀c∈l,Sl w c.v c.r.length (rowCells c.r)
 far: ∀c∈l,∀k,c.v.ownBlock=some k→k<w.heap.size∧v.ownBlock≠some k
theorem OwnV.view {w:World}{base:Nat}{v:Value}{l:List Cnt}(h:OwnV w base v l):View w v l:=⟨Sl.of_own h.own,h.rows⟩
theorem OwnV.below {w w':World}{base:Nat}{v:Value}{l:List Cnt}(h:OwnV w base v l)(hb:Below w.heap.size w w'):OwnV w' base v l:=
 ⟨own_below h.own hb,fun c hc=>(h.rows c hc).below hb,fun c hc k hk=>⟨Nat.lt_of_lt_of_le (h.far c hc k hk).1 hb.size,(h.far c hc k hk).2⟩⟩
theorem OwnV.nil (w:World)(base:Nat):OwnV w base (.slice none 0 0) []:=⟨⟨rfl,.inl ⟨rfl,rfl⟩⟩,nofun,nofun⟩
theorem cntCells_app (a b:List Cnt):cntCells (a++b)=cntCells a++cntCells b:=List.flatMap_append
theorem OwnV.snoc {w w':World}{base:Nat}{v v':Value}{l:List Cnt}{c:Cnt}(h:OwnV w base v l)(hown:w'.ownsRow base 45 2 v' (l.length+1) (cntCells l++c.cells))(hg:w.grownBy w' v.ownBlock)(hat:v'.ownBlock=v.ownBlock∨v'.ownBlock=some w.heap.size)
 (hc:Sl w c.v c.r.length (rowCells c.r)) (hf: ∀k,c.v.ownBlock=some k→k<w.heap.size∧v.ownBlock≠some k):OwnV w' base v' (l++[c]):=by
 have hfar: ∀d∈l++[c],Sl w d.v d.r.length (rowCells d.r)∧ ∀k,d.v.ownBlock=some k→k<w.heap.size∧v.ownBlock≠some k:=by
  intro d hd;rcases List.mem_append.1 hd with hd|hd
  ·exact⟨h.rows d hd,h.far d hd⟩
  ·simp only[List.mem_singleton]at hd;subst hd;exact⟨hc,hf⟩
 refine⟨?_,fun d hd=>sl_grown (hfar d hd).1 hg (fun k hk=>((hfar d hd).2 k hk).2),fun d hd k hk=> ?_⟩
 ·rw[cntCells_app,List.length_append]
  simpa[cntCells]using hown
 ·obtain⟨h1,h2⟩:=(hfar d hd).2 k hk
  refine⟨Nat.lt_of_lt_of_le h1 hg.size,?_⟩;rcases hat with hat|hat
  ·rw[hat];exact h2
  ·rw[hat];intro e;injection e with e;omega
end Go.Proofs.YtjhbeecmdgglgaaGreatDoor
