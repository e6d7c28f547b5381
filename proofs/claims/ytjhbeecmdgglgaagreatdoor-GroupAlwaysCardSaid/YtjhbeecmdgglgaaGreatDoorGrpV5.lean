/-The contracts of times.Meets, times.Until and their reference. Plans: what they are; within, between; kinds, ranges, counts. Plans: ranges, counts. Vi -/
import Derived.Test.YtjhbeecmdgglgaaGreatDoorGrpV4
import Derived.Test.YtjhbeecmdgglgaaGreatDoorGrpV2
import Derived.Test.YtjhbeecmdgglgaaGreatDoorGrpV3
namespace Go.Proofs.YtjhbeecmdgglgaaGreatDoor.tm
open Go.RowKit
def meetsF (l r low high:Int):Bool×Int:=
 if fitsB l&&fitsB r&&fitsB low&&fitsB high then(if high<low then(false,1)else(decide (l+low≤r)&&decide (r≤l+high),0))else(false,3)
theorem meets_l {l r low high:Int}(h:fitsB l=false):meetsF l r low high=(false,3):=by simp[meetsF,h]
theorem meets_r {l r low high:Int}(h:fitsB r=false):meetsF l r low high=(false,3):=by simp[meetsF,h]
theorem meets_low {l r low high:Int}(h:fitsB low=false):meetsF l r low high=(false,3):=by simp[meetsF,h]
theorem meets_high {l r low high:Int}(h:fitsB high=false):meetsF l r low high=(false,3):=by simp[meetsF,h]
theorem meets_form {l r low high:Int}(h1:fitsB l=true)(h2:fitsB r=true)(h3:fitsB low=true)(h4:fitsB high=true)(h:high<low):meetsF l r low high=(false,1):=by simp[meetsF,h1,h2,h3,h4,h]
theorem meets_ok {l r low high:Int}(h1:fitsB l=true)(h2:fitsB r=true)(h3:fitsB low=true)(h4:fitsB high=true)(h:low≤high):meetsF l r low high=(decide (l+low≤r)&&decide (r≤l+high),0):=by
 simp[meetsF,h1,h2,h3,h4];omega
set_option maxHeartbeats 1000000 in
set_option maxRecDepth 100000 in
theorem meets_any (l r low high:Int)(w:World):
 Calls Tryz.prog 122 #[.int .i64 l,.int .i64 r,.int .i64 low,.int .i64 high] w fun e w'=>e= .returned (.tuple #[.bool (meetsF l r low high).1,.int .i64 (meetsF l r low high).2])∧w=w':=by
 have i0: ∀w:World,(Instr.index 199 (.agg #[.int .i64 l,.int .i64 r,.int .i64 low,.int .i64 high]) (.int .i64 0)).run Tryz.prog w= .ok (.int .i64 l) w:=fun _=>by kernel_rfl
 have i1: ∀w:World,(Instr.index 199 (.agg #[.int .i64 l,.int .i64 r,.int .i64 low,.int .i64 high]) (.int .i64 1)).run Tryz.prog w= .ok (.int .i64 r) w:=fun _=>by kernel_rfl
 have i2: ∀w:World,(Instr.index 199 (.agg #[.int .i64 l,.int .i64 r,.int .i64 low,.int .i64 high]) (.int .i64 2)).run Tryz.prog w= .ok (.int .i64 low) w:=fun _=>by kernel_rfl
 have i3: ∀w:World,(Instr.index 199 (.agg #[.int .i64 l,.int .i64 r,.int .i64 low,.int .i64 high]) (.int .i64 3)).run Tryz.prog w= .ok (.int .i64 high) w:=fun _=>by kernel_rfl
 go_enter Tryz.func122,Tryz.ntmps122
 go_wp2
 go_loop [11,17] (fun _ i=> ∃k:Nat,k≤4∧i= .int .i64 k∧Hid ((0<k→fitsB l=true)∧(1<k→fitsB r=true)∧(2<k→fitsB low=true)∧(3<k→fitsB high=true))) (fun _ i=>4-(intOf i).toNat)
 case atStart=>exact⟨0,by omega,rfl,⟨fun h=>absurd h (by omega),fun h=>absurd h (by omega),fun h=>absurd h (by omega),fun h=>absurd h (by omega)⟩⟩
 case round=>
  obtain⟨k,hk,rfl,H⟩:=hrel;have hk5:k=0∨k=1∨k=2∨k=3∨k=4:=by omega
  rcases hk5 with rfl|rfl|rfl|rfl|rfl
  ·cases hf:fitsB l
   ·go_wp2_with (go_at_call 84;refine(fits_any _ _).mono ?_;rintro e w' ⟨rfl,rfl⟩)
    go_ret2
    exact⟨by rw[meets_l hf];rfl,rfl⟩
   ·go_wp2_with (go_at_call 84;refine(fits_any _ _).mono ?_;rintro e w' ⟨rfl,rfl⟩)
    go_round
    case rel=>exact⟨1,by omega,rfl,⟨fun _=>(by first|exact hf|trivial),fun h=>absurd h (by omega),fun h=>absurd h (by omega),fun h=>absurd h (by omega)⟩⟩
    case measure=>simp[intOf]
  ·cases hf:fitsB r
   ·go_wp2_with (go_at_call 84;refine(fits_any _ _).mono ?_;rintro e w' ⟨rfl,rfl⟩)
    go_ret2
    exact⟨by rw[meets_r hf];rfl,rfl⟩
   ·go_wp2_with (go_at_call 84;refine(fits_any _ _).mono ?_;rintro e w' ⟨rfl,rfl⟩)
    go_round
    case rel=>exact⟨2,by omega,rfl,⟨fun _=>H.out.1 (by omega),fun _=>(by first|exact hf|trivial),fun h=>absurd h (by omega),fun h=>absurd h (by omega)⟩⟩
    case measure=>simp[intOf]
  ·cases hf:fitsB low
   ·go_wp2_with (go_at_call 84;refine(fits_any _ _).mono ?_;rintro e w' ⟨rfl,rfl⟩)
    go_ret2
    exact⟨by rw[meets_low hf];rfl,rfl⟩
   ·go_wp2_with (go_at_call 84;refine(fits_any _ _).mono ?_;rintro e w' ⟨rfl,rfl⟩)
    go_round
    case rel=>exact⟨3,by omega,rfl,⟨fun _=>H.out.1 (by omega),fun _=>H.out.2.1 (by omega),fun _=>(by first|exact hf|trivial),fun h=>absurd h (by omega)⟩⟩
    case measure=>simp[intOf]
  ·cases hf:fitsB high
   ·go_wp2_with (go_at_call 84;refine(fits_any _ _).mono ?_;rintro e w' ⟨rfl,rfl⟩)
    go_ret2
    exact⟨by rw[meets_high hf];rfl,rfl⟩
   ·go_wp2_with (go_at_call 84;refine(fits_any _ _).mono ?_;rintro e w' ⟨rfl,rfl⟩)
    go_round
    case rel=>exact⟨4,by omega,rfl,⟨fun _=>H.out.1 (by omega),fun _=>H.out.2.1 (by omega),fun _=>H.out.2.2.1 (by omega),fun _=>(by first|exact hf|trivial)⟩⟩
    case measure=>simp[intOf]
  ·have f1:=H.out.1 (by omega)
   have f2:=H.out.2.1 (by omega);have f3:=H.out.2.2.1 (by omega);have f4:=H.out.2.2.2 (by omega);have b1:=fits_of f1;have b2:=fits_of f2;have b3:=fits_of f3;have b4:=fits_of f4;have F1:=Lib.hid f1;have F2:=Lib.hid f2;have F3:=Lib.hid f3;have F4:=Lib.hid f4;clear f1 f2 f3 f4 H i0 i1 i2 i3;by_cases hc:high<low
   ·go_wp2
    go_ret2
    exact⟨by rw[meets_form F1.out F2.out F3.out F4.out hc];rfl,rfl⟩
   ·by_cases hd:l+low≤r
    ·go_wp2
     go_ret2
     exact⟨by rw[meets_ok F1.out F2.out F3.out F4.out (by omega)];simp[hd],rfl⟩
    ·go_wp2
     go_ret2
     exact⟨by rw[meets_ok F1.out F2.out F3.out F4.out (by omega)];simp;omega,rfl⟩
def untilF (mark span:Int):Int:=if mark=1099511627776 then 1099511627776 else mark-span
end Go.Proofs.YtjhbeecmdgglgaaGreatDoor.tm
set_option linter.unusedSimpArgs false
set_option linter.unusedVariables false
namespace Go.Proofs.YtjhbeecmdgglgaaGreatDoor
open Go.RowKit
open tm (fitsB)
structure Pl where
 kind:Int
 mode:Int
 low:Int
 high:Int
 size:Int
 limit:Int
 vl:Value
 vr:Value
 vk:Value
 vq:Value
 grouped:Bool
 vg:Value
 va:Value
 left:List Int
 right:List Int
 lkeys:List Int
 rkeys:List Int
 group:List Int
 aggs:List (Int×Int)
def aggCell (a:Int×Int):List Value:=[.int .i64 a.1,.int .i64 a.2]
def aggCells (l:List (Int×Int)):List Value:=l.flatMap aggCell
theorem aggCell_len (a:Int×Int):(aggCell a).length=2:=rfl
structure Pl.ok (w:World) (p:Pl):Prop where
 l:Sl w p.vl p.left.length (intCells p.left)
 r:Sl w p.vr p.right.length (intCells p.right)
 k:Sl w p.vk p.lkeys.length (intCells p.lkeys)
 q:Sl w p.vq p.rkeys.length (intCells p.rkeys)
 g:Sl w p.vg p.group.length (intCells p.group)
 a:Sl w p.va p.aggs.length (aggCells p.aggs)
theorem Pl.ok.below {w w':World}{p:Pl}(h:p.ok w)(hb:Below w.heap.size w w'):p.ok w':=⟨h.l.below hb,h.r.below hb,h.k.below hb,h.q.below hb,h.g.below hb,h.a.below hb⟩
theorem Pl.ok.drew {w:World}{p:Pl}(h:p.ok w):p.ok w.drew:=⟨h.l,h.r,h.k,h.q,h.g,h.a⟩
theorem Pl.ok.alloc {w:World}{p:Pl}(h:p.ok w)(o:Obj):p.ok (w.alloc o):=h.below (below_alloc w o)
theorem agg_at {w:World}{l:List (Int×Int)}{v:Value}(h:Sl w v l.length (aggCells l)){A:Option Addr}{n c:Nat}(hv:v= .slice A n c){k:Nat}{x:Int×Int}(hk:l[k]?=some x):
 ∃b off,A=some ⟨b,off,none⟩∧b<w.heap.size∧ ∀w',Below w.heap.size w w'→
  w'.cell? ⟨b,off+k*2,none⟩=some (.int .i64 x.1)∧w'.cell? ⟨b,off+k*2+1,none⟩=some (.int .i64 x.2):=by
 obtain⟨A',c',hv',h1,h2,-,h3⟩:=h;rw[hv]at hv';injection hv' with e1 e2 e3;subst e1;have a1:=flat_at aggCell_len l k 0 (by omega);have a2:=flat_at aggCell_len l k 1 (by omega);rw[hk]at a1 a2;simp only[Option.bind_some,Nat.add_zero]at a1 a2;obtain⟨b,off,hA,hc⟩:=h3 (by intro h0;rw[show l.flatMap aggCell=aggCells l from rfl,h0]at a1;simp[aggCell]at a1);have c1:=hc _ _ a1;have c2:=hc _ _ a2;exact⟨b,off,hA,World.block_lt_of_cell? w _ c1,fun w' hb=>⟨cell_below hb c1,cell_below hb c2⟩⟩
def btw (n lo hi:Int):Bool:=decide (lo≤n∧n≤hi)
theorem btw_yes {n lo hi:Int}(h1:lo≤n)(h2:n≤hi):btw n lo hi=true:=by simp[btw,h1,h2]
theorem btw_of {n lo hi:Int}(h:btw n lo hi=true):lo≤n∧n≤hi:=by simpa[btw]using h
theorem btw_no {n lo hi:Int}(h:n<lo∨hi<n):btw n lo hi=false:=by simp[btw];omega
set_option maxHeartbeats 400000 in
set_option maxRecDepth 10000 in
theorem between_any (n lo hi:Int)(w:World):Calls Tryz.prog 127 #[.int .i64 n,.int .i64 lo,.int .i64 hi] w fun e w'=>e= .returned (.bool (btw n lo hi))∧w=w':=by
 by_cases h1:lo≤n
 ·by_cases h2:n≤hi
  ·have e1:=Lib.hid (btw_yes h1 h2)
   go_enter Tryz.func127,Tryz.ntmps127
   go_wp2;go_ret;exact⟨ret_bool (by rw[e1.out]),rfl⟩
  ·have e1:=Lib.hid (btw_no (n:=n) (lo:=lo) (hi:=hi) (by omega))
   go_enter Tryz.func127,Tryz.ntmps127
   go_wp2;go_ret;exact⟨ret_bool (by rw[e1.out]),rfl⟩
 ·have e1:=Lib.hid (btw_no (n:=n) (lo:=lo) (hi:=hi) (by omega))
  go_enter Tryz.func127,Tryz.ntmps127
  go_wp2;go_ret;exact⟨ret_bool (by rw[e1.out]),rfl⟩
set_option maxHeartbeats 400000 in
set_option maxRecDepth 10000 in
theorem kindOne_any (a:Int×Int)(w:World):Calls Tryz.prog 129 #[.agg #[.int .i64 a.1,.int .i64 a.2]] w fun e w'=>e= .returned (.bool (btw a.1 1 4))∧Below w.heap.size w w':=by
 go_enter Tryz.func129,Tryz.ntmps129
 go_wp2_with (go_at_call 127;refine(between_any _ _ _ _).mono ?_;rintro e w' ⟨rfl,rfl⟩)
 go_ret;exact⟨rfl,below_alloc _ _⟩
def allB {α:Type} (f:α→Bool) (l:List α):Bool:=l.all f
theorem all_no {α:Type}{f:α→Bool}{l:List α}{k:Nat}{x:α}(h:l[k]?=some x)(hx:f x=false):allB f l=false:=by
 unfold allB;rw[List.all_eq_false];exact⟨x,List.mem_of_getElem? h,by simp[hx]⟩
theorem all_yes {α:Type}{f:α→Bool}{l:List α}(h: ∀x∈l.take l.length,f x=true):allB f l=true:=by
 unfold allB;rw[List.all_eq_true];rw[List.take_length]at h;exact h
theorem all_step {α:Type}{f:α→Bool}{l:List α}{k:Nat}{x:α}(h: ∀y∈l.take k,f y=true)(hk:l[k]?=some x)(hx:f x=true): ∀y∈l.take (k+1),f y=true:=by
 rw[List.take_add_one,hk];intro y hy;rcases List.mem_append.1 hy with hy|hy
 ·exact h y hy
 ·simp at hy;rw[hy];exact hx
set_option maxHeartbeats 1000000 in
set_option maxRecDepth 10000 in
theorem allKinds_any (v:Value)(l:List (Int×Int))(w:World)(h:Sl w v l.length (aggCells l)):
 Calls Tryz.prog 128 #[v,.func (.func 129) #[] #[]] w fun e w'=>e= .returned (.bool (allB (fun a=>btw a.1 1 4) l))∧Below w.heap.size w w':=by
 have HH:=Lib.hid h;obtain⟨A,c,rfl,h1,h2,-⟩:=h;unfold maxLen at h2;go_enter Tryz.func128,Tryz.ntmps128
 go_wp2
 go_loopw[6,9] (fun _ i wr=> ∃k:Nat,k≤l.length∧i= .int .i64 k∧Hid (∀x∈l.take k,btw x.1 1 4=true)∧Below w.heap.size w wr) (fun _ i _=>l.length-(intOf i).toNat)
 case atStart=>exact⟨0,by omega,rfl,by simp[Hid],Below.refl _ _⟩
 case round=>
  obtain⟨k,hk,rfl,H,hbw⟩:=hrel;by_cases hlt:k<l.length
  ·have hx:=List.getElem?_eq_getElem (l:=l) hlt
   generalize l[k]=x at hx;obtain⟨g,off,rfl,-,hc⟩:=agg_at HH.out rfl hx;obtain⟨c1,c2⟩:=hc _ hbw;have HX:=Lib.hid hx;clear hx hc;cases hq:btw x.1 1 4
   ·have e1:=Lib.hid (all_no (f:=fun a=>btw a.1 1 4) HX.out hq)
    have HQ:=Lib.hid hq;clear hq
    go_wp2_with (go_at_call 129;refine(kindOne_any x _).mono ?_;rw[HQ.out];rintro e w1 ⟨rfl,hb1⟩)
    go_ret;exact⟨ret_bool e1.out.symm,(hbw.alloc hbw.size _).trans (hb1.mono (by have:=hbw.size;simp;omega))⟩
   ·have e1:=Lib.hid (all_step (f:=fun a=>btw a.1 1 4) H.out HX.out hq)
    have HQ:=Lib.hid hq;clear hq
    go_wp2_with (go_at_call 129;refine(kindOne_any x _).mono ?_;rw[HQ.out];rintro e w1 ⟨rfl,hb1⟩)
    go_roundw
    case rel=>exact⟨k+1,by omega,by go_num,e1.out,(hbw.alloc hbw.size _).trans (hb1.mono (by have:=hbw.size;simp;omega))⟩
    case measure=>simp[intOf];omega
  ·obtain rfl:k=l.length:=by omega
   have e1:=Lib.hid (all_yes (f:=fun a:Int×Int=>btw a.1 1 4) H.out);go_wp2;go_ret;exact⟨ret_bool e1.out.symm,hbw⟩
def kindsB (p:Pl):Bool:=btw p.kind 1 3&&(btw p.mode 1 (if p.kind=3 then 2 else 4)&&(!p.grouped||allB (fun a=>btw a.1 1 4) p.aggs))
set_option maxHeartbeats 2000000 in
set_option maxRecDepth 10000 in
theorem kinds_any (p:Pl)(w:World)(h:p.ok w):
 Calls Tryz.prog 96 #[.agg #[.int .i64 p.kind,.int .i64 p.mode,.int .i64 p.low,.int .i64 p.high,.int .i64 p.size,.int .i64 p.limit,p.vl,p.vr,p.vk,p.vq,.bool p.grouped,p.vg,p.va]] w fun e w'=>e= .returned (.bool (kindsB p))∧Below w.heap.size w w':=by
 have HA:=Lib.hid (fun w' (hb:Below w.heap.size w w')=>allKinds_any p.va p.aggs w' (h.a.below hb));clear h;have hB:=below_alloc w (.cells #[.int .i64 p.kind,.int .i64 p.mode,.int .i64 p.low,.int .i64 p.high,.int .i64 p.size,.int .i64 p.limit,p.vl,p.vr,p.vk,p.vq,.bool p.grouped,p.vg,p.va] 25);obtain⟨kind,mode,low,high,size,limit,vl,vr,vk,vq,grouped,vg,va,left,right,lkeys,rkeys,group,aggs⟩:=p;simp only at HA hB⊢
 have E: ∀m:Int,(if kind=3 then 2 else 4)=m→Hid (kindsB ⟨kind,mode,low,high,size,limit,vl,vr,vk,vq,grouped,vg,va,left,right,lkeys,rkeys,group,aggs⟩=(btw kind 1 3&&(btw mode 1 m&&(!grouped||allB (fun a=>btw a.1 1 4) aggs)))):=by
  intro m hm;show kindsB _=_;rw[←hm];rfl
 have HE:=Lib.hid E;clear E;by_cases hk:kind=3
 ·have hb:=beqT hk
  have H:=Lib.hid (HE.out 2 (if_pos hk));clear hk HE;cases h1:btw kind 1 3<;>cases h2:btw mode 1 2<;>cases grouped<;>cases h3:allB (fun a:Int×Int=>btw a.1 1 4) aggs
  all_goals
   have R:=Lib.hid (H.out.trans (by rw[h1,h2,h3]));clear H;go_enter Tryz.func96,Tryz.ntmps96
   go_wp2_with (first
    |(go_at_call 127;refine(between_any _ _ _ _).mono ?_;rintro e w' ⟨rfl,rfl⟩)
    |(go_at_call 128;refine(HA.out _ hB).mono ?_;rintro e w1 ⟨rfl,hb1⟩;have hB:=below_trans hB hb1))
   go_ret;exact⟨ret_bool (by rw[R.out];rfl),hB⟩
 ·have hb:=beqF hk
  have H:=Lib.hid (HE.out 4 (if_neg hk));clear hk HE;cases h1:btw kind 1 3<;>cases h2:btw mode 1 4<;>cases grouped<;>cases h3:allB (fun a:Int×Int=>btw a.1 1 4) aggs
  all_goals
   have R:=Lib.hid (H.out.trans (by rw[h1,h2,h3]));clear H;go_enter Tryz.func96,Tryz.ntmps96
   go_wp2_with (first
    |(go_at_call 127;refine(between_any _ _ _ _).mono ?_;rintro e w' ⟨rfl,rfl⟩)
    |(go_at_call 128;refine(HA.out _ hB).mono ?_;rintro e w1 ⟨rfl,hb1⟩;have hB:=below_trans hB hb1))
   go_ret;exact⟨ret_bool (by rw[R.out];rfl),hB⟩
end Go.Proofs.YtjhbeecmdgglgaaGreatDoor
namespace Go.Proofs.YtjhbeecmdgglgaaGreatDoor
open Go.RowKit
open tm (fitsB fits_any)
def rangesB (p:Pl):Bool:=
 (if p.kind=1 then fitsB p.low&&(fitsB p.high&&p.size==0)else if p.kind=2 then p.low==0&&(p.high==0&&btw p.size 1 1099511627776)else p.low==0&&(p.high==0&&p.size==0))&&btw p.limit 1 64
theorem bne_of {a b:Int}{q:Bool}(h:(a==b)=q):(a != b)= !q:=by rw[bne,h]
set_option maxHeartbeats 4000000 in
set_option maxRecDepth 10000 in
theorem ranges_any (p:Pl)(w:World):
 Calls Tryz.prog 97 #[.agg #[.int .i64 p.kind,.int .i64 p.mode,.int .i64 p.low,.int .i64 p.high,.int .i64 p.size,.int .i64 p.limit,p.vl,p.vr,p.vk,p.vq,.bool p.grouped,p.vg,p.va]] w fun e w'=>e= .returned (.bool (rangesB p))∧Below w.heap.size w w':=by
 have hB:=below_alloc w (.cells #[.int .i64 p.kind,.int .i64 p.mode,.int .i64 p.low,.int .i64 p.high,.int .i64 p.size,.int .i64 p.limit,p.vl,p.vr,p.vk,p.vq,.bool p.grouped,p.vg,p.va] 25);obtain⟨kind,mode,low,high,size,limit,vl,vr,vk,vq,grouped,vg,va,left,right,lkeys,rkeys,group,aggs⟩:=p;simp only at hB⊢;by_cases hk:kind=1
 ·have hb:=beqT hk
  have H:=Lib.hid (show rangesB ⟨kind,mode,low,high,size,limit,vl,vr,vk,vq,grouped,vg,va,left,right,lkeys,rkeys,group,aggs⟩=((fitsB low&&(fitsB high&&size==0))&&btw limit 1 64)from by simp[rangesB,hk]);clear hk;cases h1:fitsB low<;>cases h2:fitsB high<;>cases h3:(size==0)<;>cases h4:btw limit 1 64
  all_goals
   have g3:=bne_of h3;simp only[Bool.not_true,Bool.not_false]at g3;have R:=Lib.hid (H.out.trans (by rw[h1,h2,h3,h4]));clear H;go_enter Tryz.func97,Tryz.ntmps97
   go_wp2_with (first
    |(go_at_call 127;refine(between_any _ _ _ _).mono ?_;rintro e w' ⟨rfl,rfl⟩)
    |(go_at_call 84;refine(fits_any _ _).mono ?_;rintro e w' ⟨rfl,rfl⟩))
   go_ret;exact⟨ret_bool (by rw[R.out];rfl),hB⟩
 ·by_cases hk2:kind=2
  ·have hb0:=beqF hk
   have hb:=beqT hk2;have H:=Lib.hid (show rangesB ⟨kind,mode,low,high,size,limit,vl,vr,vk,vq,grouped,vg,va,left,right,lkeys,rkeys,group,aggs⟩=((low==0&&(high==0&&btw size 1 1099511627776))&&btw limit 1 64)from by simp[rangesB,hk2]);clear hk hk2;cases h1:(low==0)<;>cases h2:(high==0)<;>cases h3:btw size 1 1099511627776<;>cases h4:btw limit 1 64
   all_goals
    have g1:=bne_of h1;have g2:=bne_of h2;simp only[Bool.not_true,Bool.not_false]at g1 g2;have R:=Lib.hid (H.out.trans (by rw[h1,h2,h3,h4]));clear H;go_enter Tryz.func97,Tryz.ntmps97
    go_wp2_with (first
     |(go_at_call 127;refine(between_any _ _ _ _).mono ?_;rintro e w' ⟨rfl,rfl⟩)
     |(go_at_call 84;refine(fits_any _ _).mono ?_;rintro e w' ⟨rfl,rfl⟩))
    go_ret;exact⟨ret_bool (by rw[R.out];rfl),hB⟩
  ·have hb0:=beqF hk
   have hb:=beqF hk2;have H:=Lib.hid (show rangesB ⟨kind,mode,low,high,size,limit,vl,vr,vk,vq,grouped,vg,va,left,right,lkeys,rkeys,group,aggs⟩=((low==0&&(high==0&&size==0))&&btw limit 1 64)from by simp[rangesB,hk,hk2]);clear hk hk2;cases h1:(low==0)<;>cases h2:(high==0)<;>cases h3:(size==0)<;>cases h4:btw limit 1 64
   all_goals
    have g1:=bne_of h1;have g2:=bne_of h2;have g3:=bne_of h3;simp only[Bool.not_true,Bool.not_false]at g1 g2 g3;have R:=Lib.hid (H.out.trans (by rw[h1,h2,h3,h4]));clear H;go_enter Tryz.func97,Tryz.ntmps97
    go_wp2_with (first
     |(go_at_call 127;refine(between_any _ _ _ _).mono ?_;rintro e w' ⟨rfl,rfl⟩)
     |(go_at_call 84;refine(fits_any _ _).mono ?_;rintro e w' ⟨rfl,rfl⟩))
    go_ret;exact⟨ret_bool (by rw[R.out];rfl),hB⟩
def lens (p:Pl):List Bool:=[btw p.left.length 1 4,btw p.right.length 1 4,btw p.lkeys.length 1 4,btw p.rkeys.length 1 4]
def countsB (p:Pl):Bool:=allB id (lens p)&&(if p.grouped then btw p.aggs.length 1 4&&decide ((p.group.length:Int)≤8-p.aggs.length)else(p.group.length:Int)+p.aggs.length==0)
set_option maxHeartbeats 4000000 in
set_option maxRecDepth 10000 in
theorem counts_any (p:Pl)(w:World)(h:p.ok w):
 Calls Tryz.prog 98 #[.agg #[.int .i64 p.kind,.int .i64 p.mode,.int .i64 p.low,.int .i64 p.high,.int .i64 p.size,.int .i64 p.limit,p.vl,p.vr,p.vk,p.vq,.bool p.grouped,p.vg,p.va]] w fun e w'=>e= .returned (.bool (countsB p))∧Below w.heap.size w w':=by
 obtain⟨kind,mode,low,high,size,limit,vl,vr,vk,vq,grouped,vg,va,left,right,lkeys,rkeys,group,aggs⟩:=p;obtain⟨sl,sr,sk,sq,sg,sa⟩:=h;simp only at sl sr sk sq sg sa⊢;obtain⟨A0,c0,rfl,n0,m0,-⟩:=sl;obtain⟨A1,c1,rfl,n1,m1,-⟩:=sr;obtain⟨A2,c2,rfl,n2,m2,-⟩:=sk;obtain⟨A3,c3,rfl,n3,m3,-⟩:=sq;obtain⟨A4,c4,rfl,n4,m4,-⟩:=sg;obtain⟨A5,c5,rfl,n5,m5,-⟩:=sa;unfold maxLen at m0 m1 m2 m3 m4 m5;have K1:=new_first w 25 #[.int .i64 kind,.int .i64 mode,.int .i64 low,.int .i64 high,.int .i64 size,.int .i64 limit,.slice A0 left.length c0,.slice A1 right.length c1,.slice A2 lkeys.length c2,.slice A3 rkeys.length c3,.bool grouped,.slice A4 group.length c4,.slice A5 aggs.length c5] (.cells #[.slice A0 left.length c0,.slice A1 right.length c1,.slice A2 lkeys.length c2,.slice A3 rkeys.length c3] 22);have K2:=new_second w 22 #[.slice A0 left.length c0,.slice A1 right.length c1,.slice A2 lkeys.length c2,.slice A3 rkeys.length c3] (.cells #[.int .i64 kind,.int .i64 mode,.int .i64 low,.int .i64 high,.int .i64 size,.int .i64 limit,.slice A0 left.length c0,.slice A1 right.length c1,.slice A2 lkeys.length c2,.slice A3 rkeys.length c3,.bool grouped,.slice A4 group.length c4,.slice A5 aggs.length c5] 25);have hB:=fun o1 o2=>below_trans (below_alloc w o1) (below_alloc _ o2);have HL:Hid (lens ⟨kind,mode,low,high,size,limit,.slice A0 left.length c0,.slice A1 right.length c1,.slice A2 lkeys.length c2,.slice A3 rkeys.length c3,grouped,.slice A4 group.length c4,.slice A5 aggs.length c5,left,right,lkeys,rkeys,group,aggs⟩=[btw left.length 1 4,btw right.length 1 4,btw lkeys.length 1 4,btw rkeys.length 1 4]):=Lib.hid rfl
 have HC:Hid (countsB ⟨kind,mode,low,high,size,limit,.slice A0 left.length c0,.slice A1 right.length c1,.slice A2 lkeys.length c2,.slice A3 rkeys.length c3,grouped,.slice A4 group.length c4,.slice A5 aggs.length c5,left,right,lkeys,rkeys,group,aggs⟩=
  (allB id [btw left.length 1 4,btw right.length 1 4,btw lkeys.length 1 4,btw rkeys.length 1 4]&&(if grouped then btw aggs.length 1 4&&decide ((group.length:Int)≤8-aggs.length)else(group.length:Int)+aggs.length==0))):=Lib.hid rfl
 generalize countsB ⟨kind,mode,low,high,size,limit,.slice A0 left.length c0,.slice A1 right.length c1,.slice A2 lkeys.length c2,.slice A3 rkeys.length c3,grouped,.slice A4 group.length c4,.slice A5 aggs.length c5,left,right,lkeys,rkeys,group,aggs⟩=R at HC⊢;clear HL;have z0:=K2.cell 0 _ rfl;have z1:=K2.cell 1 _ rfl;have z2:=K2.cell 2 _ rfl;have z3:=K2.cell 3 _ rfl;have ZZ:=Lib.hid (And.intro z0 (And.intro z1 (And.intro z2 z3)));have y0:=K1.cell 10 _ rfl;have y1:=K1.cell 11 _ rfl;have y2:=K1.cell 12 _ rfl;clear z0 z1 z2 z3 K1 K2;have HB:=Lib.hid hB;clear hB;obtain⟨bs,hbs⟩: ∃bs:List Bool,bs=[btw left.length 1 4,btw right.length 1 4,btw lkeys.length 1 4,btw rkeys.length 1 4]:=⟨_,rfl⟩;have HBS:=Lib.hid hbs;have HW:=Lib.hid (show(wrap64 ((group.length:Int)+aggs.length)==0)=((group.length:Int)+aggs.length==0)from by rw[Bool.eq_iff_iff];simp only[beq_iff_eq];unfold wrap64;omega);clear hbs;go_enter Tryz.func98,Tryz.ntmps98
 go_wp2
 go_loop [4,15] (fun _ i=> ∃k:Nat,k≤4∧i= .int .i64 k∧Hid (∀b∈bs.take k,id b=true)) (fun _ i=>4-(intOf i).toNat)
 case atStart=>exact⟨0,by omega,rfl,by simp[Hid]⟩
 case round=>
  obtain⟨k,hk,rfl,H⟩:=hrel;have hk4:k=0∨k=1∨k=2∨k=3∨k=4:=by omega
  rcases hk4 with rfl|rfl|rfl|rfl|rfl
  ·obtain⟨z0,z1,z2,z3⟩:=ZZ.out
   cases hq:btw left.length 1 4
   ·have E:=Lib.hid (all_no (f:=id) (l:=bs) (k:=0) (by rw[HBS.out];rfl) hq)
    clear H
    go_wp2_with (go_at_call 127;refine(between_any _ _ _ _).mono ?_;rintro e w' ⟨rfl,rfl⟩)
    go_ret;exact⟨ret_bool (by rw[HC.out,←HBS.out,E.out];rfl),HB.out _ _⟩
   ·have E:=Lib.hid (all_step (f:=id) (l:=bs) (k:=0) H.out (by rw[HBS.out];rfl) hq)
    clear H
    go_wp2_with (go_at_call 127;refine(between_any _ _ _ _).mono ?_;rintro e w' ⟨rfl,rfl⟩)
    go_round
    case rel=>exact⟨1,by omega,by go_num,E.out⟩
    case measure=>simp[intOf]
  ·obtain⟨z0,z1,z2,z3⟩:=ZZ.out
   cases hq:btw right.length 1 4
   ·have E:=Lib.hid (all_no (f:=id) (l:=bs) (k:=1) (by rw[HBS.out];rfl) hq)
    clear H
    go_wp2_with (go_at_call 127;refine(between_any _ _ _ _).mono ?_;rintro e w' ⟨rfl,rfl⟩)
    go_ret;exact⟨ret_bool (by rw[HC.out,←HBS.out,E.out];rfl),HB.out _ _⟩
   ·have E:=Lib.hid (all_step (f:=id) (l:=bs) (k:=1) H.out (by rw[HBS.out];rfl) hq)
    clear H
    go_wp2_with (go_at_call 127;refine(between_any _ _ _ _).mono ?_;rintro e w' ⟨rfl,rfl⟩)
    go_round
    case rel=>exact⟨2,by omega,by go_num,E.out⟩
    case measure=>simp[intOf]
  ·obtain⟨z0,z1,z2,z3⟩:=ZZ.out
   cases hq:btw lkeys.length 1 4
   ·have E:=Lib.hid (all_no (f:=id) (l:=bs) (k:=2) (by rw[HBS.out];rfl) hq)
    clear H
    go_wp2_with (go_at_call 127;refine(between_any _ _ _ _).mono ?_;rintro e w' ⟨rfl,rfl⟩)
    go_ret;exact⟨ret_bool (by rw[HC.out,←HBS.out,E.out];rfl),HB.out _ _⟩
   ·have E:=Lib.hid (all_step (f:=id) (l:=bs) (k:=2) H.out (by rw[HBS.out];rfl) hq)
    clear H
    go_wp2_with (go_at_call 127;refine(between_any _ _ _ _).mono ?_;rintro e w' ⟨rfl,rfl⟩)
    go_round
    case rel=>exact⟨3,by omega,by go_num,E.out⟩
    case measure=>simp[intOf]
  ·obtain⟨z0,z1,z2,z3⟩:=ZZ.out
   cases hq:btw rkeys.length 1 4
   ·have E:=Lib.hid (all_no (f:=id) (l:=bs) (k:=3) (by rw[HBS.out];rfl) hq)
    clear H
    go_wp2_with (go_at_call 127;refine(between_any _ _ _ _).mono ?_;rintro e w' ⟨rfl,rfl⟩)
    go_ret;exact⟨ret_bool (by rw[HC.out,←HBS.out,E.out];rfl),HB.out _ _⟩
   ·have E:=Lib.hid (all_step (f:=id) (l:=bs) (k:=3) H.out (by rw[HBS.out];rfl) hq)
    clear H
    go_wp2_with (go_at_call 127;refine(between_any _ _ _ _).mono ?_;rintro e w' ⟨rfl,rfl⟩)
    go_round
    case rel=>exact⟨4,by omega,by go_num,E.out⟩
    case measure=>simp[intOf]
  ·have E:=Lib.hid (all_yes (f:=id) (l:=bs) (by have:=H.out;rw[HBS.out]at this⊢;exact this))
   clear H ZZ;cases grouped
   ·cases hq:((group.length:Int)+aggs.length==0)
    all_goals
     have HQ:=Lib.hid (HC.out.trans (by rw[←HBS.out,E.out,hq]));go_wp2;go_ret;exact⟨ret_bool (by rw[HQ.out,HW.out,hq];rfl),HB.out _ _⟩
   ·cases h1:btw aggs.length 1 4
    ·have HQ:=Lib.hid (HC.out.trans (by rw[←HBS.out,E.out,h1]))
     go_wp2_with (go_at_call 127;refine(between_any _ _ _ _).mono ?_;rintro e w' ⟨rfl,rfl⟩)
     go_ret;exact⟨ret_bool (by rw[HQ.out];rfl),HB.out _ _⟩
    ·cases hq:decide ((group.length:Int)≤8-aggs.length)
     all_goals
      have HQ:=Lib.hid (HC.out.trans (by rw[←HBS.out,E.out,h1,hq]))
      go_wp2_with (go_at_call 127;refine(between_any _ _ _ _).mono ?_;rintro e w' ⟨rfl,rfl⟩)
      go_ret;exact⟨ret_bool (by rw[HQ.out];first|rfl|exact hq),HB.out _ _⟩
end Go.Proofs.YtjhbeecmdgglgaaGreatDoor
namespace Go.Proofs.YtjhbeecmdgglgaaGreatDoor
open Go.RowKit
structure Cnt where
 v:Value
 r:List Val
 n:Int
def Cnt.cells (c:Cnt):List Value:=[c.v,.int .i64 c.n]
theorem Cnt.cells_len (c:Cnt):c.cells.length=2:=rfl
def cntCells (l:List Cnt):List Value:=l.flatMap Cnt.cells
structure View (w:World) (v:Value) (l:List Cnt):Prop where
 sl:Sl w v l.length (cntCells l)
 rows: ∀c∈l,Sl w c.v c.r.length (rowCells c.r)
theorem View.below {w w':World}{v:Value}{l:List Cnt}(h:View w v l)(hb:Below w.heap.size w w'):View w' v l:=⟨h.sl.below hb,fun c hc=>(h.rows c hc).below hb⟩
theorem View.drew {w:World}{v:Value}{l:List Cnt}(h:View w v l):View w.drew v l:=⟨h.sl,h.rows⟩
structure FineV (l:List Cnt):Prop where
 rows: ∀c∈l,Fine c.r
 nums: ∀c∈l,-9223372036854775808≤c.n∧c.n≤9223372036854775807
def av (l:List Cnt):AV:=l.map fun c=>(c.r,c.n)
theorem cnt_at {w:World}{l:List Cnt}{v:Value}(h:Sl w v l.length (cntCells l)){A:Option Addr}{n c:Nat}(hv:v= .slice A n c){k:Nat}{x:Cnt}(hk:l[k]?=some x):
 ∃b off,A=some ⟨b,off,none⟩∧b<w.heap.size∧ ∀w',Below w.heap.size w w'→
  w'.cell? ⟨b,off+k*2,none⟩=some x.v∧w'.cell? ⟨b,off+k*2+1,none⟩=some (.int .i64 x.n):=by
 obtain⟨A',c',hv',h1,h2,-,h3⟩:=h;rw[hv]at hv';injection hv' with e1 e2 e3;subst e1;have a1:=flat_at Cnt.cells_len l k 0 (by omega);have a2:=flat_at Cnt.cells_len l k 1 (by omega);rw[hk]at a1 a2;simp only[Option.bind_some,Nat.add_zero]at a1 a2;obtain⟨b,off,hA,hc⟩:=h3 (by intro h0;rw[show l.flatMap Cnt.cells=cntCells l from rfl,h0]at a1;simp[Cnt.cells]at a1);have c1:=hc _ _ a1;have c2:=hc _ _ a2;exact⟨b,off,hA,World.block_lt_of_cell? w _ c1,fun w' hb=>⟨cell_below hb c1,cell_below hb c2⟩⟩
def okC (c:Cnt):Bool:=(keyErr c.r==0)&&btw c.n 1 1073741824
def okAt (l:List Cnt) (k:Nat):Bool:=
 match l[k]? with
 |none=>true
 |some c=>okC c&&(if k=0 then true else match l[k-1]? with
  |none=>true
  |some d=>decide (rowsF d.r c.r<0))
def chkV (l:List Cnt):Int:=if 4096<l.length then 2 else if allB (okAt l) (List.range l.length)then 0 else 1
theorem okAt_zero {l:List Cnt}{c:Cnt}(h:l[0]?=some c):okAt l 0=okC c:=by simp[okAt,h]
theorem okAt_succ {l:List Cnt}{k:Nat}{c d:Cnt}(h:l[k+1]?=some c)(hd:l[k]?=some d):okAt l (k+1)=(okC c&&decide (rowsF d.r c.r<0)):=by simp[okAt,h,hd]
theorem range_at {n k:Nat}(h:k<n):(List.range n)[k]?=some k:=by simp[h]
theorem chk_bad {l:List Cnt}{k:Nat}(h0: ¬4096<l.length)(hk:k<l.length)(h:okAt l k=false):chkV l=1:=by
 unfold chkV;rw[if_neg h0,all_no (range_at hk) h];rfl
theorem chk_good {l:List Cnt}(h0: ¬4096<l.length)(h: ∀j∈(List.range l.length).take l.length,okAt l j=true):chkV l=0:=by
 unfold chkV;rw[if_neg h0,all_yes (f:=okAt l) (by rwa[List.length_range])];rfl
structure GoodV (l:List Cnt):Prop where
 few:l.length≤4096
 rises:Rises (av l)
 nums: ∀p∈av l,1≤p.2∧p.2≤1073741824
theorem chk_zero {l:List Cnt}(hf:FineV l)(h:chkV l=0):GoodV l:=by
 unfold chkV at h;by_cases h0:4096<l.length
 ·rw[if_pos h0]at h;omega
 ·rw[if_neg h0]at h
  have hall:allB (okAt l) (List.range l.length)=true:=by
   cases hb:allB (okAt l) (List.range l.length)
   ·rw[hb]at h;simp at h
   ·rfl
  rw[allB,List.all_eq_true]at hall
  have hok: ∀k c,l[k]?=some c→okC c=true∧(k≠0→ ∀d,l[k-1]?=some d→rowsF d.r c.r<0):=by
   intro k c hc;have hk:=(List.getElem?_eq_some_iff.1 hc).1;have:=hall k (List.mem_range.2 hk);unfold okAt at this;rw[hc]at this;simp only[Bool.and_eq_true]at this;refine⟨this.1,fun hk0 d hd=> ?_⟩;have h2:=this.2;rw[if_neg hk0,hd]at h2;simpa using h2
  have hgood: ∀c∈l,GoodR c.r∧1≤c.n∧c.n≤1073741824:=by
   intro c hc;obtain⟨k,hk⟩:=List.getElem?_of_mem hc;have:=(hok k c hk).1;unfold okC at this;rw[Bool.and_eq_true,beq_iff_eq]at this;have hb:=btw_of this.2;exact⟨goodR_of (hf.rows c hc) this.1,hb.1,hb.2⟩
  refine⟨by omega,⟨fun p hp=> ?_,?_⟩,fun p hp=> ?_⟩
  ·obtain⟨c,hc,rfl⟩:=List.mem_map.1 hp
   exact(hgood c hc).1
  ·unfold av
   rw[List.pairwise_map,List.pairwise_iff_getElem];intro i j hi hj hij
   have step: ∀n i (hi:i<l.length) (hj:i+n+1<l.length),rowsF (l[i]).r (l[i+n+1]).r<0:=by
    intro n
    induction n with
    |zero=>
     intro i hi hj;exact(hok (i+1) _ (List.getElem?_eq_getElem hj)).2 (by omega) _ (List.getElem?_eq_getElem hi)
    |succ n ih=>
     intro i hi hj;have h1:=ih i hi (by omega);have h2:=(hok (i+(n+1)+1) _ (List.getElem?_eq_getElem hj)).2 (by omega) _ (List.getElem?_eq_getElem (show i+n+1<l.length by omega));exact rowsF_trans (hgood _ (List.getElem_mem _)).1 (hgood _ (List.getElem_mem _)).1 (hgood _ (List.getElem_mem _)).1 h1 h2
   have:=step (j-i-1) i hi (by omega);simpa[show i+(j-i-1)+1=j by omega]using this
  ·obtain⟨c,hc,rfl⟩:=List.mem_map.1 hp
   exact(hgood c hc).2
theorem str_less {a b:List Val}(ha:GoodR a)(hb:GoodR b):Op.bytesLess (str (keyRow a)).toList (str (keyRow b)).toList=decide (rowsF a b<0):=by rw[str_toList,str_toList];exact key_less ha.good hb.good
theorem str_same {a b:List Val}(ha:GoodR a)(hb:GoodR b):((str (keyRow a)).toList==(str (keyRow b)).toList)=decide (rowsF a b=0):=by rw[str_toList,str_toList];exact key_same ha.good hb.good
def lastKey (l:List Cnt) (k:Nat):ByteArray:=if k=0 then⟨#[]⟩else match l[k-1]? with|none=>⟨#[]⟩|some c=>str (keyRow c.r)
end Go.Proofs.YtjhbeecmdgglgaaGreatDoor
namespace Go.Proofs.YtjhbeecmdgglgaaGreatDoor
open Go.RowKit
structure Chn where
 v:Value
 r:List Val
 k:Int
def Chn.cells (c:Chn):List Value:=[.int .i64 c.k,c.v]
theorem Chn.cells_len (c:Chn):c.cells.length=2:=rfl
def chnCells (l:List Chn):List Value:=l.flatMap Chn.cells
structure Chs (w:World) (v:Value) (l:List Chn):Prop where
 sl:Sl w v l.length (chnCells l)
 rows: ∀c∈l,Sl w c.v c.r.length (rowCells c.r)
theorem Chs.below {w w':World}{v:Value}{l:List Chn}(h:Chs w v l)(hb:Below w.heap.size w w'):Chs w' v l:=⟨h.sl.below hb,fun c hc=>(h.rows c hc).below hb⟩
theorem Chs.drew {w:World}{v:Value}{l:List Chn}(h:Chs w v l):Chs w.drew v l:=⟨h.sl,h.rows⟩
theorem Chs.nil (w:World):Chs w (.slice none 0 0) []:=⟨Sl.nil_ w,nofun⟩
structure FineC (l:List Chn):Prop where
 rows: ∀c∈l,Fine c.r
 nums: ∀c∈l,-9223372036854775808≤c.k∧c.k≤9223372036854775807
def ac (l:List Chn):List (Int×List Val):=l.map fun c=>(c.k,c.r)
theorem chn_at {w:World}{l:List Chn}{v:Value}(h:Sl w v l.length (chnCells l)){A:Option Addr}{n c:Nat}(hv:v= .slice A n c){k:Nat}{x:Chn}(hk:l[k]?=some x):
 ∃b off,A=some ⟨b,off,none⟩∧b<w.heap.size∧ ∀w',Below w.heap.size w w'→
  w'.cell? ⟨b,off+k*2,none⟩=some (.int .i64 x.k)∧w'.cell? ⟨b,off+k*2+1,none⟩=some x.v:=by
 obtain⟨A',c',hv',h1,h2,-,h3⟩:=h;rw[hv]at hv';injection hv' with e1 e2 e3;subst e1;have a1:=flat_at Chn.cells_len l k 0 (by omega);have a2:=flat_at Chn.cells_len l k 1 (by omega);rw[hk]at a1 a2;simp only[Option.bind_some,Nat.add_zero]at a1 a2;obtain⟨b,off,hA,hc⟩:=h3 (by intro h0;rw[show l.flatMap Chn.cells=chnCells l from rfl,h0]at a1;simp[Chn.cells]at a1);have c1:=hc _ _ a1;have c2:=hc _ _ a2;exact⟨b,off,hA,World.block_lt_of_cell? w _ c1,fun w' hb=>⟨cell_below hb c1,cell_below hb c2⟩⟩
def kAt (l:List Chn) (i:Nat):Int:=match l[i]? with|some c=>c.k|none=>0
def errAt (l:List Chn) (i:Nat):Int:=match l[i]? with
 |none=>0
 |some c=>if btw c.k 1 4=false then 4 else if keyErr c.r≠0 then keyErr c.r else if(c.k=3∧kAt l (i+1)≠4)∨(c.k=4∧(i=0∨kAt l (i-1)≠3))then 6 else 0
def formC (l:List Chn):Int:=if 4096<l.length then 2 else firstNZ ((List.range l.length).map (errAt l))
theorem form_bad {l:List Chn}{k:Nat}{e:Int}(h0: ¬4096<l.length)(hk:k<l.length)(hpre: ∀j,j<k→errAt l j=0)(he:errAt l k=e)(hne:e≠0):formC l=e:=by
 unfold formC;rw[if_neg h0];refine firstNZ_hit (k:=k) (fun x hx=> ?_) (by simp[hk,he]) hne;rw[←List.map_take,List.mem_map]at hx;obtain⟨j,hj,rfl⟩:=hx;rw[List.take_range,List.mem_range]at hj;exact hpre j (by omega)
theorem form_good {l:List Chn}(h0: ¬4096<l.length)(hpre: ∀j,j<l.length→errAt l j=0):formC l=0:=by
 unfold formC;rw[if_neg h0];refine firstNZ_none (fun x hx=> ?_);obtain⟨j,hj,rfl⟩:=List.mem_map.1 hx;exact hpre j (List.mem_range.1 hj)
theorem kAt_some {l:List Chn}{i:Nat}{x:Chn}(h:l[i]?=some x):kAt l i=x.k:=by simp[kAt,h]
theorem kAt_none {l:List Chn}{i:Nat}(h:l.length≤i):kAt l i=0:=by simp[kAt,List.getElem?_eq_none h]
def openAt (l:List Chn):Nat→Bool
 |0=>false
 |k+1=>decide (kAt l k=3)
theorem open_next {l:List Chn}{k:Nat}(hpre: ∀j,j<k→errAt l j=0)(ho:openAt l k=true):k≠0∧kAt l (k-1)=3∧kAt l k=4:=by
 cases k with
 |zero=>simp[openAt]at ho
 |succ k=>
  have h3:kAt l k=3:=of_decide_eq_true ho;refine⟨by omega,h3,?_⟩;have he:=hpre k (by omega);unfold errAt at he;cases hx:l[k]? with
  |none=>simp[kAt,hx]at h3
  |some c=>
   have hc:c.k=3:=by rw[←kAt_some hx];exact h3
   rw[hx]at he;simp only[hc]at he;have:btw 3 1 4=true:=by decide
   rw[this]at he;by_cases hk:keyErr c.r=0
   ·by_cases h4:kAt l (k+1)=4
    ·exact h4
    ·simp[hk,h4]at he
   ·simp[hk]at he
theorem open_not {l:List Chn}{k:Nat}(ho:openAt l k=false):k=0∨kAt l (k-1)≠3:=by
 cases k with
 |zero=>exact .inl rfl
 |succ k=>exact .inr (of_decide_eq_false ho)
theorem err_one {l:List Chn}{i:Nat}{c:Chn}(h:l[i]?=some c)(hk:c.k<1∨4<c.k):errAt l i=4:=by
 unfold errAt;rw[h];simp only[btw_no hk,if_true]
theorem err_two {l:List Chn}{i:Nat}{c:Chn}(h:l[i]?=some c)(h1:1≤c.k)(h2:c.k≤4)(hy:keyErr c.r≠0):errAt l i=keyErr c.r:=by
 unfold errAt;rw[h];simp[btw_yes h1 h2,hy]
theorem err_six {l:List Chn}{i:Nat}{c:Chn}(h:l[i]?=some c)(h1:1≤c.k)(h2:c.k≤4)(hy:keyErr c.r=0)(h6:(c.k=3∧kAt l (i+1)≠4)∨(c.k=4∧(i=0∨kAt l (i-1)≠3))):errAt l i=6:=by
 unfold errAt;rw[h];simp only[btw_yes h1 h2,hy];rw[if_neg (by simp),if_neg (by simp),if_pos h6]
theorem err_no {l:List Chn}{i:Nat}{c:Chn}(h:l[i]?=some c)(h1:1≤c.k)(h2:c.k≤4)(hy:keyErr c.r=0)(h6: ¬((c.k=3∧kAt l (i+1)≠4)∨(c.k=4∧(i=0∨kAt l (i-1)≠3)))):errAt l i=0:=by
 unfold errAt;rw[h];simp only[btw_yes h1 h2,hy];rw[if_neg (by simp),if_neg (by simp),if_neg h6]
theorem pre_more {l:List Chn}{k:Nat}(h: ∀j,j<k→errAt l j=0)(hk:errAt l k=0): ∀j,j<k+1→errAt l j=0:=by
 intro j hj;by_cases e:j=k
 ·rw[e];exact hk
 ·exact h j (by omega)
theorem keyErr_ok {r:List Val}(h:keyErr r=0):keyR r=(str (keyRow r),0):=if_neg (by rw[h];simp)
theorem keyErr_bad {r:List Val}(h:keyErr r≠0):keyR r=(⟨#[]⟩,keyErr r):=if_pos h
set_option maxHeartbeats 4000000 in
set_option maxRecDepth 10000 in
theorem cform_any (v:Value)(l:List Chn)(w:World)(h:Chs w v l)(hf:FineC l)(hm:Mx w):
 Calls Tryz.prog 29 #[v] w fun e w'=>e= .returned (.int .i64 (formC l))∧Below w.heap.size w w':=by
 have HV:=Lib.hid h;have HF:=Lib.hid hf;have HM:=Lib.hid hm;obtain⟨A,c,rfl,h1,h2,-⟩:=h.sl;clear h hf hm;unfold maxLen at h2;by_cases hn:4096<l.length
 ·have e1:=Lib.hid (show formC l=2 from if_pos hn)
  go_enter Tryz.func29,Tryz.ntmps29
  go_wp2;go_ret;exact⟨ret_int (by rw[e1.out]),Below.refl _ _⟩
 ·have HBAD:=Lib.hid (fun k e=>form_bad (l:=l) (k:=k) (e:=e) hn)
  have HGOOD:=Lib.hid (form_good (l:=l) hn);generalize formC l=R at HBAD HGOOD⊢;go_enter Tryz.func29,Tryz.ntmps29
  go_wp2_with fail
  go_loopw[3,4,5,6,7,13] (fun op _ _ _ _ i wr=> ∃k:Nat,k≤l.length∧i= .int .i64 k∧op= .bool (openAt l k)∧Hid (∀j,j<k→errAt l j=0)∧Below w.heap.size w wr) (fun _ _ _ _ _ i _=>l.length-(intOf i).toNat)
  case atStart=>exact⟨0,by omega,rfl,rfl,Lib.hid (fun j hj=>by omega),Below.refl _ _⟩
  case round=>
   obtain⟨k,hk,rfl,rfl,H,hbw⟩:=hrel;by_cases hlt:k<l.length
   ·have hx:=List.getElem?_eq_getElem (l:=l) hlt
    generalize l[k]=x at hx;obtain⟨g,off,rfl,-,hc⟩:=chn_at HV.out.sl rfl hx;obtain⟨d1,d2⟩:=hc _ hbw;have hmem:=List.mem_of_getElem? hx;have HRW:=Lib.hid (HV.out.rows x hmem);have HFX:=Lib.hid (HF.out.rows x hmem);have hxn:=HF.out.nums x hmem;have HX:=Lib.hid hx;have HO:=Lib.hid (fun ho=>open_next (l:=l) (k:=k) H.out ho);have HO':=Lib.hid (fun ho=>open_not (l:=l) (k:=k) ho);have HON:Hid (openAt l (k+1)=decide (x.k=3)):=Lib.hid (by show decide (kAt l k=3)=_;rw[kAt_some hx]);generalize openAt l k=o at HO HO'⊢;clear hx hc hmem;obtain⟨xv,xr,xk⟩:=x;simp only at d1 d2 HRW HFX hxn HON;obtain⟨Ax,cx,rfl,-⟩:=id HRW.out;have hbw2:=hbw.alloc hbw.size (.cells #[.int .i64 xk,.slice Ax xr.length cx] 48);have HSX:=Lib.hid (HRW.out.below hbw2);have kb:=(Blk.new wr 48 #[.int .i64 xk,.slice Ax xr.length cx]);by_cases q1:xk<1
    ·have EE:=Lib.hid (HBAD.out k 4 hlt H.out (err_one HX.out (.inl q1)) (by omega))
     clear HO HO' HON;go_wp2;go_ret;exact⟨ret_int (by rw[EE.out]),hbw2⟩
    ·by_cases q2:4<xk
     ·have EE:=Lib.hid (HBAD.out k 4 hlt H.out (err_one HX.out (.inr q2)) (by omega))
      clear HO HO' HON;go_wp2;go_ret;exact⟨ret_int (by rw[EE.out]),hbw2⟩
     ·by_cases hy:keyErr xr=0
      ·have HKE:=Lib.hid (keyErr_ok hy)
       have HY:=Lib.hid hy;clear hy
       go_wp2_with fail
       refine(key_any _ xr _ HSX.out HFX.out (HM.out.below hbw2)).mono ?_;rw[HKE.out];rintro e w2 ⟨rfl,hb2⟩;have y0:=(kb.below hb2).cell 0 _ rfl;have hbw3:=below_trans hbw2 hb2;have hq:xk=1∨xk=2∨xk=3∨xk=4:=by omega
       clear q1 q2 hxn;rcases hq with rfl|rfl|rfl|rfl
       ·cases o
        ·have HZ:=Lib.hid (err_no HX.out (by simp) (by simp) HY.out (by simp))
         clear HO HO';go_wp2;go_roundw
         case rel=>exact⟨k+1,by omega,by go_num,by rw[HON.out];rfl,Lib.hid (pre_more H.out HZ.out),hbw3⟩
         case measure=>simp[intOf];omega
        ·exact absurd (HO.out rfl).2.2 (by rw[kAt_some HX.out];simp)
       ·cases o
        ·have HZ:=Lib.hid (err_no HX.out (by simp) (by simp) HY.out (by simp))
         clear HO HO';go_wp2;go_roundw
         case rel=>exact⟨k+1,by omega,by go_num,by rw[HON.out];rfl,Lib.hid (pre_more H.out HZ.out),hbw3⟩
         case measure=>simp[intOf];omega
        ·exact absurd (HO.out rfl).2.2 (by rw[kAt_some HX.out];simp)
       ·cases o
        ·clear HO HO'
         by_cases hl2:k+1<l.length
         ·have hx2:=List.getElem?_eq_getElem (l:=l) hl2
          generalize l[k+1]=x2 at hx2;obtain⟨g2,off2,hg2,-,hc2⟩:=chn_at HV.out.sl rfl hx2;injection hg2 with hg2;injection hg2 with hg2 hg3;subst hg2;subst hg3;have d3:=(hc2 _ hbw3).1;rw[show off+(k+1)*2=off+(k+1)*2 from rfl]at d3;have HK2:=Lib.hid (kAt_some hx2);clear hx2 hc2;generalize x2.k=y2 at d3 HK2;have hw:IntKind.i64.wrap ((k:Int)+1)=(k:Int)+1:=by rw[IntKind.wrap_i64];omega
          have hw1:((k:Int)+1).toNat=k+1:=by omega
          have i1:(0:Int)≤(k:Int)+1:=by omega
          have i2:(k:Int)+1<(l.length:Int):=by omega
          have i3:((k:Int)+1==(l.length:Int))=false:=beqF (by omega);by_cases q4:y2=4
          ·have HZ:=Lib.hid (err_no HX.out (by simp) (by simp) HY.out (by rintro(⟨-,h⟩|⟨h,-⟩);exact h (by rw[HK2.out];exact q4);exact absurd h (by simp)))
           subst q4;go_wp2;go_roundw
           case rel=>exact⟨k+1,by omega,by go_num,by rw[HON.out];rfl,Lib.hid (pre_more H.out HZ.out),hbw3⟩
           case measure=>simp[intOf];omega
          ·have EE:=Lib.hid (HBAD.out k 6 hlt H.out (err_six HX.out (by simp) (by simp) HY.out (.inl ⟨rfl,by rw[HK2.out];exact q4⟩)) (by decide))
           have q4':=beqF q4;go_wp2;go_ret;exact⟨ret_int (by rw[EE.out]),hbw3⟩
         ·have hke:l.length=k+1:=by omega
          have HKE2:=Lib.hid hke;have EE:=Lib.hid (HBAD.out k 6 hlt H.out (err_six HX.out (by simp) (by simp) HY.out (.inl ⟨rfl,by rw[kAt_none (by omega)];decide⟩)) (by decide));have hw:IntKind.i64.wrap ((k:Int)+1)=(k:Int)+1:=by rw[IntKind.wrap_i64];omega
          have i3:((k:Int)+1==(l.length:Int))=true:=beqT (by omega);clear hke;go_wp2;go_ret;exact⟨ret_int (by rw[EE.out]),hbw3⟩
        ·exact absurd (HO.out rfl).2.2 (by rw[kAt_some HX.out];simp)
       ·cases o
        ·have EE:=Lib.hid (HBAD.out k 6 hlt H.out (err_six HX.out (by simp) (by simp) HY.out (.inr ⟨rfl,HO'.out rfl⟩)) (by decide))
         clear HO HO';go_wp2;go_ret;exact⟨ret_int (by rw[EE.out]),hbw3⟩
        ·have HZ:=Lib.hid (err_no HX.out (by simp) (by simp) HY.out (by rintro(⟨h,-⟩|⟨-,h|h⟩);exact absurd h (by simp);exact absurd h (HO.out rfl).1;exact h (HO.out rfl).2.1))
         clear HO HO';go_wp2;go_roundw
         case rel=>exact⟨k+1,by omega,by go_num,by rw[HON.out];rfl,Lib.hid (pre_more H.out HZ.out),hbw3⟩
         case measure=>simp[intOf];omega
      ·have EE:=Lib.hid (HBAD.out k _ hlt H.out (err_two HX.out (show(1:Int)≤xk by omega) (show xk≤4 by omega) hy) hy)
       have HKE:=Lib.hid (keyErr_bad hy);have hy':=beqF hy;simp only at EE;generalize keyErr xr=y at EE HKE hy';clear HO HO' HON hy
       go_wp2_with fail
       refine(key_any _ xr _ HSX.out HFX.out (HM.out.below hbw2)).mono ?_;rw[HKE.out];rintro e w2 ⟨rfl,hb2⟩;have hbw3:=below_trans hbw2 hb2;go_wp2;go_ret;exact⟨ret_int (by rw[EE.out]),hbw3⟩
   ·obtain rfl:k=l.length:=by omega
    have EE:=Lib.hid (HGOOD.out H.out);go_wp2;go_ret;exact⟨ret_int (by rw[EE.out]),hbw⟩
end Go.Proofs.YtjhbeecmdgglgaaGreatDoor
