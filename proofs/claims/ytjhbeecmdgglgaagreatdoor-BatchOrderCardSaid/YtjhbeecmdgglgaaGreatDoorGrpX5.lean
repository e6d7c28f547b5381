/-Plans: what they are; within, between; kinds, ranges, counts. -/
import Derived.Test.YtjhbeecmdgglgaaGreatDoorGrpX4
import Derived.Test.YtjhbeecmdgglgaaGreatDoorGrpX2
set_option linter.unusedSimpArgs false
set_option linter.unusedVariables false
namespace Go.Proofs.YtjhbeecmdgglgaaGreatDoor
open Go.RowKit
open tm (fitsB)
structure Pl where
 kind:Int
 mode:Int
 low:Int
 high:Int
 size:Int
 limit:Int
 vl:Value
 vr:Value
 vk:Value
 vq:Value
 grouped:Bool
 vg:Value
 va:Value
 left:List Int
 right:List Int
 lkeys:List Int
 rkeys:List Int
 group:List Int
 aggs:List (Int×Int)
def aggCell (a:Int×Int):List Value:=[.int .i64 a.1,.int .i64 a.2]
def aggCells (l:List (Int×Int)):List Value:=l.flatMap aggCell
theorem aggCell_len (a:Int×Int):(aggCell a).length=2:=rfl
structure Pl.ok (w:World) (p:Pl):Prop where
 l:Sl w p.vl p.left.length (intCells p.left)
 r:Sl w p.vr p.right.length (intCells p.right)
 k:Sl w p.vk p.lkeys.length (intCells p.lkeys)
 q:Sl w p.vq p.rkeys.length (intCells p.rkeys)
 g:Sl w p.vg p.group.length (intCells p.group)
 a:Sl w p.va p.aggs.length (aggCells p.aggs)
theorem Pl.ok.below {w w':World}{p:Pl}(h:p.ok w)(hb:Below w.heap.size w w'):p.ok w':=⟨h.l.below hb,h.r.below hb,h.k.below hb,h.q.below hb,h.g.below hb,h.a.below hb⟩
theorem Pl.ok.drew {w:World}{p:Pl}(h:p.ok w):p.ok w.drew:=⟨h.l,h.r,h.k,h.q,h.g,h.a⟩
theorem Pl.ok.alloc {w:World}{p:Pl}(h:p.ok w)(o:Obj):p.ok (w.alloc o):=h.below (below_alloc w o)
theorem agg_at {w:World}{l:List (Int×Int)}{v:Value}(h:Sl w v l.length (aggCells l)){A:Option Addr}{n c:Nat}(hv:v= .slice A n c){k:Nat}{x:Int×Int}(hk:l[k]?=some x):
 ∃b off,A=some ⟨b,off,none⟩∧b<w.heap.size∧ ∀w',Below w.heap.size w w'→
  w'.cell? ⟨b,off+k*2,none⟩=some (.int .i64 x.1)∧w'.cell? ⟨b,off+k*2+1,none⟩=some (.int .i64 x.2):=by
 obtain⟨A',c',hv',h1,h2,-,h3⟩:=h;rw[hv]at hv';injection hv' with e1 e2 e3;subst e1;have a1:=flat_at aggCell_len l k 0 (by omega);have a2:=flat_at aggCell_len l k 1 (by omega);rw[hk]at a1 a2;simp only[Option.bind_some,Nat.add_zero]at a1 a2;obtain⟨b,off,hA,hc⟩:=h3 (by intro h0;rw[show l.flatMap aggCell=aggCells l from rfl,h0]at a1;simp[aggCell]at a1);have c1:=hc _ _ a1;have c2:=hc _ _ a2;exact⟨b,off,hA,World.block_lt_of_cell? w _ c1,fun w' hb=>⟨cell_below hb c1,cell_below hb c2⟩⟩
def btw (n lo hi:Int):Bool:=decide (lo≤n∧n≤hi)
theorem btw_yes {n lo hi:Int}(h1:lo≤n)(h2:n≤hi):btw n lo hi=true:=by simp[btw,h1,h2]
theorem btw_of {n lo hi:Int}(h:btw n lo hi=true):lo≤n∧n≤hi:=by simpa[btw]using h
theorem btw_no {n lo hi:Int}(h:n<lo∨hi<n):btw n lo hi=false:=by simp[btw];omega
theorem btw_ne {n lo hi:Int}(h:btw n lo hi=false):n<lo∨hi<n:=by simp[btw]at h;omega
set_option maxHeartbeats 400000 in
set_option maxRecDepth 10000 in
theorem between_any (n lo hi:Int)(w:World):Calls Tryz.prog 127 #[.int .i64 n,.int .i64 lo,.int .i64 hi] w fun e w'=>e= .returned (.bool (btw n lo hi))∧w=w':=by
 by_cases h1:lo≤n
 ·by_cases h2:n≤hi
  ·have e1:=Lib.hid (btw_yes h1 h2)
   go_enter Tryz.func127,Tryz.ntmps127
   go_wp2;go_ret;exact⟨ret_bool (by rw[e1.out]),rfl⟩
  ·have e1:=Lib.hid (btw_no (n:=n) (lo:=lo) (hi:=hi) (by omega))
   go_enter Tryz.func127,Tryz.ntmps127
   go_wp2;go_ret;exact⟨ret_bool (by rw[e1.out]),rfl⟩
 ·have e1:=Lib.hid (btw_no (n:=n) (lo:=lo) (hi:=hi) (by omega))
  go_enter Tryz.func127,Tryz.ntmps127
  go_wp2;go_ret;exact⟨ret_bool (by rw[e1.out]),rfl⟩
set_option maxHeartbeats 400000 in
set_option maxRecDepth 10000 in
theorem within_any (n lo hi:Int)(w:World):Calls Tryz.prog 58 #[.int .i64 n,.int .i64 lo,.int .i64 hi] w fun e w'=>e= .returned (.bool (btw n lo hi))∧w=w':=by
 by_cases h1:lo≤n
 ·by_cases h2:n≤hi
  ·have e1:=Lib.hid (btw_yes h1 h2)
   go_enter Tryz.func58,Tryz.ntmps58
   go_wp2;go_ret;exact⟨ret_bool (by rw[e1.out]),rfl⟩
  ·have e1:=Lib.hid (btw_no (n:=n) (lo:=lo) (hi:=hi) (by omega))
   go_enter Tryz.func58,Tryz.ntmps58
   go_wp2;go_ret;exact⟨ret_bool (by rw[e1.out]),rfl⟩
 ·have e1:=Lib.hid (btw_no (n:=n) (lo:=lo) (hi:=hi) (by omega))
  go_enter Tryz.func58,Tryz.ntmps58
  go_wp2;go_ret;exact⟨ret_bool (by rw[e1.out]),rfl⟩
set_option maxHeartbeats 400000 in
set_option maxRecDepth 10000 in
theorem kindOne_any (a:Int×Int)(w:World):Calls Tryz.prog 129 #[.agg #[.int .i64 a.1,.int .i64 a.2]] w fun e w'=>e= .returned (.bool (btw a.1 1 4))∧Below w.heap.size w w':=by
 go_enter Tryz.func129,Tryz.ntmps129
 go_wp2_with (go_at_call 127;refine(between_any _ _ _ _).mono ?_;rintro e w' ⟨rfl,rfl⟩)
 go_ret;exact⟨rfl,below_alloc _ _⟩
def allB {α:Type} (f:α→Bool) (l:List α):Bool:=l.all f
theorem all_no {α:Type}{f:α→Bool}{l:List α}{k:Nat}{x:α}(h:l[k]?=some x)(hx:f x=false):allB f l=false:=by
 unfold allB;rw[List.all_eq_false];exact⟨x,List.mem_of_getElem? h,by simp[hx]⟩
theorem all_yes {α:Type}{f:α→Bool}{l:List α}(h: ∀x∈l.take l.length,f x=true):allB f l=true:=by
 unfold allB;rw[List.all_eq_true];rw[List.take_length]at h;exact h
theorem all_step {α:Type}{f:α→Bool}{l:List α}{k:Nat}{x:α}(h: ∀y∈l.take k,f y=true)(hk:l[k]?=some x)(hx:f x=true): ∀y∈l.take (k+1),f y=true:=by
 rw[List.take_add_one,hk];intro y hy;rcases List.mem_append.1 hy with hy|hy
 ·exact h y hy
 ·simp at hy;rw[hy];exact hx
set_option maxHeartbeats 1000000 in
set_option maxRecDepth 10000 in
theorem allKinds_any (v:Value)(l:List (Int×Int))(w:World)(h:Sl w v l.length (aggCells l)):
 Calls Tryz.prog 128 #[v,.func (.func 129) #[] #[]] w fun e w'=>e= .returned (.bool (allB (fun a=>btw a.1 1 4) l))∧Below w.heap.size w w':=by
 have HH:=Lib.hid h;obtain⟨A,c,rfl,h1,h2,-⟩:=h;unfold maxLen at h2;go_enter Tryz.func128,Tryz.ntmps128
 go_wp2
 go_loopw[6,9] (fun _ i wr=> ∃k:Nat,k≤l.length∧i= .int .i64 k∧Hid (∀x∈l.take k,btw x.1 1 4=true)∧Below w.heap.size w wr) (fun _ i _=>l.length-(intOf i).toNat)
 case atStart=>exact⟨0,by omega,rfl,by simp[Hid],Below.refl _ _⟩
 case round=>
  obtain⟨k,hk,rfl,H,hbw⟩:=hrel;by_cases hlt:k<l.length
  ·have hx:=List.getElem?_eq_getElem (l:=l) hlt
   generalize l[k]=x at hx;obtain⟨g,off,rfl,-,hc⟩:=agg_at HH.out rfl hx;obtain⟨c1,c2⟩:=hc _ hbw;have HX:=Lib.hid hx;clear hx hc;cases hq:btw x.1 1 4
   ·have e1:=Lib.hid (all_no (f:=fun a=>btw a.1 1 4) HX.out hq)
    have HQ:=Lib.hid hq;clear hq
    go_wp2_with (go_at_call 129;refine(kindOne_any x _).mono ?_;rw[HQ.out];rintro e w1 ⟨rfl,hb1⟩)
    go_ret;exact⟨ret_bool e1.out.symm,(hbw.alloc hbw.size _).trans (hb1.mono (by have:=hbw.size;simp;omega))⟩
   ·have e1:=Lib.hid (all_step (f:=fun a=>btw a.1 1 4) H.out HX.out hq)
    have HQ:=Lib.hid hq;clear hq
    go_wp2_with (go_at_call 129;refine(kindOne_any x _).mono ?_;rw[HQ.out];rintro e w1 ⟨rfl,hb1⟩)
    go_roundw
    case rel=>exact⟨k+1,by omega,by go_num,e1.out,(hbw.alloc hbw.size _).trans (hb1.mono (by have:=hbw.size;simp;omega))⟩
    case measure=>simp[intOf];omega
  ·obtain rfl:k=l.length:=by omega
   have e1:=Lib.hid (all_yes (f:=fun a:Int×Int=>btw a.1 1 4) H.out);go_wp2;go_ret;exact⟨ret_bool e1.out.symm,hbw⟩
def kindsB (p:Pl):Bool:=btw p.kind 1 3&&(btw p.mode 1 (if p.kind=3 then 2 else 4)&&(!p.grouped||allB (fun a=>btw a.1 1 4) p.aggs))
set_option maxHeartbeats 2000000 in
set_option maxRecDepth 10000 in
theorem kinds_any (p:Pl)(w:World)(h:p.ok w):
 Calls Tryz.prog 96 #[.agg #[.int .i64 p.kind,.int .i64 p.mode,.int .i64 p.low,.int .i64 p.high,.int .i64 p.size,.int .i64 p.limit,p.vl,p.vr,p.vk,p.vq,.bool p.grouped,p.vg,p.va]] w fun e w'=>e= .returned (.bool (kindsB p))∧Below w.heap.size w w':=by
 have HA:=Lib.hid (fun w' (hb:Below w.heap.size w w')=>allKinds_any p.va p.aggs w' (h.a.below hb));clear h;have hB:=below_alloc w (.cells #[.int .i64 p.kind,.int .i64 p.mode,.int .i64 p.low,.int .i64 p.high,.int .i64 p.size,.int .i64 p.limit,p.vl,p.vr,p.vk,p.vq,.bool p.grouped,p.vg,p.va] 25);obtain⟨kind,mode,low,high,size,limit,vl,vr,vk,vq,grouped,vg,va,left,right,lkeys,rkeys,group,aggs⟩:=p;simp only at HA hB⊢
 have E: ∀m:Int,(if kind=3 then 2 else 4)=m→Hid (kindsB ⟨kind,mode,low,high,size,limit,vl,vr,vk,vq,grouped,vg,va,left,right,lkeys,rkeys,group,aggs⟩=(btw kind 1 3&&(btw mode 1 m&&(!grouped||allB (fun a=>btw a.1 1 4) aggs)))):=by
  intro m hm;show kindsB _=_;rw[←hm];rfl
 have HE:=Lib.hid E;clear E;by_cases hk:kind=3
 ·have hb:=beqT hk
  have H:=Lib.hid (HE.out 2 (if_pos hk));clear hk HE;cases h1:btw kind 1 3<;>cases h2:btw mode 1 2<;>cases grouped<;>cases h3:allB (fun a:Int×Int=>btw a.1 1 4) aggs
  all_goals
   have R:=Lib.hid (H.out.trans (by rw[h1,h2,h3]));clear H;go_enter Tryz.func96,Tryz.ntmps96
   go_wp2_with (first
    |(go_at_call 127;refine(between_any _ _ _ _).mono ?_;rintro e w' ⟨rfl,rfl⟩)
    |(go_at_call 128;refine(HA.out _ hB).mono ?_;rintro e w1 ⟨rfl,hb1⟩;have hB:=below_trans hB hb1))
   go_ret;exact⟨ret_bool (by rw[R.out];rfl),hB⟩
 ·have hb:=beqF hk
  have H:=Lib.hid (HE.out 4 (if_neg hk));clear hk HE;cases h1:btw kind 1 3<;>cases h2:btw mode 1 4<;>cases grouped<;>cases h3:allB (fun a:Int×Int=>btw a.1 1 4) aggs
  all_goals
   have R:=Lib.hid (H.out.trans (by rw[h1,h2,h3]));clear H;go_enter Tryz.func96,Tryz.ntmps96
   go_wp2_with (first
    |(go_at_call 127;refine(between_any _ _ _ _).mono ?_;rintro e w' ⟨rfl,rfl⟩)
    |(go_at_call 128;refine(HA.out _ hB).mono ?_;rintro e w1 ⟨rfl,hb1⟩;have hB:=below_trans hB hb1))
   go_ret;exact⟨ret_bool (by rw[R.out];rfl),hB⟩
end Go.Proofs.YtjhbeecmdgglgaaGreatDoor
