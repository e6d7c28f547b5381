/-Piles: keys. The reference's Own; SameViews. The reference's Own. -/
import Derived.Test.YtjhbeecmdgglgaaGreatDoorGrpV6
import Derived.Test.YtjhbeecmdgglgaaGreatDoorSorts
import Derived.Shelf.Slices.In.SortNone
import Derived.Maps.RangeWalk
import Derived.Sort.KeysCollected
import Derived.Sort.OwnSorted
set_option linter.unusedSimpArgs false
set_option linter.unusedVariables false
namespace Go.Proofs.YtjhbeecmdgglgaaGreatDoor
open Go.RowKit Go.Maps Go.Sort
open Go.Lib (compareBytes)
theorem strI:EInfo Tryz.prog 9 1 16:=by
 have h:(Tryz.prog.info? 9).map (fun i=>(i.zero,i.size,i.bytes))=some (some (.string ⟨#[]⟩),1,16):=by kernel_rfl
 obtain⟨i,hi,h1,h2,h3⟩:=info_parts h;exact⟨i,_,hi,h1,h2,h3,rfl,by omega⟩
theorem one_str (W:World)(x:List UInt8):Sl (W.alloc (.cells #[encStr x] 9)) (.slice (some ⟨W.heap.size,0,none⟩) 1 1) 1 [encStr x]:=Sl.block (Blk.new W 9 #[encStr x]) 1 1 (Nat.le_refl _) (by decide)
theorem sort_some (blk cap:Nat)(ss:List (List UInt8))(w:World)(hH:Holds encStr w blk 0 ss.toArray)(hblk:blk<w.heap.size)(hsz:ss.length<4611686018427387904):
 Calls Tryz.prog 80 #[.slice (some ⟨blk,0,none⟩) ss.length cap] w fun e w'=>
  e= .returned (.tuple #[])∧ ∃n os,w'=grow (putRow encStr (Sort.ahead w n) blk 0 (ss.mergeSort leB).toArray) os:=
 Any.slices_Sort_string Tryz.lays190 blk 0 cap ss w hH hblk hsz
theorem sort_none (w:World):Calls Tryz.prog 80 #[.slice none 0 0] w fun e w'=>e= .returned (.tuple #[])∧w'=w:=
 Any.slices_Sort_string_none Tryz.lays190 none 0 w
theorem bytes_lt (a b:List UInt8)(h:compareBytes a b<0):a<b:=by
 induction a generalizing b with
 |nil=>
  cases b with
  |nil=>simp[compareBytes]at h
  |cons y b=>exact List.Lex.nil
 |cons x a ih=>
  cases b with
  |nil=>simp[compareBytes]at h
  |cons y b=>
   by_cases h1:x<y
   ·exact List.Lex.rel h1
   ·by_cases h2:y<x
    ·rw[cb_gt _ _ h2]at h;omega
    ·have:x=y:=by
      rw[u8_lt]at h1 h2;exact UInt8.toNat_inj.1 (by omega)
     subst this;rw[cb_same]at h;exact List.Lex.cons (ih _ h)
theorem keys_rise {A:AV}(h:Rises A):((strKeys (mkD A)).Pairwise fun a b=>leB a b=true):=by
 show(((A.map ent).map fun p=>strOf p.1).Pairwise _);rw[List.map_map,List.pairwise_map];refine(h.rise.imp_of_mem fun{p q} hp hq hlt=> ?_);have h1:=kOf_before (h.good p hp) (h.good q hq);rw[decide_eq_true hlt]at h1;have h2:bytesBefore (keyRow p.1) (keyRow q.1)=true:=h1;rw[before_eq]at h2;show decide (keyRow p.1≤keyRow q.1)=true;exact decide_eq_true (List.le_of_lt (bytes_lt _ _ (of_decide_eq_true h2)))
theorem keys_of {A:AV}:strKeys (mkD A)=A.map fun p=>keyRow p.1:=by
 show((A.map ent).map fun p=>strOf p.1)=_;rw[List.map_map];rfl
theorem keys_sorted {A:AV}{ss:List (List UInt8)}(h:Rises A)(hp:ss.Perm (strKeys (mkD A))):ss.mergeSort leB=A.map fun p=>keyRow p.1:=by
 rw[mergeSort_of_perm hp,List.mergeSort_of_pairwise (keys_rise h),keys_of]
set_option maxHeartbeats 4000000 in
set_option maxRecDepth 100000 in
theorem keys_any {M N:Nat}{A:AV}(w:World)(hp:Pile w M N A)(hA:Rises A)(hn:A.length≤1000000):
 Calls Tryz.prog 109 #[.map (some M)] w fun e w'=> ∃v,e= .returned v∧w'.ownsRow w.heap.size 9 1 v A.length (A.map fun p=> .string (str (keyRow p.1)))∧Below w.heap.size w w':=by
 have HA:=Lib.hid hA;obtain⟨n,-,hown⟩:=hp;have HO:=Lib.hid hown;have HSZ:=Lib.hid (mkD_size A);have hbl:=hown.lt;clear hA;go_enter Tryz.func109,Tryz.ntmps109
 go_wp2_with (first
  |(at_range;refine wpList_range_own _ rfl _ 105 rfl 9 3 lawS Tryz.underlying105 (plainElem (H:=Unit) Tryz.prog 3) M n (mkD A) rfl hown ?_;intro w0 hrg0 hg0 hs0)
  |go_in)
 go_frame
 have hb0:Below w.heap.size w w0:=(Below.refl _ _).grown hg0 (Nat.le_refl _) (fun j hj=>by cases hj);clear hs0 hg0
 go_loopw[3] (fun v wr=> ∃(left:Lit→Bool) (cnt:Nat) (ss:List (List UInt8)),wr.ranges Tryz.prog 9 (plainElem (H:=Unit) Tryz.prog 3) M w.heap.size n (mkD A) left cnt∧ss.length+cnt≤A.length∧
  wr.ownsRow w.heap.size 9 1 v ss.length (ss.map encStr)∧Hid (Collected (mkD A) left ss)∧Below w.heap.size w wr)
  (fun _ wr=>wr.rangeLeft M w.heap.size)
 case atStart=>
  exact⟨_,_,[],hrg0,by rw[HSZ.out];simp,World.ownsRow_nil _ _ _ _,Lib.hid (Collected.start _),hb0⟩
 case round=>
  obtain⟨left,cnt,ss,hrg,hcs,hrow,hC,hnx⟩:=hrel
  go_wp2_with (first
   |(at_next;refine wpList_next_ranges _ rfl _ rfl 9 lawS (plainElem (H:=Unit) Tryz.prog 3) encStr (Value.int .i64) (fun key kl hk=>by obtain⟨x,hx,_⟩:=Maps.keyOf_str Tryz.underlying9 hk;exact⟨x,hx⟩) (fun v y hv=>by obtain⟨c,rfl,_⟩:=plainElem_int_inv Tryz.underlying3 hv;exact⟨c,rfl⟩) M w.heap.size n _ _ _ rfl hrg ?_ ?_)
   |go_in)
  ·intro hc0 hl0
   have HP:=Lib.hid (hC.out.perm HO.out lawS Tryz.underlying9 hl0);have HS:=Lib.hid (keys_sorted HA.out HP.out);have HL:Hid (ss.length=A.length):=Lib.hid (by have:=HP.out.length_eq;rw[keys_of,List.length_map]at this;exact this);clear hc0 hl0;rcases hrow.2 with⟨rfl,hz⟩|⟨g,cap,cur,rfl,hbase,hb,h1,h2,h3,h4⟩
   ·have hA0:A=[]:=List.length_eq_zero_iff.1 (by rw[←HL.out];exact hz)
    subst hA0;clear hz
    go_wp2_with fail
    refine(sort_none _).mono ?_;rintro e w' ⟨rfl,rfl⟩;go_wp2;go_ret;exact⟨_,rfl,World.ownsRow_nil _ _ _ _,hnx⟩
   ·have hH:Holds encStr wr g 0 ss.toArray:=holds_of_block hb (by simpa using h4)
    have hgl:g<wr.heap.size:=(Array.getElem?_eq_some_iff.1 hb).1;have HH:=Lib.hid hH;have HB:=Lib.hid hb;have H3:=Lib.hid h3;clear hH h4 hb h3
    go_wp2_with fail
    refine(sort_some g cap ss wr HH.out hgl (by omega)).mono ?_;rintro e w' ⟨rfl,nn,os,hw'⟩
    have hr2:w'.ownsRow w.heap.size 9 1 (.slice (some ⟨g,0,none⟩) ss.length cap) ss.length (A.map fun p=> .string (str (keyRow p.1))):=by
     rw[hw'];have:=ownsRow_sorted (w:=wr) (n:=nn) (os:=os) (ts:=ss.mergeSort leB) (ss:=ss) (by simp) hbase HB.out h1 h2 H3.out;rw[show(ss.mergeSort leB).map encStr=A.map fun p=> .string (str (keyRow p.1))from by rw[HS.out,List.map_map];rfl]at this;exact this
    have hb2:Below w.heap.size w w':=by rw[hw'];exact hnx.grown (grownBy_sorted _) hnx.size (fun j hj=>by cases hj;exact hbase)
    have HR2:=Lib.hid hr2;clear hw' hr2;go_wp2;go_ret;refine⟨_,rfl,?_,hb2⟩;rw[←HL.out];exact HR2.out
  ·intro x c kl yd yp w2 cnt2 hkey hlk hv hat hrg2 hlt hg2 hs2 hen
   obtain⟨x',ex,rfl,_⟩:=Maps.keyOf_str Tryz.underlying9 hkey;obtain rfl:x=x':=encStr_inj ex;have hrow2:=hrow.kept hg2 (Or.inr (row_ne_iter hrow hrg).symm);have hb2:Below w.heap.size w w2:=hnx.grown hg2 hnx.size (fun j hj=>by cases hj;exact Nat.le_refl _);have HC2:=Lib.hid (hC.out.step hlk hat);have HRW:=Lib.hid hrow2;have HRG:=Lib.hid hrg2;have HLF:=Lib.hid (hrg.left_eq);clear hs2 hv hat hkey hlk hg2 hrow2 hrow hrg2 hrg hC ex;have HRW1:=Lib.hid (HRW.out.alloc (.cells #[encStr x] 9));have HRG1:=Lib.hid (HRG.out.alloc (.cells #[encStr x] 9))
   go_wp2_with (at_builtin;refine wpList_app rfl (.tmp 11) (.tmp 13) 121 rfl w.heap.size 9 1 16 Tryz.underlying121 strI _ ss.length _ rfl HRW1.out _ 1 [encStr x] rfl (one_str w2 x) rfl (by simp[Value.oneCell',encStr]) ?_ ?_ (by have:=hb2.size;simp;omega) ?_)
   ·unfold maxLen;omega
   ·omega
   ·intro v' w3 hown' hg3 hat3
    have hrg3:=HRG1.out.kept hg3 (row_ne_low HRW1.out hbl) (row_ne_iter HRW1.out HRG1.out);have hb3:=(hb2.alloc hb2.size _).grown hg3 (by have:=hb2.size;simp;omega) (fun j hj=>(HRW.out.lt j hj).1);clear hat3 hg3;go_wp2;go_roundw
    case rel=>
     exact⟨_,cnt2,ss++[x],hrg3,by simp;omega,by simpa using hown',HC2,hb3⟩
    case measure=>rw[hrg3.left_eq,HLF.out];exact hlt
end Go.Proofs.YtjhbeecmdgglgaaGreatDoor
namespace Go.Proofs.YtjhbeecmdgglgaaGreatDoor
open Go.RowKit
theorem av_len {a b:List Cnt}(h:av a=av b):a.length=b.length:=by
 have:=congrArg List.length h;simpa[av]using this
theorem av_at {a b:List Cnt}(h:av a=av b){k:Nat}{x y:Cnt}(ha:a[k]?=some x)(hb:b[k]?=some y):x.r=y.r∧x.n=y.n:=by
 have h1:(av a)[k]?=some (x.r,x.n):=by unfold av;rw[List.getElem?_map,ha];rfl
 have h2:(av b)[k]?=some (y.r,y.n):=by unfold av;rw[List.getElem?_map,hb];rfl
 rw[h,h2]at h1;have:=Option.some.inj h1;exact⟨(congrArg Prod.fst this).symm,(congrArg Prod.snd this).symm⟩
set_option maxHeartbeats 4000000 in
set_option maxRecDepth 10000 in
theorem sameViews_any (va vb:Value)(a b:List Cnt)(w:World)(ha:View w va a)(hb:View w vb b)(hab:av a=av b):
 Calls Tryz.prog 13 #[va,vb] w fun e w'=>e= .returned (.bool true)∧Below w.heap.size w w':=by
 have HA:=Lib.hid ha;have HB:=Lib.hid hb;have HAB:=Lib.hid hab;have hlen:=av_len hab;obtain⟨A,c,rfl,h1,h2,-⟩:=ha.sl;obtain⟨A2,c2,rfl,h3,h4,-⟩:=hb.sl;clear ha hb hab;unfold maxLen at h2 h4;have b2:((a.length:Int)==(b.length:Int))=true:=by simp[hlen]
 have b2':=bne_of b2;simp only[Bool.not_true]at b2';have HLEN:=Lib.hid hlen;clear hlen;go_enter Tryz.func13,Tryz.ntmps13
 go_wp2_with fail
 go_loopw[5] (fun i wr=> ∃k:Nat,k≤a.length∧i= .int .i64 k∧Below w.heap.size w wr) (fun i _=>a.length-(intOf i).toNat)
 case atStart=>exact⟨0,by omega,rfl,Below.refl _ _⟩
 case round=>
  obtain⟨k,hk,rfl,hbw⟩:=hrel;by_cases hlt:k<a.length
  ·have hltb:k<b.length:=by have:=HLEN.out;omega
   have hx:=List.getElem?_eq_getElem (l:=a) hlt;generalize a[k]=x at hx;have hy:=List.getElem?_eq_getElem (l:=b) hltb;generalize b[k]=y at hy;obtain⟨e1,e2⟩:=av_at HAB.out hx hy;obtain⟨g,off,rfl,-,hc⟩:=cnt_at HA.out.sl rfl hx;obtain⟨g',off',rfl,-,hc'⟩:=cnt_at HB.out.sl rfl hy;have HC:=Lib.hid hc;have HC':=Lib.hid hc';obtain⟨d1,d2⟩:=hc _ hbw;obtain⟨d3,d4⟩:=hc' _ hbw;have HRX:=Lib.hid (HA.out.rows x (List.mem_of_getElem? hx));have HRY:=Lib.hid (HB.out.rows y (List.mem_of_getElem? hy));clear hx hy hc hc';obtain⟨xv,xr,xn⟩:=x;obtain⟨yv,yr,yn⟩:=y;simp only at d1 d2 d3 d4 HRX HRY e1 e2 HC HC';subst e1 e2;obtain⟨Ax,cx,rfl,-⟩:=id HRX.out;obtain⟨Ay,cy,rfl,-⟩:=id HRY.out;have k0:(0:Int)≤(k:Int):=by omega
   have k1:(k:Int)<(a.length:Int):=by omega
   have k2:(k:Int)<(b.length:Int):=by have:=HLEN.out;omega
   have hn:(xn != xn)=false:=by simp
   go_wp2_with fail
   go_region_held3 (fun w'=>w'.cell? ⟨g,off+k*2,none⟩=some (.slice Ax xr.length cx)∧w'.cell? ⟨g,off+k*2+1,none⟩=some (.int .i64 xn)∧w'.cell? ⟨g',off'+k*2,none⟩=some (.slice Ay xr.length cy)∧w'.cell? ⟨g',off'+k*2+1,none⟩=some (.int .i64 xn))
    (first|go_keep|exact⟨d1,d2,d3,d4⟩|exact z2)
    ((go_at_call 26
      refine(same_any _ _ xr xr _ ((HRX.out.below hbw).drew) ((HRY.out.below hbw).drew)).mono ?_;rw[(sameR_iff xr xr).2 rfl];rintro e w2 ⟨rfl,hb2⟩;have hbw2:=below_trans hbw.drew hb2;have z2:=And.intro (HC.out _ hbw2).1 (And.intro (HC.out _ hbw2).2 (HC'.out _ hbw2))))
   all_goals
    go_wp2;go_roundw
    case rel=>exact⟨k+1,by omega,by go_num,hbw2⟩
    case measure=>simp[intOf];omega
  ·obtain rfl:k=a.length:=by omega
   go_wp2;go_ret;exact⟨rfl,hbw⟩
end Go.Proofs.YtjhbeecmdgglgaaGreatDoor
namespace Go.Proofs.YtjhbeecmdgglgaaGreatDoor
open Go.RowKit
theorem one_cnt (W:World)(c:Cnt):Sl (W.alloc (.cells #[c.v,.int .i64 c.n] 45)) (.slice (some ⟨W.heap.size,0,none⟩) 1 1) 1 c.cells:=Sl.block (Blk.new W 45 #[c.v,.int .i64 c.n]) 1 1 (Nat.le_refl _) (by decide)
theorem cnt_one {w:World}{c:Cnt}{n:Nat}{cs:List Value}(h:Sl w c.v n cs): ∀u∈c.cells,u.oneCell'=true:=by
 obtain⟨A,k,hv,-⟩:=h;intro u hu;simp[Cnt.cells]at hu;rcases hu with rfl|rfl
 ·rw[hv];rfl
 ·rfl
theorem OwnV.alloc {w:World}{base:Nat}{v:Value}{l:List Cnt}(h:OwnV w base v l)(o:Obj):OwnV (w.alloc o) base v l:=h.below (below_alloc w o)
theorem OwnV.drew {w:World}{base:Nat}{v:Value}{l:List Cnt}(h:OwnV w base v l):OwnV w.drew base v l:=⟨h.own,h.rows,h.far⟩
end Go.Proofs.YtjhbeecmdgglgaaGreatDoor
