/-Piles: keys. The reference's Own; SameViews. The reference's Own. Piles: view. Views: the walks of Check, and of the reference's CheckView. Views: the -/
import Derived.Test.YtjodlngbiikgfaaGreatDoorGrpK10
import Derived.Test.YtjodlngbiikgfaaGreatDoorSorts
import Derived.Shelf.Slices.In.SortNone
import Derived.Maps.RangeWalk
import Derived.Sort.KeysCollected
import Derived.Sort.OwnSorted
import Derived.Test.YtjodlngbiikgfaaGreatDoorGrpK4
import Derived.Test.YtjodlngbiikgfaaGreatDoorGrpK6
import Derived.Test.YtjodlngbiikgfaaGreatDoorGrpK5
import Derived.Laws.CopyOwn
import Derived.Test.YtjodlngbiikgfaaGreatDoorGrpK9
set_option linter.unusedSimpArgs false
set_option linter.unusedVariables false
namespace Go.Proofs.YtjodlngbiikgfaaGreatDoor
open Go.RowKit Go.Maps Go.Sort
open Go.Lib (compareBytes)
theorem strI:EInfo Tryz.prog 9 1 16:=by
 have h:(Tryz.prog.info? 9).map (fun i=>(i.zero,i.size,i.bytes))=some (some (.string ⟨#[]⟩),1,16):=by kernel_rfl
 obtain⟨i,hi,h1,h2,h3⟩:=info_parts h;exact⟨i,_,hi,h1,h2,h3,rfl,by omega⟩
theorem one_str (W:World)(x:List UInt8):Sl (W.alloc (.cells #[encStr x] 9)) (.slice (some ⟨W.heap.size,0,none⟩) 1 1) 1 [encStr x]:=Sl.block (Blk.new W 9 #[encStr x]) 1 1 (Nat.le_refl _) (by decide)
theorem sort_some (blk cap:Nat)(ss:List (List UInt8))(w:World)(hH:Holds encStr w blk 0 ss.toArray)(hblk:blk<w.heap.size)(hsz:ss.length<4611686018427387904):
 Calls Tryz.prog 161 #[.slice (some ⟨blk,0,none⟩) ss.length cap] w fun e w'=>
  e= .returned (.tuple #[])∧ ∃n os,w'=grow (putRow encStr (Sort.ahead w n) blk 0 (ss.mergeSort leB).toArray) os:=
 Any.slices_Sort_string Tryz.lays190 blk 0 cap ss w hH hblk hsz
theorem sort_none (w:World):Calls Tryz.prog 161 #[.slice none 0 0] w fun e w'=>e= .returned (.tuple #[])∧w'=w:=
 Any.slices_Sort_string_none Tryz.lays190 none 0 w
theorem bytes_lt (a b:List UInt8)(h:compareBytes a b<0):a<b:=by
 induction a generalizing b with
 |nil=>
  cases b with
  |nil=>simp[compareBytes]at h
  |cons y b=>exact List.Lex.nil
 |cons x a ih=>
  cases b with
  |nil=>simp[compareBytes]at h
  |cons y b=>
   by_cases h1:x<y
   ·exact List.Lex.rel h1
   ·by_cases h2:y<x
    ·rw[cb_gt _ _ h2]at h;omega
    ·have:x=y:=by
      rw[u8_lt]at h1 h2;exact UInt8.toNat_inj.1 (by omega)
     subst this;rw[cb_same]at h;exact List.Lex.cons (ih _ h)
theorem keys_rise {A:AV}(h:Rises A):((strKeys (mkD A)).Pairwise fun a b=>leB a b=true):=by
 show(((A.map ent).map fun p=>strOf p.1).Pairwise _);rw[List.map_map,List.pairwise_map];refine(h.rise.imp_of_mem fun{p q} hp hq hlt=> ?_);have h1:=kOf_before (h.good p hp) (h.good q hq);rw[decide_eq_true hlt]at h1;have h2:bytesBefore (keyRow p.1) (keyRow q.1)=true:=h1;rw[before_eq]at h2;show decide (keyRow p.1≤keyRow q.1)=true;exact decide_eq_true (List.le_of_lt (bytes_lt _ _ (of_decide_eq_true h2)))
theorem keys_of {A:AV}:strKeys (mkD A)=A.map fun p=>keyRow p.1:=by
 show((A.map ent).map fun p=>strOf p.1)=_;rw[List.map_map];rfl
theorem keys_sorted {A:AV}{ss:List (List UInt8)}(h:Rises A)(hp:ss.Perm (strKeys (mkD A))):ss.mergeSort leB=A.map fun p=>keyRow p.1:=by
 rw[mergeSort_of_perm hp,List.mergeSort_of_pairwise (keys_rise h),keys_of]
set_option maxHeartbeats 4000000 in
set_option maxRecDepth 100000 in
theorem keys_any {M N:Nat}{A:AV}(w:World)(hp:Pile w M N A)(hA:Rises A)(hn:A.length≤1000000):
 Calls Tryz.prog 116 #[.map (some M)] w fun e w'=> ∃v,e= .returned v∧w'.ownsRow w.heap.size 9 1 v A.length (A.map fun p=> .string (str (keyRow p.1)))∧Below w.heap.size w w':=by
 have HA:=Lib.hid hA;obtain⟨n,-,hown⟩:=hp;have HO:=Lib.hid hown;have HSZ:=Lib.hid (mkD_size A);have hbl:=hown.lt;clear hA;go_enter Tryz.func116,Tryz.ntmps116
 go_wp2_with (first
  |(at_range;refine wpList_range_own _ rfl _ 123 rfl 9 3 lawS Tryz.underlying123 (plainElem (H:=Unit) Tryz.prog 3) M n (mkD A) rfl hown ?_;intro w0 hrg0 hg0 hs0)
  |go_in)
 go_frame
 have hb0:Below w.heap.size w w0:=(Below.refl _ _).grown hg0 (Nat.le_refl _) (fun j hj=>by cases hj);clear hs0 hg0
 go_loopw[3] (fun v wr=> ∃(left:Lit→Bool) (cnt:Nat) (ss:List (List UInt8)),wr.ranges Tryz.prog 9 (plainElem (H:=Unit) Tryz.prog 3) M w.heap.size n (mkD A) left cnt∧ss.length+cnt≤A.length∧
  wr.ownsRow w.heap.size 9 1 v ss.length (ss.map encStr)∧Hid (Collected (mkD A) left ss)∧Below w.heap.size w wr)
  (fun _ wr=>wr.rangeLeft M w.heap.size)
 case atStart=>
  exact⟨_,_,[],hrg0,by rw[HSZ.out];simp,World.ownsRow_nil _ _ _ _,Lib.hid (Collected.start _),hb0⟩
 case round=>
  obtain⟨left,cnt,ss,hrg,hcs,hrow,hC,hnx⟩:=hrel
  go_wp2_with (first
   |(at_next;refine wpList_next_ranges _ rfl _ rfl 9 lawS (plainElem (H:=Unit) Tryz.prog 3) encStr (Value.int .i64) (fun key kl hk=>by obtain⟨x,hx,_⟩:=Maps.keyOf_str Tryz.underlying9 hk;exact⟨x,hx⟩) (fun v y hv=>by obtain⟨c,rfl,_⟩:=plainElem_int_inv Tryz.underlying3 hv;exact⟨c,rfl⟩) M w.heap.size n _ _ _ rfl hrg ?_ ?_)
   |go_in)
  ·intro hc0 hl0
   have HP:=Lib.hid (hC.out.perm HO.out lawS Tryz.underlying9 hl0);have HS:=Lib.hid (keys_sorted HA.out HP.out);have HL:Hid (ss.length=A.length):=Lib.hid (by have:=HP.out.length_eq;rw[keys_of,List.length_map]at this;exact this);clear hc0 hl0;rcases hrow.2 with⟨rfl,hz⟩|⟨g,cap,cur,rfl,hbase,hb,h1,h2,h3,h4⟩
   ·have hA0:A=[]:=List.length_eq_zero_iff.1 (by rw[←HL.out];exact hz)
    subst hA0;clear hz
    go_wp2_with fail
    refine(sort_none _).mono ?_;rintro e w' ⟨rfl,rfl⟩;go_wp2;go_ret;exact⟨_,rfl,World.ownsRow_nil _ _ _ _,hnx⟩
   ·have hH:Holds encStr wr g 0 ss.toArray:=holds_of_block hb (by simpa using h4)
    have hgl:g<wr.heap.size:=(Array.getElem?_eq_some_iff.1 hb).1;have HH:=Lib.hid hH;have HB:=Lib.hid hb;have H3:=Lib.hid h3;clear hH h4 hb h3
    go_wp2_with fail
    refine(sort_some g cap ss wr HH.out hgl (by omega)).mono ?_;rintro e w' ⟨rfl,nn,os,hw'⟩
    have hr2:w'.ownsRow w.heap.size 9 1 (.slice (some ⟨g,0,none⟩) ss.length cap) ss.length (A.map fun p=> .string (str (keyRow p.1))):=by
     rw[hw'];have:=ownsRow_sorted (w:=wr) (n:=nn) (os:=os) (ts:=ss.mergeSort leB) (ss:=ss) (by simp) hbase HB.out h1 h2 H3.out;rw[show(ss.mergeSort leB).map encStr=A.map fun p=> .string (str (keyRow p.1))from by rw[HS.out,List.map_map];rfl]at this;exact this
    have hb2:Below w.heap.size w w':=by rw[hw'];exact hnx.grown (grownBy_sorted _) hnx.size (fun j hj=>by cases hj;exact hbase)
    have HR2:=Lib.hid hr2;clear hw' hr2;go_wp2;go_ret;refine⟨_,rfl,?_,hb2⟩;rw[←HL.out];exact HR2.out
  ·intro x c kl yd yp w2 cnt2 hkey hlk hv hat hrg2 hlt hg2 hs2 hen
   obtain⟨x',ex,rfl,_⟩:=Maps.keyOf_str Tryz.underlying9 hkey;obtain rfl:x=x':=encStr_inj ex;have hrow2:=hrow.kept hg2 (Or.inr (row_ne_iter hrow hrg).symm);have hb2:Below w.heap.size w w2:=hnx.grown hg2 hnx.size (fun j hj=>by cases hj;exact Nat.le_refl _);have HC2:=Lib.hid (hC.out.step hlk hat);have HRW:=Lib.hid hrow2;have HRG:=Lib.hid hrg2;have HLF:=Lib.hid (hrg.left_eq);clear hs2 hv hat hkey hlk hg2 hrow2 hrow hrg2 hrg hC ex;have HRW1:=Lib.hid (HRW.out.alloc (.cells #[encStr x] 9));have HRG1:=Lib.hid (HRG.out.alloc (.cells #[encStr x] 9))
   go_wp2_with (at_builtin;refine wpList_app rfl (.tmp 11) (.tmp 13) 185 rfl w.heap.size 9 1 16 Tryz.underlying185 strI _ ss.length _ rfl HRW1.out _ 1 [encStr x] rfl (one_str w2 x) rfl (by simp[Value.oneCell',encStr]) ?_ ?_ (by have:=hb2.size;simp;omega) ?_)
   ·unfold maxLen;omega
   ·omega
   ·intro v' w3 hown' hg3 hat3
    have hrg3:=HRG1.out.kept hg3 (row_ne_low HRW1.out hbl) (row_ne_iter HRW1.out HRG1.out);have hb3:=(hb2.alloc hb2.size _).grown hg3 (by have:=hb2.size;simp;omega) (fun j hj=>(HRW.out.lt j hj).1);clear hat3 hg3;go_wp2;go_roundw
    case rel=>
     exact⟨_,cnt2,ss++[x],hrg3,by simp;omega,by simpa using hown',HC2,hb3⟩
    case measure=>rw[hrg3.left_eq,HLF.out];exact hlt
end Go.Proofs.YtjodlngbiikgfaaGreatDoor
namespace Go.Proofs.YtjodlngbiikgfaaGreatDoor
open Go.RowKit
end Go.Proofs.YtjodlngbiikgfaaGreatDoor
namespace Go.Proofs.YtjodlngbiikgfaaGreatDoor
open Go.RowKit
theorem one_cnt (W:World)(c:Cnt):Sl (W.alloc (.cells #[c.v,.int .i64 c.n] 138)) (.slice (some ⟨W.heap.size,0,none⟩) 1 1) 1 c.cells:=Sl.block (Blk.new W 138 #[c.v,.int .i64 c.n]) 1 1 (Nat.le_refl _) (by decide)
theorem cnt_one {w:World}{c:Cnt}{n:Nat}{cs:List Value}(h:Sl w c.v n cs): ∀u∈c.cells,u.oneCell'=true:=by
 obtain⟨A,k,hv,-⟩:=h;intro u hu;simp[Cnt.cells]at hu;rcases hu with rfl|rfl
 ·rw[hv];rfl
 ·rfl
theorem OwnV.alloc {w:World}{base:Nat}{v:Value}{l:List Cnt}(h:OwnV w base v l)(o:Obj):OwnV (w.alloc o) base v l:=h.below (below_alloc w o)
theorem OwnV.drew {w:World}{base:Nat}{v:Value}{l:List Cnt}(h:OwnV w base v l):OwnV w.drew base v l:=⟨h.own,h.rows,h.far⟩
end Go.Proofs.YtjodlngbiikgfaaGreatDoor
namespace Go.Proofs.YtjodlngbiikgfaaGreatDoor
open Go.RowKit Go.Maps Go.Sort
theorem back_good {r:List Val}(h:GoodR r):backR (str (keyRow r)).toList=(r,0):=by rw[str_toList];exact backR_yes (dec_make r 8 h.few h.good)
theorem look_at {A:AV}{k:Nat}{p:List Val×Int}(h:Rises A)(hk:A[k]?=some p):lookA A p.1=p.2:=by
 induction A generalizing k with
 |nil=>simp at hk
 |cons x t ih=>
  obtain⟨x,m⟩:=x;have hx:GoodR x:=h.good (x,m) (by simp);cases k with
  |zero=>
   simp at hk;subst hk;unfold lookA;rw[if_pos (rowsF_self hx)]
  |succ k=>
   have hm:=List.mem_of_getElem? (by simpa using hk);have:=(List.pairwise_cons.1 h.rise).1 p hm;simp only at this;unfold lookA;rw[if_neg (by omega)];exact ih h.tail (by simpa using hk)
theorem own_le {w:World}{a b:Nat}{e:TypeId}{size n:Nat}{v:Value}{xs:List Value}(h:w.ownsRow b e size v n xs)(hab:a≤b):w.ownsRow a e size v n xs:=by
 refine⟨h.1,?_⟩;rcases h.2 with h'|⟨g,cap,cur,h',hb,r⟩
 ·exact .inl h'
 ·exact .inr ⟨g,cap,cur,h',Nat.le_trans hab hb,r⟩
theorem OwnV.le {w:World}{a b:Nat}{v:Value}{l:List Cnt}(h:OwnV w b v l)(hab:a≤b):OwnV w a v l:=⟨own_le h.own hab,h.rows,h.far⟩
set_option maxHeartbeats 4000000 in
set_option maxRecDepth 100000 in
theorem view_any {M N:Nat}{A:AV}(w:World)(hp:Pile w M N A)(hA:Rises A)(hn:A.length≤1000000):
 Calls Tryz.prog 68 #[.map (some M)] w fun e w'=> ∃v l,e= .returned v∧OwnV w' w.heap.size v l∧av l=A∧Below w.heap.size w w':=by
 have HA:=Lib.hid hA;have HP:=Lib.hid hp;clear hA;go_enter Tryz.func68,Tryz.ntmps68
 go_wp2_with fail
 refine(keys_any _ hp HA.out hn).mono ?_;rintro e w1 ⟨vk,rfl,hown,hb1⟩;have HS:=Lib.hid (Sl.of_own hown);rw[show A.length=(A.map fun p=>Value.string (str (keyRow p.1))).length from by rw[List.length_map]]at HS;clear hown hp;generalize hks:(A.map fun p=>Value.string (str (keyRow p.1)))=ks at HS;have HKS:=Lib.hid hks;have hkl:ks.length=A.length:=by rw[←hks,List.length_map]
 obtain⟨Ak,ck,rfl,hc1,hc2,-,hcell⟩:=id HS.out;have HC:=Lib.hid hcell;have HKL:=Lib.hid hkl;unfold maxLen at hc2;rw[hkl]at hc1;clear hks hcell hkl;rw[HKL.out]
 go_wp2_with fail
 go_loopw[3,5,6,7,11] (fun out _ _ _ i wr=> ∃(k:Nat) (u:Value) (s:List Cnt),u=out∧k≤A.length∧i= .int .i64 k∧s.length=k∧Hid (av s=A.take k)∧Hid (OwnV wr w1.heap.size u s)∧Below w1.heap.size w1 wr) (fun _ _ _ _ i _=>A.length-(intOf i).toNat)
 case atStart=>exact⟨0,_,[],rfl,by omega,rfl,rfl,rfl,OwnV.nil w1 w1.heap.size,Below.refl _ _⟩
 case round=>
  obtain⟨k,u,s,rfl,hk,rfl,hsl,HAV,HO,hbw⟩:=hrel;by_cases hlt:k<A.length
  ·have hx:=List.getElem?_eq_getElem (l:=A) hlt
   generalize A[k]=x at hx;have HG:=Lib.hid (HA.out.good x (List.mem_of_getElem? hx));have HLK:=Lib.hid (look_at HA.out hx);have HT:=Lib.hid (show A.take (k+1)=A.take k++[x]from by rw[List.take_add_one,hx];rfl);obtain⟨g,off,rfl,hcc⟩:=HC.out (by intro h0;have:=HKL.out;rw[h0]at this;simp at this;omega);have d1:=cell_below hbw (hcc k (.string (str (keyRow x.1))) (by rw[←HKS.out,List.getElem?_map,hx];rfl));have HKY:=Lib.hid (keyS HG.out);have HBK:=Lib.hid (back_good HG.out);have hsz:(str (keyRow x.1)).size≤4611686018427387904:=by rw[str_size];have:=keyRow_short HG.out;omega
   have HWP:=Lib.hid (HP.out.below (below_trans hb1 hbw));have HGA:=Lib.hid HA.out.good;generalize str (keyRow x.1)=ky at d1 HKY HBK hsz;clear hx hcc;have k0:(0:Int)≤(k:Int):=by omega
   have k1:(k:Int)<(A.length:Int):=by omega
   subst hsl;have hu:Hid (∀j,u.ownBlock=some j→j<wr.heap.size):=Lib.hid (own_lt HO.out.own)
   go_wp2_with fail
   refine(back_any2 _ _ hsz).mono ?_;rw[HBK.out];rintro e w2 ⟨vb,rfl,hs2,hf2,hb2⟩;have HS2:=Lib.hid hs2;have HF2:=Lib.hid hf2;obtain⟨A2,c2,rfl,-⟩:=id hs2;have hbw2:=below_trans hbw hb2;obtain⟨n2,-,hmap⟩:=HWP.out.below hb2;clear hs2 hf2
   go_wp2_with (first
    |(at_lookup;refine wpList_lookup_own_int _ rfl _ _ 123 rfl 9 3 .i64 lawS Tryz.underlying123 Tryz.underlying3 (zeroS _) M n2 _ rfl hmap _ _ rfl HKY.out ?_;intro c hat hwc;obtain rfl:=lit_inj (hat.symm.trans (mkD_at HGA.out HG.out));rw[HLK.out];clear hat hwc)
    |(at_builtin;refine wpList_app rfl (.tmp 20) (.tmp 26) 68 rfl w1.heap.size 138 2 32 Tryz.underlying68 cntI u s.length _ rfl ((HO.out.below hb2).alloc _).own _ 1 (Cnt.cells ⟨.slice A2 x.1.length c2,x.1,x.2⟩) rfl (one_cnt w2 ⟨.slice A2 x.1.length c2,x.1,x.2⟩) rfl (cnt_one HS2.out) (by unfold maxLen;omega) (by omega) (by have:=hbw2.size;simp;omega) ?_;intro v4 w4 hown4 hg4 hat4))
   have HN:Hid (OwnV w4 w1.heap.size v4 (s++[⟨.slice A2 x.1.length c2,x.1,x.2⟩])):=Lib.hid (((HO.out.below hb2).alloc _).snoc hown4 hg4 hat4 (HS2.out.below (below_alloc _ _)) (fun j hj=>⟨Nat.lt_of_lt_of_le (HF2.out j hj).2 (by simp),fun e=>Nat.lt_irrefl _ (Nat.lt_of_lt_of_le (hu.out j e) (HF2.out j hj).1)⟩));have HAN:Hid (av (s++[⟨.slice A2 x.1.length c2,x.1,x.2⟩])=A.take (s.length+1)):=Lib.hid (by rw[HT.out,←HAV.out];simp[av]);have hbw4:Below w1.heap.size w1 w4:=below_grown (hbw2.alloc hbw2.size _) hg4 (own_ge HO.out.own);clear hown4 hg4 hat4 hmap;go_wp2;go_roundw
   case rel=>exact⟨s.length+1,_,_,rfl,by omega,by go_num,by simp,HAN.out,HN.out,hbw4⟩
   case measure=>simp[intOf];omega
  ·obtain rfl:k=A.length:=by omega
   go_wp2;go_ret;refine⟨_,s,rfl,HO.out.le hb1.size,?_,below_trans hb1 hbw⟩;rw[HAV.out,List.take_of_length_le (Nat.le_refl _)]
end Go.Proofs.YtjodlngbiikgfaaGreatDoor
namespace Go.Proofs.YtjodlngbiikgfaaGreatDoor
open Go.RowKit
set_option maxHeartbeats 8000000 in
set_option maxRecDepth 10000 in
theorem checkView_any (v:Value)(l:List Cnt)(w:World)(h:View w v l)(hf:FineV l)(hm:Mx w):
 Calls Tryz.prog 62 #[v] w fun e w'=>e= .returned (.int .i64 (chkV l))∧Below w.heap.size w w':=by
 have HV:=Lib.hid h;have HF:=Lib.hid hf;have HM:=Lib.hid hm;obtain⟨A,c,rfl,h1,h2,-⟩:=h.sl;clear h hf hm;unfold maxLen at h2;by_cases hn:4096<l.length
 ·have e1:=Lib.hid (show chkV l=2 from if_pos hn)
  go_enter Tryz.func62,Tryz.ntmps62
  go_wp2;go_ret;exact⟨ret_int (by rw[e1.out]),Below.refl _ _⟩
 ·have HBAD:=Lib.hid (fun k=>chk_bad (l:=l) (k:=k) hn)
  have HGOOD:=Lib.hid (chk_good (l:=l) hn);generalize chkV l=R at HBAD HGOOD⊢;go_enter Tryz.func62,Tryz.ntmps62
  go_wp2_with fail
  go_loopw[3,4,5,6,7,13] (fun last _ _ _ _ i wr=> ∃k:Nat,k≤l.length∧i= .int .i64 k∧last= .string (lastKey l k)∧Hid (∀j∈(List.range l.length).take k,okAt l j=true)∧Below w.heap.size w wr) (fun _ _ _ _ _ i _=>l.length-(intOf i).toNat)
  case atStart=>exact⟨0,by omega,rfl,rfl,by simp[Hid],Below.refl _ _⟩
  case round=>
   obtain⟨k,hk,rfl,rfl,H,hbw⟩:=hrel;by_cases hlt:k<l.length
   ·have hx:=List.getElem?_eq_getElem (l:=l) hlt
    generalize l[k]=x at hx;obtain⟨g,off,rfl,-,hc⟩:=cnt_at HV.out.sl rfl hx;obtain⟨d1,d2⟩:=hc _ hbw;have hmem:=List.mem_of_getElem? hx;have HRW:=Lib.hid (HV.out.rows x hmem);have HFX:=Lib.hid (HF.out.rows x hmem);have hxn:=HF.out.nums x hmem;have HX:=Lib.hid hx;clear hx hc hmem;obtain⟨xv,xr,xn⟩:=x;simp only at d1 d2 HRW HFX hxn;obtain⟨Ax,cx,rfl,-⟩:=id HRW.out;have hbw2:=hbw.alloc hbw.size (.cells #[.slice Ax xr.length cx,.int .i64 xn] 138);have HSX:=Lib.hid (HRW.out.below hbw2);have kb:=(Blk.new wr 138 #[.slice Ax xr.length cx,.int .i64 xn]);generalize hla:lastKey l k=la;have HLA:=Lib.hid hla;clear hla;by_cases hq:keyErr xr=0
    ·have HKE:Hid (keyR xr=(str (keyRow xr),0)):=Lib.hid (if_neg (by rw[hq];simp))
     have HGX:=Lib.hid (goodR_of HFX.out hq);have hokc:okC ⟨.slice Ax xr.length cx,xr,xn⟩=btw xn 1 1073741824:=by simp[okC,hq]
     have hD:xn<1∨(1≤xn∧1073741824<xn)∨(1≤xn∧xn≤1073741824):=by omega
     have HNL:Hid (lastKey l (k+1)=str (keyRow xr)):=Lib.hid (by simp[lastKey,HX.out]);rcases hD with hn1|⟨hn1,hn2⟩|⟨hn1,hn2⟩
     ·have HB0:=Lib.hid (btw_no (n:=xn) (lo:=1) (hi:=1073741824) (by omega))
      have EE:=Lib.hid (HBAD.out k hlt (by cases k with|zero=>rw[okAt_zero HX.out,hokc,HB0.out]|succ k=>rw[okAt_succ HX.out (List.getElem?_eq_getElem (show k<l.length by omega)),hokc,HB0.out];rfl));clear HGX hokc HNL HB0
      go_wp2_with fail
      refine(key_any _ xr _ HSX.out HFX.out (HM.out.below hbw2)).mono ?_;rw[HKE.out];rintro e w2 ⟨rfl,hb2⟩;have y1:=(kb.below hb2).cell 1 _ rfl;have hbw3:=below_trans hbw2 hb2;go_wp2;go_ret;exact⟨ret_int (by rw[EE.out]),hbw3⟩
     ·have HB0:=Lib.hid (btw_no (n:=xn) (lo:=1) (hi:=1073741824) (by omega))
      have EE:=Lib.hid (HBAD.out k hlt (by cases k with|zero=>rw[okAt_zero HX.out,hokc,HB0.out]|succ k=>rw[okAt_succ HX.out (List.getElem?_eq_getElem (show k<l.length by omega)),hokc,HB0.out];rfl));clear HGX hokc HNL HB0
      go_wp2_with fail
      refine(key_any _ xr _ HSX.out HFX.out (HM.out.below hbw2)).mono ?_;rw[HKE.out];rintro e w2 ⟨rfl,hb2⟩;have y1:=(kb.below hb2).cell 1 _ rfl;have hbw3:=below_trans hbw2 hb2;go_wp2;go_ret;exact⟨ret_int (by rw[EE.out]),hbw3⟩
     ·have HB0:=Lib.hid (btw_yes hn1 hn2)
      rcases Nat.eq_zero_or_pos k with hk0|hpos
      ·have hno: ¬(0:Int)<(k:Int):=by omega
       have hox:okAt l k=okC ⟨.slice Ax xr.length cx,xr,xn⟩:=by have:=HX.out;rw[hk0]at this⊢;exact okAt_zero this
       have HZ:Hid (∀j∈(List.range l.length).take (k+1),okAt l j=true):=Lib.hid (all_step (f:=okAt l) H.out (range_at hlt) (by rw[hox,hokc,HB0.out]));clear hox hk0;clear HGX hokc HB0
       go_wp2_with fail
       refine(key_any _ xr _ HSX.out HFX.out (HM.out.below hbw2)).mono ?_;rw[HKE.out];rintro e w2 ⟨rfl,hb2⟩;have y1:=(kb.below hb2).cell 1 _ rfl;have hbw3:=below_trans hbw2 hb2;go_wp2;go_roundw
       case rel=>exact⟨k+1,by omega,by go_num,by rw[HNL.out],HZ.out,hbw3⟩
       case measure=>simp[intOf];omega
      ·obtain⟨k,rfl⟩: ∃m,k=m+1:=⟨k-1,by omega⟩
       have hkl:k<l.length:=by omega
       have hd:=List.getElem?_eq_getElem hkl;generalize l[k]=d at hd
       have HGD:Hid (GoodR d.r):=by
        have:=H.out k (by rw[List.mem_take_iff_getElem];exact⟨k,by simp;omega,by simp⟩)
        have hck:okC d=true:=by
         cases k with
         |zero=>rw[okAt_zero hd]at this;exact this
         |succ k=>rw[okAt_succ hd (List.getElem?_eq_getElem (show k<l.length by omega)),Bool.and_eq_true]at this;exact this.1
        unfold okC at hck;rw[Bool.and_eq_true,beq_iff_eq]at hck;exact Lib.hid (goodR_of (HF.out.rows d (List.mem_of_getElem? hd)) hck.1)
       have HLK:Hid (la=str (keyRow d.r)):=Lib.hid (by rw[←HLA.out];simp[lastKey,hd]);have l1:Op.bytesLess (str (keyRow xr)).toList la.toList=decide (rowsF xr d.r<0):=by rw[HLK.out];exact str_less HGX.out HGD.out
       have l2:((str (keyRow xr)).toList==la.toList)=decide (rowsF xr d.r=0):=by rw[HLK.out];exact str_same HGX.out HGD.out
       have hpos':(0:Int)<((k+1:Nat):Int):=by omega
       have HFL:=Lib.hid (rowsF_flip HGX.out HGD.out);have HOK:=Lib.hid (okAt_succ HX.out hd);clear hd;have hD:rowsF xr d.r<0∨rowsF xr d.r=0∨0<rowsF xr d.r:=by omega
       rcases hD with hs|hs|hs
       ·rw[decide_eq_true hs]at l1
        rw[decide_eq_false (by omega)]at l2;have EE:=Lib.hid (HBAD.out (k+1) hlt (by rw[HOK.out,HFL.out,decide_eq_false (by omega),Bool.and_false]));generalize str (keyRow xr)=sx at HKE l1 l2;clear HGX hokc HNL HB0 hs HLK HFL HOK
        go_wp2_with fail
        refine(key_any _ xr _ HSX.out HFX.out (HM.out.below hbw2)).mono ?_;rw[HKE.out];rintro e w2 ⟨rfl,hb2⟩;have y1:=(kb.below hb2).cell 1 _ rfl;have hbw3:=below_trans hbw2 hb2;go_wp2;go_ret;exact⟨ret_int (by rw[EE.out]),hbw3⟩
       ·rw[decide_eq_false (by omega)]at l1
        rw[decide_eq_true hs]at l2;have EE:=Lib.hid (HBAD.out (k+1) hlt (by rw[HOK.out,HFL.out,decide_eq_false (by omega),Bool.and_false]));generalize str (keyRow xr)=sx at HKE l1 l2;clear HGX hokc HNL HB0 hs HLK HFL HOK
        go_wp2_with fail
        refine(key_any _ xr _ HSX.out HFX.out (HM.out.below hbw2)).mono ?_;rw[HKE.out];rintro e w2 ⟨rfl,hb2⟩;have y1:=(kb.below hb2).cell 1 _ rfl;have hbw3:=below_trans hbw2 hb2;go_wp2;go_ret;exact⟨ret_int (by rw[EE.out]),hbw3⟩
       ·rw[decide_eq_false (by omega)]at l1
        rw[decide_eq_false (by omega)]at l2;have HZ:Hid (∀j∈(List.range l.length).take (k+1+1),okAt l j=true):=Lib.hid (all_step (f:=okAt l) H.out (range_at hlt) (by rw[HOK.out,hokc,HB0.out,HFL.out,decide_eq_true (by omega)];rfl));generalize str (keyRow xr)=sx at HKE l1 l2 HNL;clear HGX hokc HB0 hs HLK HFL HOK
        go_wp2_with fail
        refine(key_any _ xr _ HSX.out HFX.out (HM.out.below hbw2)).mono ?_;rw[HKE.out];rintro e w2 ⟨rfl,hb2⟩;have y1:=(kb.below hb2).cell 1 _ rfl;have hbw3:=below_trans hbw2 hb2;go_wp2;go_roundw
        case rel=>exact⟨k+1+1,by omega,by go_num,by rw[HNL.out],HZ.out,hbw3⟩
        case measure=>simp[intOf];omega
    ·have HKE:Hid (keyR xr=(⟨#[]⟩,keyErr xr)):=Lib.hid (if_pos hq)
     have hb':=bneT hq
     have EE:=Lib.hid (HBAD.out k hlt (by
      have hc0:okC ⟨.slice Ax xr.length cx,xr,xn⟩=false:=by simp[okC,hq]
      cases k with
      |zero=>rw[okAt_zero HX.out,hc0]
      |succ k=>rw[okAt_succ HX.out (List.getElem?_eq_getElem (show k<l.length by omega)),hc0];rfl))
     clear hq
     go_wp2_with fail
     refine(key_any _ xr _ HSX.out HFX.out (HM.out.below hbw2)).mono ?_;rw[HKE.out];rintro e w2 ⟨rfl,hb2⟩;have y1:=(kb.below hb2).cell 1 _ rfl;have hbw3:=below_trans hbw2 hb2;go_wp2;go_ret;exact⟨ret_int (by rw[EE.out]),hbw3⟩
   ·obtain rfl:k=l.length:=by omega
    have EE:=Lib.hid (HGOOD.out H.out);generalize lastKey l l.length=la;go_wp2;go_ret;exact⟨ret_int (by rw[EE.out]),hbw⟩
end Go.Proofs.YtjodlngbiikgfaaGreatDoor
namespace Go.Proofs.YtjodlngbiikgfaaGreatDoor
open Go.RowKit
end Go.Proofs.YtjodlngbiikgfaaGreatDoor
namespace Go.Proofs.YtjodlngbiikgfaaGreatDoor
open Go.RowKit
structure PlaceOf (A:AV) (r:List Val) (i:Nat) (is:Bool):Prop where
 le:i≤A.length
 less: ∀j p,j<i→A[j]?=some p→rowsF p.1 r<0
 here:is=true→ ∃p,A[i]?=some p∧rowsF p.1 r=0
 more:is=false→ ∀j p,i≤j→A[j]?=some p→0<rowsF p.1 r
end Go.Proofs.YtjodlngbiikgfaaGreatDoor
namespace Go.Proofs.YtjodlngbiikgfaaGreatDoor
open Go.RowKit
theorem OwnV.sub {w w':World}{base:Nat}{v v':Value}{l l':List Cnt}(h:OwnV w base v l)(hown:w'.ownsRow base 138 2 v' l'.length (cntCells l'))(hg:w.grownBy w' v.ownBlock)(hat:v'.ownBlock=v.ownBlock∨v'.ownBlock=some w.heap.size)(hsub: ∀c∈l',c∈l):OwnV w' base v' l':=by
 refine⟨hown,fun d hd=>sl_grown (h.rows d (hsub d hd)) hg (fun k hk=>(h.far d (hsub d hd) k hk).2),fun d hd k hk=> ?_⟩;obtain⟨h1,h2⟩:=h.far d (hsub d hd) k hk;refine⟨Nat.lt_of_lt_of_le h1 hg.size,?_⟩;rcases hat with hat|hat
 ·rw[hat];exact h2
 ·rw[hat];intro e;injection e with e;omega
theorem cnt_set (l:List Cnt)(i:Nat)(c:Cnt)(n:Int)(hi:l[i]?=some c):(cntCells l).set (i*2+1) (.int .i64 n)=cntCells (l.set i ⟨c.v,c.r,n⟩):=by
 induction l generalizing i with
 |nil=>simp at hi
 |cons a l ih=>
  cases i with
  |zero=>
   simp at hi;subst hi;simp[cntCells,Cnt.cells]
  |succ i=>
   have:=ih i (by simpa using hi);have e:(i+1)*2+1=i*2+1+1+1:=by omega
   rw[e,List.set_cons_succ];unfold cntCells at this⊢;rw[List.flatMap_cons,List.flatMap_cons,←this];simp[Cnt.cells]
theorem OwnV.set {w:World}{base g cap i:Nat}{l:List Cnt}{c:Cnt}{n:Int}(h:OwnV w base (.slice (some ⟨g,0,none⟩) l.length cap) l)(hi:l[i]?=some c):
 OwnV (w.setCell ⟨g,i*2+1,none⟩ (.int .i64 n)) base (.slice (some ⟨g,0,none⟩) l.length cap) (l.set i ⟨c.v,c.r,n⟩)∧w.grownBy (w.setCell ⟨g,i*2+1,none⟩ (.int .i64 n)) (some g):=by
 obtain⟨h1,h2⟩:=h.own.stored (i*2+1) (.int .i64 n);rw[cnt_set l i c n hi]at h1
 have hsub: ∀d∈l.set i ⟨c.v,c.r,n⟩,∃d'∈l,d'.v=d.v∧d'.r=d.r:=by
  intro d hd;rcases List.mem_or_eq_of_mem_set hd with hd|rfl
  ·exact⟨d,hd,rfl,rfl⟩
  ·exact⟨c,List.mem_of_getElem? hi,rfl,rfl⟩
 refine⟨⟨by rw[List.length_set];exact h1,fun d hd=> ?_,fun d hd k hk=> ?_⟩,h2⟩
 ·obtain⟨d',hd',e1,e2⟩:=hsub d hd
  rw[←e1,←e2];exact sl_grown (h.rows d' hd') h2 (fun k hk=>(h.far d' hd' k hk).2)
 ·obtain⟨d',hd',e1,-⟩:=hsub d hd
  rw[←e1]at hk;obtain⟨a,b⟩:=h.far d' hd' k hk;exact⟨Nat.lt_of_lt_of_le a h2.size,b⟩
end Go.Proofs.YtjodlngbiikgfaaGreatDoor
namespace Go.Proofs.YtjodlngbiikgfaaGreatDoor
open Go.RowKit
theorem cnt_lay (a b:List Cnt)(x c:Cnt):((cntCells (a++x::b)).set (a.length*2) c.v).set (a.length*2+1) (.int .i64 c.n)=cntCells (a++c::b):=by
 induction a with
 |nil=>simp[cntCells,Cnt.cells]
 |cons y a ih=>
  have e1:(y::a).length*2=a.length*2+1+1:=by simp;omega
  rw[e1];unfold cntCells at ih⊢;simp only[List.cons_append,List.flatMap_cons];rw[←ih];simp[Cnt.cells]
theorem OwnV.lay {w:World}{base g n cap:Nat}{a b:List Cnt}{x c:Cnt}(h:OwnV w base (.slice (some ⟨g,0,none⟩) n cap) (a++x::b))(hn:n=(a++x::b).length)(hc:Sl w c.v c.r.length (rowCells c.r))(hf: ∀k,c.v.ownBlock=some k→k<w.heap.size∧k≠g):
 OwnV ((w.setCell ⟨g,a.length*2,none⟩ c.v).setCell ⟨g,a.length*2+1,none⟩ (.int .i64 c.n)) base (.slice (some ⟨g,0,none⟩) n cap) (a++c::b)∧w.grownBy ((w.setCell ⟨g,a.length*2,none⟩ c.v).setCell ⟨g,a.length*2+1,none⟩ (.int .i64 c.n)) (some g):=by
 have ho:=h.own;rw[←hn]at ho;obtain⟨h1,g1⟩:=ho.stored (a.length*2) c.v;obtain⟨h2,g2⟩:=h1.stored (a.length*2+1) (.int .i64 c.n);have hg:=grown_trans g1 g2;rw[cnt_lay]at h2;have hlen:(a++c::b).length=n:=by rw[hn];simp
 have hd: ∀d∈a++c::b,Sl w d.v d.r.length (rowCells d.r)∧ ∀k,d.v.ownBlock=some k→k<w.heap.size∧k≠g:=by
  intro d hd;rcases List.mem_append.1 hd with hd|hd
  ·exact⟨h.rows d (by simp[hd]),fun k hk=>by obtain⟨p,q⟩:=h.far d (by simp[hd]) k hk;exact⟨p,fun e=>q (by rw[e];rfl)⟩⟩
  ·rcases List.mem_cons.1 hd with rfl|hd
   ·exact⟨hc,hf⟩
   ·exact⟨h.rows d (by simp[hd]),fun k hk=>by obtain⟨p,q⟩:=h.far d (by simp[hd]) k hk;exact⟨p,fun e=>q (by rw[e];rfl)⟩⟩
 refine⟨⟨by rw[hlen];exact h2,fun d hd'=>sl_grown (hd d hd').1 hg (fun k hk e=>((hd d hd').2 k hk).2 (by injection e with e;exact e.symm)),fun d hd' k hk=> ?_⟩,hg⟩;obtain⟨p,q⟩:=(hd d hd').2 k hk;exact⟨Nat.lt_of_lt_of_le p hg.size,fun e=>q (by simp[Value.ownBlock]at e;exact e.symm)⟩
end Go.Proofs.YtjodlngbiikgfaaGreatDoor
namespace Go.Proofs.YtjodlngbiikgfaaGreatDoor
open Go.RowKit
end Go.Proofs.YtjodlngbiikgfaaGreatDoor
namespace Go.Proofs.YtjodlngbiikgfaaGreatDoor
open Go.RowKit Go.Maps
theorem addR_rises {A:AV}{r:List Val}{n:Int}(h:Rises A)(hr:GoodR r):Rises (addR A r n).1:=by
 unfold addR;split
 ·exact h
 ·split
  ·exact h
  ·split
   ·exact rises_del h
   ·exact rises_put h hr
theorem putA_len (A:AV)(r:List Val)(n:Int):(putA A r n).length≤A.length+1:=by
 induction A with
 |nil=>simp[putA]
 |cons x t ih=>
  obtain⟨x,m⟩:=x;unfold putA;split
  ·simp
  ·split
   ·simp;omega
   ·simp
theorem delA_len (A:AV)(r:List Val):(delA A r).length≤A.length:=by
 induction A with
 |nil=>simp[delA]
 |cons x t ih=>
  obtain⟨x,m⟩:=x;unfold delA;split
  ·simp
  ·simp;omega
theorem look_num {A:AV}(r:List Val)(h: ∀p∈A,1≤p.2∧p.2≤1073741824):0≤lookA A r∧lookA A r≤1073741824:=by
 induction A with
 |nil=>simp[lookA]
 |cons x t ih=>
  obtain⟨x,m⟩:=x;have:=h (x,m) (by simp);have i:=ih fun p hp=>h p (by simp[hp]);simp only at this;unfold lookA;split
  ·omega
  ·exact i
theorem View.nil (w:World):View w (.slice none 0 0) []:=⟨Sl.nil_ w,nofun⟩
end Go.Proofs.YtjodlngbiikgfaaGreatDoor
namespace Go.Proofs.YtjodlngbiikgfaaGreatDoor
open Go.RowKit Go.Maps
end Go.Proofs.YtjodlngbiikgfaaGreatDoor
namespace Go.Proofs.YtjodlngbiikgfaaGreatDoor
open Go.RowKit Go.Maps
def foldR:AV→Int→List (Int×List Val)→AV×Int×Int
 |A,_,[]=>(A,0,0)
 |A,i,c::t=>if(addR A c.2 (stepI c.1)).2=0 then foldR (addR A c.2 (stepI c.1)).1 (i+1) t else([],i,(addR A c.2 (stepI c.1)).2)
def foldS (l:List Cnt) (m:List Chn):AV×Int×Int:=
 if chkV l≠0 then([],0,chkV l)else if formC m≠0 then([],0,formC m)else foldR (av l) 0 (ac m)
theorem addR_ok {A:AV}{r:List Val}{n:Int}(h:(addR A r n).2=0):
 0≤lookA A r+n∧lookA A r+n≤1073741824∧ ¬(hasA A r=false∧0<lookA A r+n∧A.length=4096)∧
 (addR A r n).1=if lookA A r+n=0 then delA A r else putA A r (lookA A r+n):=by
 unfold addR at h⊢;by_cases h1:lookA A r+n<0
 ·rw[if_pos h1]at h;simp at h
 ·rw[if_neg h1]at h⊢
  by_cases h2:1073741824<lookA A r+n∨(hasA A r=false∧0<lookA A r+n∧A.length=4096)
  ·rw[if_pos h2]at h;simp at h
  ·rw[if_neg h2]
   refine⟨by omega,Int.not_lt.1 (fun h=>h2 (.inl h)),fun h=>h2 (.inr h),?_⟩;split<;>rfl
theorem put_mem2 {A:AV}{r:List Val}{n:Int}{p:List Val×Int}(h:p∈putA A r n):p∈A∨p.2=n:=by
 induction A with
 |nil=>simp[putA]at h;exact .inr (by rw[h])
 |cons x t ih=>
  obtain⟨x,m⟩:=x;unfold putA at h;split at h
  ·rcases List.mem_cons.1 h with rfl|h
   ·exact .inr rfl
   ·exact .inl (by simp[h])
  ·split at h
   ·rcases List.mem_cons.1 h with rfl|h
    ·exact .inl (by simp)
    ·rcases ih h with h|h
     ·exact .inl (by simp[h])
     ·exact .inr h
   ·rcases List.mem_cons.1 h with rfl|h
    ·exact .inr rfl
    ·exact .inl h
theorem addR_nums {A:AV}{r:List Val}{n:Int}(h: ∀p∈A,1≤p.2∧p.2≤1073741824)(h0:(addR A r n).2=0): ∀p∈(addR A r n).1,1≤p.2∧p.2≤1073741824:=by
 obtain⟨h1,h2,-,e⟩:=addR_ok h0;rw[e];intro p hp;split at hp
 ·exact h p (del_mem hp)
 ·rcases put_mem2 hp with hp|hp
  ·exact h p hp
  ·omega
theorem put_has_len {A:AV}{r:List Val}{n:Int}(h:Rises A)(hr:GoodR r)(hh:hasA A r=true):(putA A r n).length=A.length:=by
 induction A with
 |nil=>simp[hasA]at hh
 |cons x t ih=>
  obtain⟨x,m⟩:=x;have hx:GoodR x:=h.good (x,m) (by simp);unfold putA;by_cases e:rowsF x r=0
  ·rw[if_pos e];simp
  ·rw[if_neg e]
   unfold hasA at hh;have hh':hasA t r=true:=by simpa[e]using hh
   by_cases l:rowsF x r<0
   ·rw[if_pos l];simp[ih h.tail hh']
   ·exfalso
    have hlt:rowsF r x<0:=by rw[rowsF_flip hx hr];omega
    have:hasA t r=false:=by
     have hno: ∀p∈t,rowsF p.1 r≠0:=fun p hp=>by
      have:=rowsF_trans hr hx (h.good p (by simp[hp])) hlt ((List.pairwise_cons.1 h.rise).1 p hp);have hf:=rowsF_flip (h.good p (by simp[hp])) hr;omega
     clear hh' hh ih h
     induction t with
     |nil=>rfl
     |cons y t ih=>
      obtain⟨y,c⟩:=y;unfold hasA;have:=hno (y,c) (by simp);simp only at this;simp[this,ih fun p hp=>hno p (by simp[hp])]
    rw[this]at hh';cases hh'
theorem addR_few {A:AV}{r:List Val}{n:Int}(h:Rises A)(hr:GoodR r)(hl:A.length≤4096)(h0:(addR A r n).2=0):(addR A r n).1.length≤4096:=by
 obtain⟨h1,h2,h3,e⟩:=addR_ok h0;rw[e];split
 ·have:=delA_len A r;omega
 ·cases hh:hasA A r with
  |true=>rw[put_has_len h hr hh];exact hl
  |false=>
   have:=putA_len A r (lookA A r+n);by_cases h4:A.length=4096
   ·exact absurd ⟨hh,by omega,h4⟩ h3
   ·omega
structure GoodA (A:AV):Prop where
 few:A.length≤4096
 rises:Rises A
 nums: ∀p∈A,1≤p.2∧p.2≤1073741824
theorem GoodV.a {l:List Cnt}(h:GoodV l):GoodA (av l):=⟨by unfold av;rw[List.length_map];exact h.few,h.rises,h.nums⟩
theorem GoodA.add {A:AV}{r:List Val}{n:Int}(h:GoodA A)(hr:GoodR r)(h0:(addR A r n).2=0):GoodA (addR A r n).1:=
 ⟨addR_few h.rises hr h.few h0,addR_rises h.rises hr,addR_nums h.nums h0⟩
end Go.Proofs.YtjodlngbiikgfaaGreatDoor
namespace Go.Proofs.YtjodlngbiikgfaaGreatDoor
open Go.RowKit Go.Maps
theorem chgI:EInfo Tryz.prog 55 2 32:=by
 have h:(Tryz.prog.info? 55).map (fun i=>(i.zero,i.size,i.bytes))=some (some (.agg #[.int .i64 0,.slice none 0 0]),2,32):=by kernel_rfl
 obtain⟨i,hi,h1,h2,h3⟩:=info_parts h;exact⟨i,_,hi,h1,h2,h3,rfl,by omega⟩
structure OwnC (w:World) (base:Nat) (v:Value) (l:List Chn):Prop where
 own:w.ownsRow base 55 2 v l.length (chnCells l)
 rows: ∀c∈l,Sl w c.v c.r.length (rowCells c.r)
 far: ∀c∈l,∀k,c.v.ownBlock=some k→base≤k∧k<w.heap.size∧v.ownBlock≠some k
theorem OwnC.chs {w:World}{base:Nat}{v:Value}{l:List Chn}(h:OwnC w base v l):Chs w v l:=⟨Sl.of_own h.own,h.rows⟩
theorem OwnC.below {w w':World}{base:Nat}{v:Value}{l:List Chn}(h:OwnC w base v l)(hb:Below w.heap.size w w'):OwnC w' base v l:=
 ⟨own_below h.own hb,fun c hc=>(h.rows c hc).below hb,fun c hc k hk=>⟨(h.far c hc k hk).1,Nat.lt_of_lt_of_le (h.far c hc k hk).2.1 hb.size,(h.far c hc k hk).2.2⟩⟩
theorem OwnC.alloc {w:World}{base:Nat}{v:Value}{l:List Chn}(h:OwnC w base v l)(o:Obj):OwnC (w.alloc o) base v l:=h.below (below_alloc w o)
theorem OwnC.drew {w:World}{base:Nat}{v:Value}{l:List Chn}(h:OwnC w base v l):OwnC w.drew base v l:=⟨h.own,h.rows,h.far⟩
theorem OwnC.nil (w:World)(base:Nat):OwnC w base (.slice none 0 0) []:=⟨⟨rfl,.inl ⟨rfl,rfl⟩⟩,nofun,nofun⟩
theorem chnCells_app (a b:List Chn):chnCells (a++b)=chnCells a++chnCells b:=List.flatMap_append
theorem OwnC.snoc {w w':World}{base:Nat}{v v':Value}{l:List Chn}{c:Chn}(h:OwnC w base v l)(hown:w'.ownsRow base 55 2 v' (l.length+1) (chnCells l++c.cells))(hg:w.grownBy w' v.ownBlock)(hat:v'.ownBlock=v.ownBlock∨v'.ownBlock=some w.heap.size)
 (hc:Sl w c.v c.r.length (rowCells c.r)) (hf: ∀k,c.v.ownBlock=some k→base≤k∧k<w.heap.size∧v.ownBlock≠some k):OwnC w' base v' (l++[c]):=by
 have hfar: ∀d∈l++[c],Sl w d.v d.r.length (rowCells d.r)∧ ∀k,d.v.ownBlock=some k→base≤k∧k<w.heap.size∧v.ownBlock≠some k:=by
  intro d hd;rcases List.mem_append.1 hd with hd|hd
  ·exact⟨h.rows d hd,h.far d hd⟩
  ·simp only[List.mem_singleton]at hd;subst hd;exact⟨hc,hf⟩
 refine⟨?_,fun d hd=>sl_grown (hfar d hd).1 hg (fun k hk=>((hfar d hd).2 k hk).2.2),fun d hd k hk=> ?_⟩
 ·rw[chnCells_app,List.length_append]
  simpa[chnCells]using hown
 ·obtain⟨h0,h1,h2⟩:=(hfar d hd).2 k hk
  refine⟨h0,Nat.lt_of_lt_of_le h1 hg.size,fun e=> ?_⟩;rcases hat with e'|e'
  ·exact h2 (e'▸e)
  ·rw[e']at e
   injection e with e;omega
theorem OwnC.set {w:World}{base:Nat}{v:Value}{l:List Chn}(h:OwnC w base v l){p:Addr}(hp:p.block<base)(u:Value):OwnC (w.setCell p u) base v l:=
 ⟨own_set h.own (fun k hk e=>by have:=own_ge h.own k hk;omega) u,fun c hc=>sl_set (h.rows c hc) (fun _ k hk e=>by have:=(h.far c hc k hk).1;omega) u,
  fun c hc k hk=>by have:=h.far c hc k hk;rw[World.size_setCell];exact this⟩
theorem one_chn (W:World)(c:Chn):Sl (W.alloc (.cells #[.int .i64 c.k,c.v] 55)) (.slice (some ⟨W.heap.size,0,none⟩) 1 1) 1 c.cells:=Sl.block (Blk.new W 55 #[.int .i64 c.k,c.v]) 1 1 (Nat.le_refl _) (by decide)
theorem chn_one {w:World}{c:Chn}{n:Nat}{cs:List Value}(h:Sl w c.v n cs): ∀u∈c.cells,u.oneCell'=true:=by
 obtain⟨A,k,hv,-⟩:=h;intro u hu;simp[Chn.cells]at hu;rcases hu with rfl|rfl
 ·rfl
 ·rw[hv];rfl
theorem grown_set {w w':World}{P:Nat}(h:w.grownBy w' (some P))(i:Nat)(u:Value):w.grownBy (w'.setCell ⟨P,i,none⟩ u) (some P):=
 ⟨h.os,h.tape,h.output,by rw[World.size_setCell];exact h.size,fun k hk hn=>(Below.heap_setCell w' ⟨P,i,none⟩ u k (fun e=>hn (by rw[e]))).trans (h.block k hk hn)⟩
end Go.Proofs.YtjodlngbiikgfaaGreatDoor
namespace Go.Proofs.YtjodlngbiikgfaaGreatDoor
open Go.RowKit Go.Maps
theorem sl_turned {F:Nat→Prop}{w w':World}{v:Value}{n:Nat}{cs:List Value}(h:Sl w v n cs)(ht:Turned F w w')(hg: ∀k,v.ownBlock=some k→ ¬F k):Sl w' v n cs:=by
 obtain⟨A,c,rfl,h1,h2,h0,h3⟩:=h;refine⟨A,c,rfl,h1,h2,h0,fun hne=> ?_⟩;obtain⟨b,off,rfl,hc⟩:=h3 hne;refine⟨b,off,rfl,fun j u hj=> ?_⟩;have h4:=hc j u hj;rw[World.cell?_of_block (ht.same b (World.block_lt_of_cell? w _ h4) (hg b rfl))];exact h4
theorem own_turned {F:Nat→Prop}{w w':World}{base:Nat}{e:TypeId}{size n:Nat}{v:Value}{xs:List Value}(h:w.ownsRow base e size v n xs)(ht:Turned F w w')(hg: ∀k,v.ownBlock=some k→ ¬F k):w'.ownsRow base e size v n xs:=by
 refine⟨h.1,?_⟩;rcases h.2 with hn|⟨g,cap,cur,rfl,hb,hgg,rest⟩
 ·exact .inl hn
 ·exact .inr ⟨g,cap,cur,rfl,hb,(ht.same g (Array.getElem?_eq_some_iff.1 hgg).1 (hg g rfl)).trans hgg,rest⟩
theorem OwnC.turned {F:Nat→Prop}{w w':World}{base:Nat}{v:Value}{l:List Chn}(h:OwnC w base v l)(ht:Turned F w w')(hv: ∀k,v.ownBlock=some k→ ¬F k)(hr: ∀c∈l,∀k,c.v.ownBlock=some k→ ¬F k):OwnC w' base v l:=
 ⟨own_turned h.own ht hv,fun c hc=>sl_turned (h.rows c hc) ht (hr c hc),fun c hc k hk=>⟨(h.far c hc k hk).1,Nat.lt_of_lt_of_le (h.far c hc k hk).2.1 ht.size,(h.far c hc k hk).2.2⟩⟩
end Go.Proofs.YtjodlngbiikgfaaGreatDoor
namespace Go.Proofs.YtjodlngbiikgfaaGreatDoor
open Go.RowKit Go.Maps
theorem madeCells_addB (z:Array Value)(m:Nat):(madeCells z (z.size+m)).toList=z.toList++(madeCells z m).toList:=by
 apply List.ext_getElem?;intro i;rw[List.getElem?_append];simp only[madeCells,Array.toList_map,Array.toList_range,List.getElem?_map,Array.length_toList];by_cases h:i<z.size
 ·simp[h,show i<z.size+m from by omega,Nat.mod_eq_of_lt h]
 ·rw[if_neg h]
  by_cases h2:i<z.size+m
  ·simp[h2,show i-z.size<m from by omega,Nat.mod_eq_sub_mod (show z.size≤i by omega)]
  ·simp[h2,show ¬i-z.size<m from by omega]
def zeroV:Value:= .agg #[.int .i64 0,.int .i64 0,.string ⟨#[]⟩]
theorem made_v (n:Nat):(madeCells zeroV.cells (n*3)).toList=rowCells (nullsR n):=by
 induction n with
 |zero=>simp[madeCells,nullsR,rowCells]
 |succ n ih=>
  have e:(n+1)*3=zeroV.cells.size+n*3:=by show _=3+n*3;omega
  rw[e,madeCells_addB,ih];show zeroV.cells.toList++rowCells (nullsR n)=rowCells (nullsR (n+1));unfold nullsR;rw[List.replicate_succ];rfl
theorem val_make (n:Nat)(hn:n≤4096): ∃zs:Array Value,zs=(rowCells (nullsR n)).toArray∧ ∀w:World,(Instr.makeSlice 41 (.int .i64 (n:Int)) (.int .i64 (n:Int))).run Tryz.prog w= .ok (.slice (some ⟨w.heap.size,0,none⟩) n n) (w.alloc (.cells zs 114)):=by
 have h:(Tryz.prog.info? 114).map (fun i=>(i.zero,i.size,i.bytes))=some (some zeroV,3,32):=by kernel_rfl
 obtain⟨i,hi,h1,h2,h3⟩:=info_parts h;refine⟨madeCells zeroV.cells (n*3),Array.toList_inj.1 (by rw[made_v]),fun w=> ?_⟩;have:=run_make (P:=Tryz.prog) w 41 114 i _ Tryz.underlying41 hi h1 .i64 .i64 (n:Int) (n:Int) (by omega) (by omega) (by rw[h3];omega) (by omega);rw[h2]at this;simpa using this
theorem nulls_len (n:Nat):(nullsR n).length=n:=List.length_replicate
theorem made_own {w:World}{n:Nat}{zs:Array Value}(hn:n≤4096)(hzs:zs=(rowCells (nullsR n)).toArray):(w.alloc (.cells zs 114)).ownsRow w.heap.size 114 3 (.slice (some ⟨w.heap.size,0,none⟩) n n) (nullsR n).length (rowCells (nullsR n)):=by
 rw[nulls_len,hzs];have hl:(rowCells (nullsR n)).length=n*3:=by rw[rowCells_len,nulls_len]
 exact⟨hl,.inr ⟨w.heap.size,n,_,rfl,Nat.le_refl _,Blk.new w 114 (rowCells (nullsR n)).toArray,Nat.le_refl _,by unfold maxLen;omega,by rw[List.size_toArray];exact hl,by rw[List.toList_toArray,←hl];exact List.take_length⟩⟩
end Go.Proofs.YtjodlngbiikgfaaGreatDoor
