/-Groups: looks. Groups: Check. Groups: rows and bags that are cloned; figure. Groups: row. Piles: add. Piles: of a view. The arguments of laws: a value -/
import Derived.Test.YtjhbeecmdgglgaaGreatDoorGrpX15
import Derived.Test.YtjhbeecmdgglgaaGreatDoorGrpX8
import Derived.Test.YtjhbeecmdgglgaaGreatDoorGrpX16
import Derived.Test.YtjhbeecmdgglgaaGreatDoorGrpX14
import Derived.Test.YtjhbeecmdgglgaaGreatDoorGrpX6
import Derived.Maps.OwnSet
import Derived.StringKeys
import Derived.Test.YtjhbeecmdgglgaaGreatDoorGrpX1
import Derived.Test.YtjhbeecmdgglgaaGreatDoorGrpX4
import Derived.SizedLaws
import Derived.Deep.Fields
set_option linter.unusedSimpArgs false
set_option linter.unusedVariables false
namespace Go.Proofs.YtjhbeecmdgglgaaGreatDoor
open Go.RowKit
def setAll (w:World) (g:Nat):Nat→List Value→World
 |_,[]=>w
 |i,v::l=>setAll (w.setCell ⟨g,i,none⟩ v) g (i+1) l
theorem setAll_arr {t:TypeId}{g:Nat}: ∀ {l:List Value} {w:World} {cs:Array Value} {i:Nat},Blk w g t cs→i+l.length=cs.size→ ∃ds,Blk (setAll w g i l) g t ds∧ds.toList=cs.toList.take i++l
 |[],w,cs,i,h,hl=>⟨cs,h,by simp at hl;rw[hl];simp[List.take_of_length_le]⟩
 |v::l,w,cs,i,h,hl=>by
  have hlt:i<cs.size:=by simp at hl;omega
  obtain⟨ds,h1,h2⟩:=setAll_arr (h.set_ i v) (i:=i+1) (l:=l) (by simp at hl⊢;omega);refine⟨ds,h1,?_⟩;rw[h2,Array.toList_setIfInBounds,List.take_add_one];rw[List.take_set_of_le (Nat.le_refl _),List.getElem?_set_self (by simpa using hlt)];simp
theorem Blk.setAll {w:World}{g:Nat}{t:TypeId}{cs:Array Value}(h:Blk w g t cs)(l:List Value)(hl:l.length=cs.size):Blk (setAll w g 0 l) g t l.toArray:=by
 obtain⟨ds,h1,h2⟩:=setAll_arr h (i:=0) (l:=l) (by omega);have:ds=l.toArray:=by rw[←Array.toArray_toList (xs:=ds),h2];simp
 rwa[this]at h1
theorem Sl.own_lt {w:World}{v:Value}{n:Nat}{cs:List Value}(h:Sl w v n cs)(hne:cs≠[]): ∀k,v.ownBlock=some k→k<w.heap.size:=by
 obtain⟨A,c,rfl,-,-,-,h3⟩:=h;obtain⟨b,off,rfl,hc⟩:=h3 hne;intro k hk;injection hk with hk;subst hk;cases cs with
 |nil=>exact absurd rfl hne
 |cons u l=>exact World.block_lt_of_cell? w _ (hc 0 u rfl)
theorem own_slice {w:World}{base:Nat}{e:TypeId}{size n:Nat}{v:Value}{xs:List Value}(h:w.ownsRow base e size v n xs): ∃A m c,v= .slice A m c:=by
 rcases h.2 with⟨rfl,_⟩|⟨g,cap,_,rfl,_⟩
 ·exact⟨_,_,_,rfl⟩
 ·exact⟨_,_,_,rfl⟩
theorem Sl.setAll {g:Nat}: ∀ {l:List Value} {w:World} {v:Value} {n:Nat} {cs:List Value} {i:Nat},Sl w v n cs→(∀k,v.ownBlock=some k→k≠g)→Sl (setAll w g i l) v n cs
 |[],_,_,_,_,_,h,_=>h
 |u::l,w,v,n,cs,i,h,hg=>Sl.setAll (l:=l) (w:=w.setCell ⟨g,i,none⟩ u) (i:=i+1) (h.setCell (p:=⟨g,i,none⟩) hg u) hg
theorem below_setAll {a:World}{b g:Nat}: ∀ {l:List Value} {w:World} {i:Nat},Below b a w→b≤g→Below b a (setAll w g i l)
 |[],_,_,h,_=>h
 |v::l,w,i,h,hg=>below_setAll (l:=l) (w:=w.setCell ⟨g,i,none⟩ v) (i:=i+1) (h.setCell (p:=⟨g,i,none⟩) hg v) hg
end Go.Proofs.YtjhbeecmdgglgaaGreatDoor
namespace Go.Proofs.YtjhbeecmdgglgaaGreatDoor
open Go.RowKit
end Go.Proofs.YtjhbeecmdgglgaaGreatDoor
namespace Go.Proofs.YtjhbeecmdgglgaaGreatDoor
open Go.RowKit
set_option maxHeartbeats 1000000 in
set_option maxRecDepth 10000 in
theorem copy_own (v:Value)(l:List Val)(w:World)(h:Sl w v l.length (rowCells l))(h8:l.length≤1099511627776):
 Calls Tryz.prog 68 #[v] w fun e w'=> ∃v',e= .returned v'∧w'.ownsRow w.heap.size 68 3 v' l.length (rowCells l)∧Below w.heap.size w w':=by
 have HH:=Lib.hid h;obtain⟨A,c,rfl,h1,h2,-,h3⟩:=h;clear h2;have HO:=Lib.hid (own_emptyT w w.heap.size 68 3 (Nat.le_refl _));have hB:=below_alloc w (.cells #[] 68);have HS:=Lib.hid (HH.out.below hB);go_enter Tryz.func68,Tryz.ntmps68
 go_wp2_with (at_builtin;refine wpList_app rfl (.tmp 3) (.tmp 4) 43 rfl w.heap.size 68 3 32 Tryz.underlying43 valJ _ 0 _ rfl HO.out _ l.length (rowCells l) rfl HS.out (rowCells_len l) (rowCells_one l) ?_ ?_ ?_ ?_)
 ·unfold maxLen;omega
 ·omega
 ·exact hB.size
 ·intro v2 w3 hown3 hg3 hat3
  have hb3:=below_grown hB hg3 (own_ge HO.out);have S3:Hid (w3.ownsRow w.heap.size 68 3 v2 l.length (rowCells l)):=Lib.hid (by have:=hown3;simpa using this);clear hown3 hg3 hat3;go_wp2;go_ret;exact⟨_,rfl,S3.out,hb3⟩
end Go.Proofs.YtjhbeecmdgglgaaGreatDoor
namespace Go.Proofs.YtjhbeecmdgglgaaGreatDoor
open Go.RowKit
theorem rcApp (a b:List Val):rowCells (a++b)=rowCells a++rowCells b:=List.flatMap_append
theorem rowCells_one1 (x:Val):rowCells [x]=[.int .i64 x.k,.int .i64 x.n,.string x.s]:=rfl
end Go.Proofs.YtjhbeecmdgglgaaGreatDoor
namespace Go.Proofs.YtjhbeecmdgglgaaGreatDoor
open Go.RowKit Go.Maps
theorem lawS:Keyed Tryz.prog 9:=string_keyed Tryz.underlying9
theorem keyRow_short {l:List Val}(h:GoodR l):(keyRow l).length≤1048:=by
 have h8:=h.few;have hg:=h.good;clear h
 have:(keyRow l).length≤131*l.length:=by
  clear h8
  induction l with
  |nil=>simp[keyRow]
  |cons x l ih=>
   have h1:=keyCell_len x (good_size (hg x (by simp)).1);have h2:=ih fun y hy=>hg y (by simp[hy]);rw[show keyRow (x::l)=keyCell x++keyRow l from List.flatMap_cons,List.length_append,List.length_cons];omega
 omega
theorem keyS {r:List Val}(h:GoodR r):keyOf Tryz.prog 9 (.string (str (keyRow r)))=some (kOf r):=by
 have hl:=keyRow_short h;have:=WideMaps.keyOf_string_mk (P:=Tryz.prog) (k:=9) Tryz.underlying9 (s:=str (keyRow r)) (by rw[str_size];unfold maxLen;omega);rw[this];rfl
theorem zeroS (w:World):(zeroValue 3).run Tryz.prog w= .ok (.int .i64 0) w:=by kernel_rfl
def Pile (w:World) (M N:Nat) (A:AV):Prop:= ∃n,n≤N∧w.ownsMap Tryz.prog 9 (plainElem (H:=Unit) Tryz.prog 3) M n (mkD A)
def addR (A:AV) (r:List Val) (n:Int):AV×Int:=
 if lookA A r+n<0 then(A,9)
 else if 1073741824<lookA A r+n∨(hasA A r=false∧0<lookA A r+n∧A.length=4096)then(A,2)
 else if lookA A r+n=0 then(delA A r,0)else(putA A r (lookA A r+n),0)
theorem del_put {A:AV}{r:List Val}{n:Int}(h:Rises A)(hr:GoodR r):delA (putA A r n) r=delA A r:=by
 induction A with
 |nil=>simp[putA,delA,rowsF_self hr]
 |cons x t ih=>
  obtain⟨x,m⟩:=x;have hx:GoodR x:=h.good (x,m) (by simp);obtain⟨h1,h2⟩:=List.pairwise_cons.1 h.rise;have h1: ∀p∈t,rowsF x p.1<0:=h1;unfold putA;by_cases e:rowsF x r=0
  ·rw[if_pos e];simp[delA,e]
  ·rw[if_neg e]
   by_cases l:rowsF x r<0
   ·rw[if_pos l];simp[delA,e,ih h.tail]
   ·rw[if_neg l]
    simp[delA,rowsF_self hr,e];have hlt:rowsF r x<0:=by rw[rowsF_flip hx hr];omega
    have: ∀q:AV,(∀p∈q,GoodR p.1)→(∀p∈q,rowsF r p.1<0)→delA q r=q:=by
     intro q
     induction q with
     |nil=>intros;rfl
     |cons y q ih2=>
      obtain⟨y,c⟩:=y;intro hq hq2;have hy:GoodR y:=hq (y,c) (by simp);have:=hq2 (y,c) (by simp);simp only at this;unfold delA;rw[if_neg (by rw[rowsF_flip hr hy];omega),ih2 (fun p hp=>hq p (by simp[hp])) (fun p hp=>hq2 p (by simp[hp]))]
    exact(this t (fun p hp=>h.good p (by simp[hp])) fun p hp=>rowsF_trans hr hx (h.good p (by simp[hp])) hlt (h1 p hp)).symm
set_option maxHeartbeats 4000000 in
set_option maxRecDepth 100000 in
theorem add_any {M N:Nat}{A:AV}{r:List Val}{n:Int}(w:World)(hp:Pile w M N A)(hN:N≤1000000)(hA:Rises A)(hr:GoodR r)(hb: -1099511627776≤lookA A r∧lookA A r≤1099511627776)(hn: -1099511627776≤n∧n≤1099511627776):
 Calls Tryz.prog 71 #[.map (some M),.string (str (keyRow r)),.int .i64 n] w fun e w'=>e= .returned (.int .i64 (addR A r n).2)∧Pile w' M (N+1) (addR A r n).1∧w.grownBy w' (some M):=by
 obtain⟨k,hk,hown⟩:=hp;have HK:=Lib.hid (keyS hr);have hat0:=mkD_at hA.good hr;have hhas:=mkD_has hA.good hr;have hput:=fun m=>mkD_put (n:=m) hA hr
 have HPD:=Lib.hid (fun m=>show((mkD A).put (kOf r) (.lit (.int .i64 m))).del (kOf r)=mkD (delA A r)from by
  rw[hput m,mkD_del (rises_put hA hr) hr,del_put hA hr])
 have HPUT:=Lib.hid hput;have HH:=Lib.hid hhas;have HSZ:=Lib.hid (mkD_size A);have HR:Hid (addR A r n=if lookA A r+n<0 then(A,9)else if 1073741824<lookA A r+n∨(hasA A r=false∧0<lookA A r+n∧A.length=4096)then(A,2)else if lookA A r+n=0 then(delA A r,0)else(putA A r (lookA A r+n),0)):=Lib.hid rfl;generalize addR A r n=R at HR⊢;obtain⟨c,hrun,hat,-⟩:=hown.lookup_int (t:=105) lawS Tryz.underlying105 Tryz.underlying3 (zeroS _) HK.out;obtain rfl:=lit_inj (hat.symm.trans hat0);generalize lookA A r=c at hrun hb HR HPUT;generalize hasA A r=b at HH HR
 have hlen: ∀ty,(Builtin.len_ #[105] ty #[.map (some M)]).run Tryz.prog w= .ok (.int .i64 A.length) w:=fun ty=>by
  have:=hown.len (t:=105) (e:=3) Tryz.underlying105 ty;rw[HSZ.out]at this;exact this
 have HWN:=Lib.hid (show(Lit.int .i64 (c+n)).wf=true from wf_of (by omega));have hkk:k<maxLen:=by unfold maxLen;omega
 have HKK:=Lib.hid hkk;clear hat hat0 hhas hput hA hr hkk;generalize str (keyRow r)=s at HK hrun⊢;by_cases h1:c+n<0
 ·have EE:=Lib.hid (HR.out.trans (if_pos h1))
  go_enter Tryz.func71,Tryz.ntmps71
  go_wp2;go_ret;exact⟨ret_int (by rw[EE.out]),⟨k,by omega,by rw[EE.out];exact hown⟩,World.grownBy.refl w _⟩
 ·have HR2:=Lib.hid (HR.out.trans (if_neg h1))
  clear HR;by_cases h2:1073741824<c+n
  ·have EE:=Lib.hid (HR2.out.trans (if_pos (.inl h2)))
   clear HR2;go_enter Tryz.func71,Tryz.ntmps71
   go_wp2_with (at_lookup;refine wpList_lookup_own_ok_int _ rfl _ _ 105 rfl 9 3 .i64 lawS Tryz.underlying105 Tryz.underlying3 (zeroS _) M k _ rfl hown _ _ rfl HK.out ?_;intro c2 hat2 hwc2;rw[HH.out];clear hat2 hwc2)
   go_ret;exact⟨ret_int (by rw[EE.out]),⟨k,by omega,by rw[EE.out];exact hown⟩,World.grownBy.refl w _⟩
  ·cases b
   ·by_cases h3:0<c+n
    ·by_cases h4:A.length=4096
     ·have EE:=Lib.hid (HR2.out.trans (if_pos (.inr ⟨rfl,h3,h4⟩)))
      have hb4:((A.length:Int)==4096)=true:=by simp[h4]
      clear HR2 h4;go_enter Tryz.func71,Tryz.ntmps71
      go_wp2_with (first
       |(at_lookup;refine wpList_lookup_own_ok_int _ rfl _ _ 105 rfl 9 3 .i64 lawS Tryz.underlying105 Tryz.underlying3 (zeroS _) M k _ rfl hown _ _ rfl HK.out ?_;intro c2 hat2 hwc2;rw[HH.out];clear hat2 hwc2))
      go_ret;exact⟨ret_int (by rw[EE.out]),⟨k,by omega,by rw[EE.out];exact hown⟩,World.grownBy.refl w _⟩
     ·have hz: ¬c+n=0:=by omega
      have EE:=Lib.hid (HR2.out.trans ((if_neg (by rintro(h|⟨-,-,h⟩);exact h2 h;exact h4 h)).trans (if_neg hz)));have hb4:((A.length:Int)==4096)=false:=by simp;omega
      have hbz:=beqF hz;clear HR2 h4 hz;go_enter Tryz.func71,Tryz.ntmps71
      go_wp2_with (first
       |(at_lookup;refine wpList_lookup_own_ok_int _ rfl _ _ 105 rfl 9 3 .i64 lawS Tryz.underlying105 Tryz.underlying3 (zeroS _) M k _ rfl hown _ _ rfl HK.out ?_;intro c2 hat2 hwc2;rw[HH.out];clear hat2 hwc2)
       |(at_mapUpdate;refine wpList_mapUpdate_own _ rfl _ _ _ 105 rfl 9 3 lawS Tryz.underlying105 _ M k _ rfl hown HKK.out _ _ _ rfl rfl HK.out _ [] (plainElem_int Tryz.underlying3 HWN.out) ?_;intro w1 hown1 hgrow1;clear hrun))
      go_ret;exact⟨ret_int (by rw[EE.out]),⟨k+1,by omega,by rw[EE.out];have h:=hown1;rw[HPUT.out]at h;exact h⟩,hgrow1⟩
    ·have hz:c+n=0:=by omega
     have EE:=Lib.hid (HR2.out.trans ((if_neg (by rintro(h|⟨-,h,-⟩);exact h2 h;exact h3 h)).trans (if_pos hz)));have hbz:=beqT hz;clear HR2 hz;go_enter Tryz.func71,Tryz.ntmps71
     go_wp2_with (first
      |(at_lookup;refine wpList_lookup_own_ok_int _ rfl _ _ 105 rfl 9 3 .i64 lawS Tryz.underlying105 Tryz.underlying3 (zeroS _) M k _ rfl hown _ _ rfl HK.out ?_;intro c2 hat2 hwc2;rw[HH.out];clear hat2 hwc2)
      |(at_mapUpdate;refine wpList_mapUpdate_own _ rfl _ _ _ 105 rfl 9 3 lawS Tryz.underlying105 _ M k _ rfl hown HKK.out _ _ _ rfl rfl HK.out _ [] (plainElem_int Tryz.underlying3 HWN.out) ?_;intro w1 hown1 hgrow1;clear hrun)
      |(at_delete;refine wpList_delete_own _ rfl _ _ 105 9 rfl 3 lawS Tryz.underlying105 _ M (k+1) _ rfl hown1 _ _ rfl HK.out ?_;intro w2 hown2 hturn2))
     go_ret;exact⟨ret_int (by rw[EE.out]),⟨k+1,by omega,by rw[EE.out];have h:=hown2;rw[HPD.out]at h;exact h⟩,hgrow1.andThen hturn2.grown (fun j hj=> .inr hj)⟩
   ·by_cases hz:c+n=0
    ·have EE:=Lib.hid (HR2.out.trans ((if_neg (by rintro(h|⟨h,-⟩);exact h2 h;exact absurd h (by decide))).trans (if_pos hz)))
     have hbz:=beqT hz;clear HR2 hz;go_enter Tryz.func71,Tryz.ntmps71
     go_wp2_with (first
      |(at_lookup;refine wpList_lookup_own_ok_int _ rfl _ _ 105 rfl 9 3 .i64 lawS Tryz.underlying105 Tryz.underlying3 (zeroS _) M k _ rfl hown _ _ rfl HK.out ?_;intro c2 hat2 hwc2;rw[HH.out];clear hat2 hwc2)
      |(at_mapUpdate;refine wpList_mapUpdate_own _ rfl _ _ _ 105 rfl 9 3 lawS Tryz.underlying105 _ M k _ rfl hown HKK.out _ _ _ rfl rfl HK.out _ [] (plainElem_int Tryz.underlying3 HWN.out) ?_;intro w1 hown1 hgrow1;clear hrun)
      |(at_delete;refine wpList_delete_own _ rfl _ _ 105 9 rfl 3 lawS Tryz.underlying105 _ M (k+1) _ rfl hown1 _ _ rfl HK.out ?_;intro w2 hown2 hturn2))
     go_ret;exact⟨ret_int (by rw[EE.out]),⟨k+1,by omega,by rw[EE.out];have h:=hown2;rw[HPD.out]at h;exact h⟩,hgrow1.andThen hturn2.grown (fun j hj=> .inr hj)⟩
    ·have EE:=Lib.hid (HR2.out.trans ((if_neg (by rintro(h|⟨h,-⟩);exact h2 h;exact absurd h (by decide))).trans (if_neg hz)))
     have hbz:=beqF hz;clear HR2 hz;go_enter Tryz.func71,Tryz.ntmps71
     go_wp2_with (first
      |(at_lookup;refine wpList_lookup_own_ok_int _ rfl _ _ 105 rfl 9 3 .i64 lawS Tryz.underlying105 Tryz.underlying3 (zeroS _) M k _ rfl hown _ _ rfl HK.out ?_;intro c2 hat2 hwc2;rw[HH.out];clear hat2 hwc2)
      |(at_mapUpdate;refine wpList_mapUpdate_own _ rfl _ _ _ 105 rfl 9 3 lawS Tryz.underlying105 _ M k _ rfl hown HKK.out _ _ _ rfl rfl HK.out _ [] (plainElem_int Tryz.underlying3 HWN.out) ?_;intro w1 hown1 hgrow1;clear hrun))
     go_ret;exact⟨ret_int (by rw[EE.out]),⟨k+1,by omega,by rw[EE.out];have h:=hown1;rw[HPUT.out]at h;exact h⟩,hgrow1⟩
end Go.Proofs.YtjhbeecmdgglgaaGreatDoor
namespace Go.Proofs.YtjhbeecmdgglgaaGreatDoor
open Go.RowKit Go.Maps
theorem map_below {w w':World}{M n:Nat}{D:DataW Unit}(h:w.ownsMap Tryz.prog 9 (plainElem (H:=Unit) Tryz.prog 3) M n D)(hb:Below w.heap.size w w'):w'.ownsMap Tryz.prog 9 (plainElem (H:=Unit) Tryz.prog 3) M n D:=by
 have hl:=h.lt;obtain⟨es,clock,h1,r⟩:=h;exact⟨es,clock,(hb.block M hl).trans h1,r⟩
theorem Pile.below {w w':World}{M N:Nat}{A:AV}(h:Pile w M N A)(hb:Below w.heap.size w w'):Pile w' M N A:=by
 obtain⟨n,hn,ho⟩:=h;exact⟨n,hn,map_below ho hb⟩
theorem Pile.lt {w:World}{M N:Nat}{A:AV}(h:Pile w M N A):M<w.heap.size:=by
 obtain⟨n,hn,ho⟩:=h;exact ho.lt
theorem put_last {A:AV}{r:List Val}{n:Int}(h:Rises (A++[(r,n)])):putA A r n=A++[(r,n)]:=by
 induction A with
 |nil=>rfl
 |cons x t ih=>
  obtain⟨x,m⟩:=x;obtain⟨h1,-⟩:=List.pairwise_cons.1 h.rise;have:=h1 (r,n) (by simp);simp only at this;unfold putA;rw[if_neg (by omega),if_pos this,ih h.tail];rfl
theorem rises_take {A:AV}(h:Rises A)(k:Nat):Rises (A.take k):=⟨fun p hp=>h.good p (List.mem_of_mem_take hp),h.rise.sublist (List.take_sublist k A)⟩
set_option maxHeartbeats 4000000 in
set_option maxRecDepth 100000 in
theorem of_any (v:Value)(l:List Cnt)(w:World)(h:View w v l)(hf:FineV l)(hg:GoodV l)(hm:Mx w):
 Calls Tryz.prog 70 #[v] w fun e w'=> ∃M,e= .returned (.map (some M))∧w.heap.size≤M∧Pile w' M 4096 (av l)∧Below w.heap.size w w':=by
 have hmm:= @run_makeMap Tryz.prog;have HV:=Lib.hid h;have HF:=Lib.hid hf;have HM:=Lib.hid hm;have HG:=Lib.hid hg;have hl:=hg.few;have HR:=Lib.hid hg.rises;have HN:=Lib.hid hg.nums;obtain⟨A,c,rfl,h1,h2,-⟩:=h.sl;clear h hf hm hg;unfold maxLen at h2;have hB:=below_alloc w (.map #[] 0);have HO:=Lib.hid (World.ownsMap_made w Tryz.prog 9 (plainElem (H:=Unit) Tryz.prog 3));go_enter Tryz.func70,Tryz.ntmps70
 go_wp2_with fail
 go_loopw[5,6,7,11] (fun _ _ _ i wr=> ∃k n:Nat,k≤l.length∧n≤k∧i= .int .i64 k∧wr.ownsMap Tryz.prog 9 (plainElem (H:=Unit) Tryz.prog 3) w.heap.size n (mkD ((av l).take k))∧Below w.heap.size w wr) (fun _ _ _ i _=>l.length-(intOf i).toNat)
 case atStart=>exact⟨0,0,by omega,by omega,rfl,HO.out,hB⟩
 case round=>
  obtain⟨k,n,hk,hnk,rfl,hown,hbw⟩:=hrel;by_cases hlt:k<l.length
  ·have hx:=List.getElem?_eq_getElem (l:=l) hlt
   generalize l[k]=x at hx;obtain⟨g,off,rfl,-,hc⟩:=cnt_at HV.out.sl rfl hx;obtain⟨d1,d2⟩:=hc _ hbw;have hmem:=List.mem_of_getElem? hx;have HRW:=Lib.hid (HV.out.rows x hmem);have HFX:=Lib.hid (HF.out.rows x hmem);have hxa:(av l)[k]?=some (x.r,x.n):=by unfold av;rw[List.getElem?_map,hx];rfl
   have HGX:=Lib.hid (HR.out.good _ (List.mem_of_getElem? hxa));have hxn:=HN.out _ (List.mem_of_getElem? hxa);have HT:=Lib.hid (show(av l).take (k+1)=(av l).take k++[(x.r,x.n)]from by rw[List.take_add_one,hxa];rfl);clear hx hc hmem hxa;obtain⟨xv,xr,xn⟩:=x;simp only at d1 d2 HRW HFX hxn HGX HT;obtain⟨Ax,cx,rfl,-⟩:=id HRW.out;have hbw2:=hbw.alloc hbw.size (.cells #[.slice Ax xr.length cx,.int .i64 xn] 45);have HSX:=Lib.hid (HRW.out.below hbw2);have kb:=(Blk.new wr 45 #[.slice Ax xr.length cx,.int .i64 xn]);have hown2:=hown.alloc (.cells #[.slice Ax xr.length cx,.int .i64 xn] 45)
   have HKE:Hid (keyR xr=(str (keyRow xr),0)):=by
    have h8:=HGX.out.few
    have:keyErr xr=0:=by
     have hz:firstNZ (xr.map checkV)=0:=firstNZ_none (by intro y hy;obtain⟨z,hz,rfl⟩:=List.mem_map.1 hy;exact(HGX.out.good z hz).1);unfold keyErr;rw[if_neg (by omega),hz]
    exact Lib.hid (if_neg (by rw[this];simp))
   have HK:=Lib.hid (keyS HGX.out);have HRT:=Lib.hid (rises_take HR.out k)
   have HPUT:=Lib.hid (show(mkD ((av l).take k)).put (kOf xr) (.lit (.int .i64 xn))=mkD ((av l).take (k+1))from by
    rw[mkD_put HRT.out HGX.out,put_last (by rw[←HT.out];exact rises_take HR.out (k+1)),←HT.out])
   have HWN:=Lib.hid (show(Lit.int .i64 xn).wf=true from wf_of (by omega));have HKK:=Lib.hid (show n<maxLen from by unfold maxLen;omega);generalize str (keyRow xr)=s at HKE HK;clear hown
   go_wp2_with fail
   refine(key_any _ xr _ HSX.out HFX.out (HM.out.below hbw2)).mono ?_;rw[HKE.out];rintro e w2 ⟨rfl,hb2⟩;have y1:=(kb.below hb2).cell 1 _ rfl;have hbw3:=below_trans hbw2 hb2;have hown3:=map_below hown2 hb2;clear hown2 hb2 kb hbw2
   go_wp2_with (at_mapUpdate;refine wpList_mapUpdate_own _ rfl _ _ _ 105 rfl 9 3 lawS Tryz.underlying105 _ w.heap.size n _ rfl hown3 HKK.out _ _ _ rfl rfl HK.out _ [] (plainElem_int Tryz.underlying3 HWN.out) ?_;intro w4 hown4 hgrow4)
   have hown5:w4.ownsMap Tryz.prog 9 (plainElem (H:=Unit) Tryz.prog 3) w.heap.size (n+1) (mkD ((av l).take (k+1))):=by rw[←HPUT.out];exact hown4
   have HO5:=Lib.hid hown5;have hbw4:=hbw3.grown hgrow4 hbw3.size (fun j hj=>by cases hj;exact Nat.le_refl _);clear hown4 hown5 hgrow4 hown3;go_roundw
   case rel=>exact⟨k+1,n+1,by omega,by omega,by go_num,HO5.out,hbw4⟩
   case measure=>simp[intOf];omega
  ·obtain rfl:k=l.length:=by omega
   have HO2:=Lib.hid hown;clear hown;go_wp2;go_ret;refine⟨_,rfl,Nat.le_refl _,⟨n,by omega,?_⟩,hbw⟩;have:=HO2.out;rwa[List.take_of_length_le (by unfold av;rw[List.length_map];omega)]at this
end Go.Proofs.YtjhbeecmdgglgaaGreatDoor
namespace Go.Proofs.YtjhbeecmdgglgaaGreatDoor
section
open Go.ChangeShapes Go.WideShapes Go.RowKit Go.Deep
section
variable {H:Type} {enc:TypeId×Value→H} {P:Program} {w:World} {base:Nat} {spare:Nat→Bool} {held:Bool}
theorem open_flatQ {t e:TypeId}{fuel:Nat}{cs:List Value}{x:DataW H×List MemPlace}{α:Type}{f:α→List Value}{Q:α→Prop}{size:Nat}(hf: ∀a,(f a).length=size)(h0:0<size)
 (ht:P.underlying t=some (.slice e)) (hC:P.cellsOf e=size) (hel: ∀fuel cs x,DataW.trod enc P w base spare held fuel e cs=some x→ ∃a,cs=f a∧Q a)
 (h:DataW.trod enc P w base spare held fuel t cs=some x): ∃(v:Value) (l:List α),cs=[v]∧Sl w v l.length (l.flatMap f)∧ ∀a∈l,Q a:=by
 obtain⟨v,l,e1,hs⟩:=open_flat (f:=fun a: {a// Q a}=>f a.1) (fun a=>hf a.1) h0 ht hC (fun fuel cs x h=>by obtain⟨a,e,q⟩:=hel fuel cs x h;exact⟨⟨a,q⟩,e⟩) h;refine⟨v,l.map Subtype.val,e1,?_,?_⟩
 ·rw[List.length_map,List.flatMap_map];exact hs
 ·intro a ha
  obtain⟨b,-,rfl⟩:=List.mem_map.1 ha;exact b.2
end
theorem wf_i64 {n:Int}(h:(Lit.int .i64 n).wf=true): -9223372036854775808≤n∧n≤9223372036854775807:=by
 have h':IntKind.i64.min≤n∧n≤9223372036854775807:=by simpa[Lit.wf]using h
 have e:IntKind.i64.min= -9223372036854775808:=by decide
 rw[e]at h';exact h'
section
variable {H:Type} {enc:TypeId×Value→H} {w:World} {base:Nat} {spare:Nat→Bool} {held:Bool}
set_option maxRecDepth 100000 in
theorem val_trod (fuel:Nat)(cs:List Value)(x:DataW H×List MemPlace)(h:DataW.trod enc Tryz.prog w base spare held fuel 68 cs=some x): ∃v:Val,cs=v.cells∧v.ok:=by
 have hC:Tryz.prog.cellsOf 68=3:=by kernel_rfl
 have hi:Tryz.prog.cellsOf 3=1:=by kernel_rfl
 have hs:Tryz.prog.cellsOf 9=1:=by kernel_rfl
 obtain⟨y0,y1,y2,n,-,hl,h0,h1,h2⟩:=Go.Deep.trod_struct3 Tryz.underlying68 h;rw[hC]at hl;simp only[hs,hi]at h0 h1 h2;obtain⟨s0,e0,-,q0⟩:=DataW.trod_int Tryz.underlying3 h0;obtain⟨s1,e1,-,q1⟩:=DataW.trod_int Tryz.underlying3 h1;obtain⟨s2,e2,-,q2⟩:=DataW.trod_string Tryz.underlying9 h2
 match cs,hl with
 |[a,b,c],_=>
  simp at e0 e1 e2;subst e0 e1 e2;have b0:=wf_i64 q0;have b1:=wf_i64 q1;unfold maxLen at q2;exact⟨⟨s0,s1,s2⟩,rfl,b0.1,b0.2,b1.1,b1.2,q2⟩
set_option maxRecDepth 100000 in
theorem open_val {r:Reach}{b0:Nat}{v:Value}{d:DataW H}{p:List MemPlace}(hv:Value.okWide Tryz.prog w r b0 68 v)(h:DataW.Trod enc Tryz.prog w base spare held 68 v d p):
 ∃x:Val,v= .agg #[.int .i64 x.k,.int .i64 x.n,.string x.s]∧x.ok:=by
 obtain⟨cs,rfl,-⟩:=okWide_struct Tryz.underlying68 hv;obtain⟨fuel,hf⟩:=h;obtain⟨x,e,hx⟩:=val_trod _ _ _ hf;refine⟨x,?_,hx⟩;have:cs.toList=[.int .i64 x.k,.int .i64 x.n,.string x.s]:=e;rw[←Array.toArray_toList (xs:=cs),this]
set_option maxRecDepth 100000 in
theorem open_row {r:Reach}{b0:Nat}{v:Value}{d:DataW H}{p:List MemPlace}(hv:Value.okWide Tryz.prog w r b0 43 v)(h:DataW.Trod enc Tryz.prog w base spare held 43 v d p):
 ∃l:List Val,Sl w v l.length (rowCells l)∧Fine l:=by
 obtain⟨a,len,cap,rfl⟩:=okWide_slice Tryz.underlying43 hv;obtain⟨fuel,hf⟩:=h;obtain⟨u,l,e,hsl,hq⟩:=open_flatQ (f:=Val.cells) (Q:=Val.ok) (size:=3) Val.cells_len (by omega) Tryz.underlying43 (by kernel_rfl) val_trod hf;have:(Value.slice a len cap)=u:=by simpa[Value.cells]using e
 rw[this];exact⟨l,hsl,⟨fun x hx=>(hq x hx).2.2.2.2,fun x hx=>⟨(hq x hx).2.2.1,(hq x hx).2.2.2.1⟩⟩⟩
end
theorem reach_str {H:Type}{P:Program}{ts:List TypeId}{ds:List (DataW H)}(h:(DataW.weightsEach P ts ds).all (· ≤reachBytes)=true)(j:Nat)(t:TypeId)(s:ByteArray)(ht:ts[j]?=some t)(hd:ds[j]?=some (.lit (.string s.data.toList))):s.size≤140737488351232:=by
 have h2:=sized_string h ht hd;have hsl:s.data.toList.length=s.size:=by rw[Array.length_toList];rfl
 rw[hsl]at h2;simpa[reachBytes]using h2
section
variable {H:Type} {enc:TypeId×Value→H} {P:Program} {w:World} {base:Nat} {spare:Nat→Bool} {held:Bool}
theorem struct_one {ts:TypeId}{fs:Array Field}{fuel:Nat}{cs:List Value}{x:DataW H×List MemPlace}(hs:P.underlying ts=some (.struct fs))
 (hone: ∀(i:Nat) (f:Field),fs[i]?=some f→f.offset=i∧P.cellsOf f.type=1) (hC:P.cellsOf ts=fs.size) (h:DataW.trod enc P w base spare held fuel ts cs=some x):
 ∃n,cs.length=fs.size∧ ∀(i:Nat) (f:Field),fs[i]?=some f→ ∃y,DataW.trod enc P w base spare held n f.type [cs.getD i undef]=some y:=by
 obtain⟨xs,n,_,rfl,hl,hxl,hf⟩:=DataW.trod_struct hs h;rw[hC]at hl;refine⟨n,hl,fun i f hi=> ?_⟩;have hlt:i<fs.size:=(Array.getElem?_eq_some_iff.1 hi).1;obtain⟨ho,hc1⟩:=hone i f hi;have g:=hf i f hi;rw[ho,hc1,take1_drop cs i undef (by omega),List.getElem?_eq_getElem (by omega)]at g;exact⟨_,g⟩
end
end
end Go.Proofs.YtjhbeecmdgglgaaGreatDoor
namespace Go.Proofs.YtjhbeecmdgglgaaGreatDoor
end Go.Proofs.YtjhbeecmdgglgaaGreatDoor
namespace Go.Proofs.YtjhbeecmdgglgaaGreatDoor
open Go.RowKit
theorem cntI:EInfo Tryz.prog 45 2 32:=by
 have h:(Tryz.prog.info? 45).map (fun i=>(i.zero,i.size,i.bytes))=some (some (.agg #[.slice none 0 0,.int .i64 0]),2,32):=by kernel_rfl
 obtain⟨i,hi,h1,h2,h3⟩:=info_parts h;exact⟨i,_,hi,h1,h2,h3,rfl,by omega⟩
theorem cntCells_len (l:List Cnt):(cntCells l).length=l.length*2:=flat_len Cnt.cells_len l
set_option maxHeartbeats 1000000 in
set_option maxRecDepth 10000 in
theorem copy_any (v:Value)(l:List Val)(w:World)(h:Sl w v l.length (rowCells l))(h8:l.length≤8):
 Calls Tryz.prog 68 #[v] w fun e w'=> ∃v',e= .returned v'∧Sl w' v' l.length (rowCells l)∧(∀k,v'.ownBlock=some k→w.heap.size≤k∧k<w'.heap.size)∧Below w.heap.size w w':=by
 have HH:=Lib.hid h;obtain⟨A,c,rfl,h1,h2,-⟩:=h;clear h2;have HO:=Lib.hid (own_emptyT w w.heap.size 68 3 (Nat.le_refl _));have hB:=below_alloc w (.cells #[] 68);have HS:=Lib.hid (HH.out.below hB);go_enter Tryz.func68,Tryz.ntmps68
 go_wp2_with (at_builtin;refine wpList_app rfl (.tmp 3) (.tmp 4) 43 rfl w.heap.size 68 3 32 Tryz.underlying43 valJ _ 0 _ rfl HO.out _ l.length (rowCells l) rfl HS.out (rowCells_len l) (rowCells_one l) ?_ ?_ ?_ ?_)
 ·unfold maxLen;omega
 ·omega
 ·exact hB.size
 ·intro v2 w3 hown3 hg3 hat3
  have hb3:=below_grown hB hg3 (own_ge HO.out);have S3:Hid (Sl w3 v2 l.length (rowCells l)):=Lib.hid (by have:=Sl.of_own hown3;simpa using this);have G3:=Lib.hid (fun k hk=>And.intro (own_ge hown3 k hk) (own_lt hown3 k hk));clear hown3 hg3 hat3;go_wp2;go_ret;exact⟨_,rfl,S3.out,G3.out,hb3⟩
structure OwnV (w:World) (base:Nat) (v:Value) (l:List Cnt):Prop where
 own:w.ownsRow base 45 2 v l.length (cntCells l)
 rows: ∀c∈l,Sl w c.v c.r.length (rowCells c.r)
 far: ∀c∈l,∀k,c.v.ownBlock=some k→k<w.heap.size∧v.ownBlock≠some k
theorem OwnV.view {w:World}{base:Nat}{v:Value}{l:List Cnt}(h:OwnV w base v l):View w v l:=⟨Sl.of_own h.own,h.rows⟩
theorem OwnV.below {w w':World}{base:Nat}{v:Value}{l:List Cnt}(h:OwnV w base v l)(hb:Below w.heap.size w w'):OwnV w' base v l:=
 ⟨own_below h.own hb,fun c hc=>(h.rows c hc).below hb,fun c hc k hk=>⟨Nat.lt_of_lt_of_le (h.far c hc k hk).1 hb.size,(h.far c hc k hk).2⟩⟩
theorem OwnV.nil (w:World)(base:Nat):OwnV w base (.slice none 0 0) []:=⟨⟨rfl,.inl ⟨rfl,rfl⟩⟩,nofun,nofun⟩
theorem cntCells_app (a b:List Cnt):cntCells (a++b)=cntCells a++cntCells b:=List.flatMap_append
theorem OwnV.snoc {w w':World}{base:Nat}{v v':Value}{l:List Cnt}{c:Cnt}(h:OwnV w base v l)(hown:w'.ownsRow base 45 2 v' (l.length+1) (cntCells l++c.cells))(hg:w.grownBy w' v.ownBlock)(hat:v'.ownBlock=v.ownBlock∨v'.ownBlock=some w.heap.size)
 (hc:Sl w c.v c.r.length (rowCells c.r)) (hf: ∀k,c.v.ownBlock=some k→k<w.heap.size∧v.ownBlock≠some k):OwnV w' base v' (l++[c]):=by
 have hfar: ∀d∈l++[c],Sl w d.v d.r.length (rowCells d.r)∧ ∀k,d.v.ownBlock=some k→k<w.heap.size∧v.ownBlock≠some k:=by
  intro d hd;rcases List.mem_append.1 hd with hd|hd
  ·exact⟨h.rows d hd,h.far d hd⟩
  ·simp only[List.mem_singleton]at hd;subst hd;exact⟨hc,hf⟩
 refine⟨?_,fun d hd=>sl_grown (hfar d hd).1 hg (fun k hk=>((hfar d hd).2 k hk).2),fun d hd k hk=> ?_⟩
 ·rw[cntCells_app,List.length_append]
  simpa[cntCells]using hown
 ·obtain⟨h1,h2⟩:=(hfar d hd).2 k hk
  refine⟨Nat.lt_of_lt_of_le h1 hg.size,?_⟩;rcases hat with hat|hat
  ·rw[hat];exact h2
  ·rw[hat];intro e;injection e with e;omega
end Go.Proofs.YtjhbeecmdgglgaaGreatDoor
