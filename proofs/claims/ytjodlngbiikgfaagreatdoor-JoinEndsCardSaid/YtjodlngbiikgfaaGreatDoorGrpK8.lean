/-Plans: unlike. Plans: typesFine, form. Plans: form. Plans: Check. Plans: Out, and the reference's OutOf. Plans: the reference's wrongMany, once, Types -/
import Derived.Test.YtjodlngbiikgfaaGreatDoorGrpK7
import Derived.Laws.EntriesVeiled
set_option linter.unusedSimpArgs false
set_option linter.unusedVariables false
namespace Go.Proofs.YtjodlngbiikgfaaGreatDoor
open Go.RowKit Go.Maps
def unlR (n:Int) (seen:List Int):List Int→Bool
 |[]=>true
 |x::r=>(btw x 0 (n-1)&&seen.count x==0)&&unlR n (seen++[x]) r
def unlikeB (l:List Int) (n:Int):Bool:=unlR n [] l
theorem unl_step {l:List Int}{n x:Int}{k:Nat}(hk:l[k]?=some x):unlR n (l.take k) (l.drop k)=((btw x 0 (n-1)&&(l.take k).count x==0)&&unlR n (l.take (k+1)) (l.drop (k+1))):=by
 obtain⟨hlt,rfl⟩:=List.getElem?_eq_some_iff.1 hk;rw[List.drop_eq_getElem_cons hlt,unlR,List.take_add_one,hk];rfl
theorem unl_end {l:List Int}{n:Int}:unlR n (l.take l.length) (l.drop l.length)=true:=by rw[List.drop_length];rfl
def Counts (D:DataW Unit) (l:List Int):Prop:=IsMap D∧ ∀y:Int,(Lit.int .i64 y).wf=true→D.atKey (.int .i64 y) (.lit (.int .i64 0))= .lit (.int .i64 (l.count y:Nat))
theorem wf_of {x:Int}(h: -9223372036854775808≤x∧x≤9223372036854775807):(Lit.int .i64 x).wf=true:=by
 have e:IntKind.i64.min= -9223372036854775808:=by decide
 simp only[Lit.wf,e];simpa using h
theorem counts_none:Counts (.map []) []:=⟨⟨[],rfl⟩,fun _ _=>rfl⟩
theorem isKey_int (x:Int):WideAt.IsKeyLit (.int .i64 x):=trivial
theorem isMap_put {D:DataW Unit}(h:IsMap D)(k:Lit)(d:DataW Unit):IsMap (D.put k d):=by
 obtain⟨es,rfl⟩:=h;exact⟨_,rfl⟩
theorem counts_put {D:DataW Unit}{l:List Int}{x:Int}(h:Counts D l):Counts (D.put (.int .i64 x) (.lit (.int .i64 ((l.count x:Nat)+1:Int)))) (l++[x]):=by
 refine⟨isMap_put h.1 _ _,fun y hy=> ?_⟩;by_cases e:y=x
 ·subst e
  rw[atKey_put_same h.1 (isKey_int y)];simp
 ·rw[atKey_put_other (by intro h;injection h with _ h;exact e h),h.2 y hy]
  have:List.count y [x]=0:=by rw[List.count_eq_zero];simpa using e
  rw[List.count_append,this,Nat.add_zero]
theorem lit_inj {a b:Int}(h:(DataW.lit (.int .i64 a):DataW Unit)= .lit (.int .i64 b)):a=b:=by
 injection h with h;injection h
theorem lawI:Keyed Tryz.prog 3:=int_keyed Tryz.underlying3
theorem zeroI (w:World):(zeroValue 3).run Tryz.prog w= .ok (.int .i64 0) w:=by kernel_rfl
set_option maxHeartbeats 2000000 in
set_option maxRecDepth 100000 in
theorem unlOne_any {x n:Int}{bm bn M k:Nat}{D:DataW Unit}{l:List Int}(w:World)(K1:Blk w bm 87 #[.map (some M)])(K2:Blk w bn 3 #[.int .i64 n])(hown:w.ownsMap Tryz.prog 3 (plainElem Tryz.prog 3) M k D)(hk:k≤1000)(hD:Counts D l)(hl:l.length≤1000)
 (hx: -9223372036854775808≤x∧x≤9223372036854775807) (n1:bm≠M) (n2:bn≠M):
 Calls Tryz.prog 167 #[.int .i64 x,.pointer (some ⟨bm,0,none⟩),.pointer (some ⟨bn,0,none⟩)] w fun e w'=>e= .returned (.bool (btw x 0 (n-1)&&l.count x==0))∧
  w'.ownsMap Tryz.prog 3 (plainElem Tryz.prog 3) M (k+1) (D.put (.int .i64 x) (.lit (.int .i64 ((l.count x:Nat)+1:Int))))∧w.grownBy w' (some M):=by
 have hwf:=wf_of hx;have hkey:keyOf Tryz.prog 3 (.int .i64 x)=some (.int .i64 x):=keyOf_int_mk Tryz.underlying3 hwf;obtain⟨c,hrun,hat,-⟩:=hown.lookup_int (t:=87) lawI Tryz.underlying87 Tryz.underlying3 (zeroI _) hkey
 have hc:c=(l.count x:Nat):=by
  have:=hat.symm.trans (hD.2 x hwf);injection this with this;injection this
 subst hc;have hcl:l.count x≤1000:=Nat.le_trans (List.count_le_length) hl;have hput:=atKey_put_same (D:=D) hD.1 (isKey_int x) (.lit (.int .i64 ((l.count x:Nat)+1:Int))) (.lit (.int .i64 0));have HP:=Lib.hid hput;have HK:=Lib.hid hkey;have z1:=K1.cell 0 _ rfl;have z2:=K2.cell 0 _ rfl;have m1:some M≠some bm:=fun h=>n1 (Option.some.inj h).symm;have m2:some M≠some bn:=fun h=>n2 (Option.some.inj h).symm;have HM1:=Lib.hid m1;have HM2:=Lib.hid m2;have hwc:(Lit.int .i64 ((l.count x:Nat)+1:Int)).wf=true:=wf_of (by omega);have HW:=Lib.hid hwc;generalize l.count x=q at hrun hcl HP HW⊢;have hkk:k<maxLen:=by unfold maxLen;omega
 have HKK:=Lib.hid hkk;clear hat hput hkey hwf m1 m2 hwc hD hkk n1 n2;by_cases h1:0≤x
 ·by_cases h2:x<n
  ·have E:Hid ((btw x 0 (n-1)&&q==0)=(q==0)):=Lib.hid (by rw[btw_yes h1 (by omega)];rfl)
   go_enter Tryz.func167,Tryz.ntmps167
   go_wp2_with (at_mapUpdate;refine wpList_mapUpdate_own _ rfl _ _ _ 87 rfl 3 3 lawI Tryz.underlying87 _ M k _ rfl hown HKK.out _ _ _ rfl rfl HK.out _ [] (plainElem_int Tryz.underlying3 HW.out) ?_;intro w1 hown1 hgrow1
                have y1:=(K1.grown hgrow1 HM1.out).cell 0 _ rfl;have y2:=(K2.grown hgrow1 HM2.out).cell 0 _ rfl;obtain⟨c2,hrun2,hat2,-⟩:=hown1.lookup_int (t:=87) lawI Tryz.underlying87 Tryz.underlying3 (zeroI _) HK.out
                have hc2:(c2==1)=(q==0):=by
                 have hcc:=lit_inj (hat2.symm.trans HP.out);rw[hcc,Bool.eq_iff_iff];simp;omega
                clear hrun hat2)
   go_ret;exact⟨ret_bool (by rw[E.out]),hown1,hgrow1⟩
  ·have E:Hid ((btw x 0 (n-1)&&q==0)=false):=Lib.hid (by rw[btw_no (by omega)];rfl)
   go_enter Tryz.func167,Tryz.ntmps167
   go_wp2_with (at_mapUpdate;refine wpList_mapUpdate_own _ rfl _ _ _ 87 rfl 3 3 lawI Tryz.underlying87 _ M k _ rfl hown HKK.out _ _ _ rfl rfl HK.out _ [] (plainElem_int Tryz.underlying3 HW.out) ?_;intro w1 hown1 hgrow1
                have y1:=(K1.grown hgrow1 HM1.out).cell 0 _ rfl;have y2:=(K2.grown hgrow1 HM2.out).cell 0 _ rfl;clear hrun)
   go_ret;exact⟨ret_bool (by rw[E.out]),hown1,hgrow1⟩
 ·have E:Hid ((btw x 0 (n-1)&&q==0)=false):=Lib.hid (by rw[btw_no (by omega)];rfl)
  go_enter Tryz.func167,Tryz.ntmps167
  go_wp2_with (at_mapUpdate;refine wpList_mapUpdate_own _ rfl _ _ _ 87 rfl 3 3 lawI Tryz.underlying87 _ M k _ rfl hown HKK.out _ _ _ rfl rfl HK.out _ [] (plainElem_int Tryz.underlying3 HW.out) ?_;intro w1 hown1 hgrow1
               have y1:=(K1.grown hgrow1 HM1.out).cell 0 _ rfl;have y2:=(K2.grown hgrow1 HM2.out).cell 0 _ rfl;clear hrun)
  go_ret;exact⟨ret_bool (by rw[E.out]),hown1,hgrow1⟩
set_option maxHeartbeats 2000000 in
set_option maxRecDepth 100000 in
theorem allUnl_any {v:Value}{l:List Int}{n:Int}{B bm bn M:Nat}(w:World)(hs: ∀wr,Below B w wr→Sl wr v l.length (intCells l))(K1:Blk w bm 87 #[.map (some M)])(K2:Blk w bn 3 #[.int .i64 n])
 (hown:w.ownsMap Tryz.prog 3 (plainElem (H:=Unit) Tryz.prog 3) M 0 (.map [])) (hB:B≤M) (hB2:B≤w.heap.size) (n1:bm≠M) (n2:bn≠M) (hl:l.length≤1000) (hr: ∀x∈l,-9223372036854775808≤x∧x≤9223372036854775807):
 Calls Tryz.prog 129 #[v,.func (.func 167) #[] #[.pointer (some ⟨bm,0,none⟩),.pointer (some ⟨bn,0,none⟩)]] w fun e w'=>e= .returned (.bool (unlikeB l n))∧Below B w w':=by
 have HS:=Lib.hid hs;have HR:=Lib.hid hr;obtain⟨A,c,rfl,h1,h2,-⟩:=hs w (Below.refl _ _);have m1:some M≠some bm:=fun h=>n1 (Option.some.inj h).symm;have m2:some M≠some bn:=fun h=>n2 (Option.some.inj h).symm;have HM1:=Lib.hid m1;have HM2:=Lib.hid m2;have HN1:=Lib.hid n1;have HN2:=Lib.hid n2;have HO:=Lib.hid hown;clear hs hr m1 m2 n1 n2 hown;go_enter Tryz.func129,Tryz.ntmps129
 go_wp2
 go_loopw[6,9] (fun _ i wr=> ∃(k:Nat) (D:DataW Unit),k≤l.length∧i= .int .i64 k∧Hid (unlikeB l n=unlR n (l.take k) (l.drop k))∧Hid (Counts D (l.take k))∧wr.ownsMap Tryz.prog 3 (plainElem (H:=Unit) Tryz.prog 3) M k D∧Blk wr bm 87 #[.map (some M)]∧Blk wr bn 3 #[.int .i64 n]∧Below B w wr)
  (fun _ i _=>l.length-(intOf i).toNat)
 case atStart=>exact⟨0,_,by omega,rfl,rfl,counts_none,HO.out,K1,K2,Below.refl _ _⟩
 case round=>
  obtain⟨k,D,hk,rfl,H,HD,hown,J1,J2,hbw⟩:=hrel;by_cases hlt:k<l.length
  ·obtain⟨b,off,rfl,-,hc⟩:=int_at (HS.out _ hbw) rfl hlt
   have c1:=hc _ (Below.refl _ _);have hg:l[k]?=some (l.getD k 0):=by simp[hlt]
   generalize l.getD k 0=x at c1 hg;have HX:=Lib.hid hg;have HRX:=Lib.hid (HR.out x (List.mem_of_getElem? hg));have HST:=Lib.hid (unl_step (n:=n) hg);have hty:(l.take k).length≤1000:=by rw[List.length_take];omega
   have HT:=Lib.hid (show l.take k++[x]=l.take (k+1)from by rw[List.take_add_one,hg];rfl);clear hg hc;cases hq:(btw x 0 (n-1)&&(l.take k).count x==0)
   ·have e1:=Lib.hid (show unlikeB l n=false from by rw[H.out,HST.out,hq];rfl)
    have HQ:=Lib.hid hq;clear hq
    go_wp2_with (go_at_call 167;refine(unlOne_any (n:=n) (l:=l.take k) _ J1 J2 hown (by omega) HD.out hty HRX.out HN1.out HN2.out).mono ?_;rw[HQ.out];rintro e w1 ⟨rfl,hown1,hg1⟩)
    go_ret;exact⟨ret_bool e1.out.symm,hbw.grown hg1 (Nat.le_trans hB2 hbw.size) (fun j hj=>by cases hj;exact hB)⟩
   ·have e1:=Lib.hid (show unlikeB l n=unlR n (l.take (k+1)) (l.drop (k+1))from by rw[H.out,HST.out,hq];rfl)
    have HQ:=Lib.hid hq;clear hq;have HC:=Lib.hid (counts_put (x:=x) HD.out)
    go_wp2_with (go_at_call 167;refine(unlOne_any (n:=n) (l:=l.take k) _ J1 J2 hown (by omega) HD.out hty HRX.out HN1.out HN2.out).mono ?_;rw[HQ.out];rintro e w1 ⟨rfl,hown1,hg1⟩)
    go_roundw
    case rel=>exact⟨k+1,_,by omega,by go_num,e1.out,(by have:=HC.out;rw[HT.out]at this;exact this),hown1,J1.grown hg1 HM1.out,J2.grown hg1 HM2.out,hbw.grown hg1 (Nat.le_trans hB2 hbw.size) (fun j hj=>by cases hj;exact hB)⟩
    case measure=>simp[intOf];omega
  ·obtain rfl:k=l.length:=by omega
   have e1:=Lib.hid (show unlikeB l n=true from by rw[H.out,unl_end]);go_wp2;go_ret;exact⟨ret_bool e1.out.symm,hbw⟩
set_option maxHeartbeats 2000000 in
set_option maxRecDepth 100000 in
theorem unlike_any (v:Value)(l:List Int)(n:Int)(w:World)(h:Sl w v l.length (intCells l))(hl:l.length≤1000)(hr: ∀x∈l,-9223372036854775808≤x∧x≤9223372036854775807):
 Calls Tryz.prog 132 #[v,.int .i64 n] w fun e w'=>e= .returned (.bool (unlikeB l n))∧Below w.heap.size w w':=by
 have hmm:= @run_makeMap Tryz.prog;have HH:=Lib.hid h;have HR:=Lib.hid hr;clear h hr;go_enter Tryz.func132,Tryz.ntmps132
 have K1:=new_second (w.alloc (.cells #[.int .i64 n] 3)) 87 #[.map (some (w.heap.size+1))] (.map #[] 0);have K2:=((Blk.new w 3 #[.int .i64 n]).alloc (.map #[] 0)).alloc (.cells #[.map (some (w.heap.size+1))] 87);have HO:=(World.ownsMap_made (w.alloc (.cells #[.int .i64 n] 3)) Tryz.prog 3 (plainElem (H:=Unit) Tryz.prog 3)).alloc (.cells #[.map (some (w.heap.size+1))] 87);have hB:=below_trans (below_trans (below_alloc w (.cells #[.int .i64 n] 3)) (below_alloc _ (.map #[] 0))) (below_alloc _ (.cells #[.map (some (w.heap.size+1))] 87));rw[World.size_alloc]at K1 HO;have HK1:=Lib.hid K1;have HK2:=Lib.hid K2;have HHO:=Lib.hid HO;clear K1 K2 HO
 go_wp2_with fail
 refine(allUnl_any (B:=w.heap.size) _ (fun wr hb=>HH.out.below (hB.trans hb)) HK1.out HK2.out HHO.out (by omega) hB.size (by omega) (by omega) hl HR.out).mono ?_;rintro e w1 ⟨rfl,hb1⟩;go_wp2;go_ret;exact⟨rfl,hB.trans hb1⟩
end Go.Proofs.YtjodlngbiikgfaaGreatDoor
namespace Go.Proofs.YtjodlngbiikgfaaGreatDoor
open Go.RowKit Go.Maps
def I64 (l:List Int):Prop:= ∀x∈l,-9223372036854775808≤x∧x≤9223372036854775807
structure Pl.fit (p:Pl):Prop where
 l:I64 p.left
 r:I64 p.right
 k:I64 p.lkeys
 q:I64 p.rkeys
 g:I64 p.group
 a: ∀x∈p.aggs,(-9223372036854775808≤x.1∧x.1≤9223372036854775807)∧(-9223372036854775808≤x.2∧x.2≤9223372036854775807)
structure Pl.short (p:Pl):Prop where
 l1:1≤p.left.length
 l2:p.left.length≤4
 r1:1≤p.right.length
 r2:p.right.length≤4
 k1:1≤p.lkeys.length
 k2:p.lkeys.length≤4
 q1:1≤p.rkeys.length
 q2:p.rkeys.length≤4
 g:p.group.length≤8
 a:p.aggs.length≤4
def typesB (p:Pl):Bool:=allB (fun n=>btw n 1 3) (p.left++p.right)
theorem two_sl (W:World)(u v:Value):Sl (W.alloc (.cells #[u,v] 22)) (.slice (some ⟨W.heap.size,0,none⟩) 2 2) 2 [u,v]:=Sl.block (Blk.new W 22 #[u,v]) 2 2 (Nat.le_refl _) (by decide)
theorem two_sl1 (w:World)(o:Obj)(u v:Value):Sl ((w.alloc o).alloc (.cells #[u,v] 22)) (.slice (some ⟨w.heap.size+1,0,none⟩) 2 2) 2 [u,v]:=by
 have:=two_sl (w.alloc o) u v;rwa[World.size_alloc]at this
set_option maxHeartbeats 2000000 in
set_option maxRecDepth 10000 in
theorem typesFine_any (p:Pl)(w:World)(h:p.ok w)(hs:p.short):
 Calls Tryz.prog 77 #[.agg #[.int .i64 p.kind,.int .i64 p.mode,.int .i64 p.low,.int .i64 p.high,.int .i64 p.size,.int .i64 p.limit,p.vl,p.vr,p.vk,p.vq,.bool p.grouped,p.vg,p.va]] w fun e w'=>e= .returned (.bool (typesB p))∧Below w.heap.size w w':=by
 have HL:=Lib.hid h.l;have HR:=Lib.hid h.r;have hB:=below_trans (below_alloc w (.cells #[.int .i64 p.kind,.int .i64 p.mode,.int .i64 p.low,.int .i64 p.high,.int .i64 p.size,.int .i64 p.limit,p.vl,p.vr,p.vk,p.vq,.bool p.grouped,p.vg,p.va] 25)) (below_alloc _ (.cells #[p.vl,p.vr] 22));have HT:=Lib.hid (two_sl1 w (.cells #[.int .i64 p.kind,.int .i64 p.mode,.int .i64 p.low,.int .i64 p.high,.int .i64 p.size,.int .i64 p.limit,p.vl,p.vr,p.vk,p.vq,.bool p.grouped,p.vg,p.va] 25) p.vl p.vr);have E:Hid (typesB p=allB (fun n=>btw n 1 3) (p.left++p.right)):=Lib.hid rfl;obtain⟨l1,l2,r1,r2,-⟩:=hs;clear h;generalize typesB p=R at E⊢;obtain⟨kind,mode,low,high,size,limit,vl,vr,vk,vq,grouped,vg,va,left,right,lkeys,rkeys,group,aggs⟩:=p;simp only at HL HR hB HT E l1 l2 r1 r2⊢;obtain⟨A0,c0,rfl,-⟩:=id HL.out;obtain⟨A1,c1,rfl,-⟩:=id HR.out;go_enter Tryz.func77,Tryz.ntmps77
 go_wp2_with fail
 refine(concat_any _ _ _ left right _ HT.out (HL.out.below hB) (HR.out.below hB) (by omega) (by omega)).mono ?_;rintro e w1 ⟨v1,rfl,hs1,-,hb1⟩;have HS1:=Lib.hid hs1;have hB1:=below_trans hB hb1;clear hs1 hb1
 go_wp2_with fail
 refine(allTypes_any v1 (left++right) _ HS1.out).mono ?_;rintro e w2 ⟨rfl,rfl⟩;go_wp2;go_ret;exact⟨ret_bool E.out.symm,hB1⟩
def aggOk (t:List Int) (a:Int×Int):Bool:=if a.1=1 then a.2==0 else btw a.2 0 ((t.length:Int)-1)&&(a.1 != 2||t.getD a.2.toNat 0==2)
set_option maxHeartbeats 2000000 in
set_option maxRecDepth 10000 in
theorem formOne_any (a:Int×Int)(t:List Int)(vt:Value)(bt:Nat)(w:World)(K:Blk w bt 22 #[vt])(ht:Sl w vt t.length (intCells t))(hl:t.length≤1000):
 Calls Tryz.prog 133 #[.agg #[.int .i64 a.1,.int .i64 a.2],.pointer (some ⟨bt,0,none⟩)] w fun e w'=>e= .returned (.bool (aggOk t a))∧Below w.heap.size w w':=by
 obtain⟨f,c⟩:=a;have HH:=Lib.hid ht;obtain⟨A,cc,rfl,q1,q2,-⟩:=ht;unfold maxLen at q2;have z:=(K.alloc (.cells #[.int .i64 f,.int .i64 c] 78)).cell 0 _ rfl;simp only;by_cases h1:f=1
 ·have hb:=beqT h1
  have E:Hid (aggOk t (f,c)=(c==0)):=Lib.hid (if_pos h1);clear h1;go_enter Tryz.func133,Tryz.ntmps133
  go_wp2;go_ret;exact⟨ret_bool E.out.symm,below_alloc _ _⟩
 ·have hb:=beqF h1
  have E:Hid (aggOk t (f,c)=(btw c 0 ((t.length:Int)-1)&&(f != 2||t.getD c.toNat 0==2))):=Lib.hid (if_neg h1);clear h1;cases h2:btw c 0 ((t.length:Int)-1)
  ·have R:=Lib.hid (E.out.trans (by rw[h2]))
   go_enter Tryz.func133,Tryz.ntmps133
   go_wp2_with (go_at_call 126;refine(between_any _ _ _ _).mono ?_;rintro e w' ⟨rfl,rfl⟩)
   go_ret;exact⟨ret_bool (by rw[R.out];rfl),below_alloc _ _⟩
  ·obtain⟨b1,b2⟩:=btw_of h2
   obtain⟨m,rfl⟩: ∃m:Nat,c=m:=⟨c.toNat,by omega⟩;have hm:m<t.length:=by omega
   obtain⟨g,off,rfl,-,hc⟩:=int_at HH.out rfl hm;have c1:=hc _ (below_alloc w (.cells #[.int .i64 f,.int .i64 (m:Int)] 78));have hmn:((m:Int)).toNat=m:=by omega
   rw[hmn]at E;generalize t.getD m 0=y at c1 E;clear hc hmn;cases h3:(f==2)
   ·have g3:=bne_of h3
    simp only[Bool.not_false]at g3;have R:=Lib.hid (E.out.trans (by rw[h2,g3]));go_enter Tryz.func133,Tryz.ntmps133
    go_wp2_with (go_at_call 126;refine(between_any _ _ _ _).mono ?_;rintro e w' ⟨rfl,rfl⟩)
    go_ret;exact⟨ret_bool (by rw[R.out];rfl),below_alloc _ _⟩
   ·have g3:=bne_of h3
    simp only[Bool.not_true]at g3;have R:=Lib.hid (E.out.trans (by rw[h2,g3]));go_enter Tryz.func133,Tryz.ntmps133
    go_wp2_with (go_at_call 126;refine(between_any _ _ _ _).mono ?_;rintro e w' ⟨rfl,rfl⟩)
    go_ret;exact⟨ret_bool (by rw[R.out];simp),below_alloc _ _⟩
set_option maxHeartbeats 1000000 in
set_option maxRecDepth 10000 in
theorem allForm_any (v:Value)(l:List (Int×Int))(t:List Int)(vt:Value)(bt:Nat)(w:World)(h:Sl w v l.length (aggCells l))(K:Blk w bt 22 #[vt])(ht:Sl w vt t.length (intCells t))(hl:t.length≤1000):
 Calls Tryz.prog 127 #[v,.func (.func 133) #[] #[.pointer (some ⟨bt,0,none⟩)]] w fun e w'=>e= .returned (.bool (allB (aggOk t) l))∧Below w.heap.size w w':=by
 have HH:=Lib.hid h;have HT:=Lib.hid ht;have HK:=Lib.hid K;obtain⟨A,c,rfl,h1,h2,-⟩:=h;unfold maxLen at h2;clear ht K;go_enter Tryz.func127,Tryz.ntmps127
 go_wp2
 go_loopw[6,9] (fun _ i wr=> ∃k:Nat,k≤l.length∧i= .int .i64 k∧Hid (∀x∈l.take k,aggOk t x=true)∧Below w.heap.size w wr) (fun _ i _=>l.length-(intOf i).toNat)
 case atStart=>exact⟨0,by omega,rfl,by simp[Hid],Below.refl _ _⟩
 case round=>
  obtain⟨k,hk,rfl,H,hbw⟩:=hrel;by_cases hlt:k<l.length
  ·have hx:=List.getElem?_eq_getElem (l:=l) hlt
   generalize l[k]=x at hx;obtain⟨g,off,rfl,-,hc⟩:=agg_at HH.out rfl hx;obtain⟨c1,c2⟩:=hc _ hbw;have HX:=Lib.hid hx;have hbw2:=hbw.alloc hbw.size (.cells #[.int .i64 x.1,.int .i64 x.2] 78);clear hx hc;cases hq:aggOk t x
   ·have e1:=Lib.hid (all_no (f:=aggOk t) HX.out hq)
    have HQ:=Lib.hid hq;clear hq
    go_wp2_with (go_at_call 133;refine(formOne_any x t vt bt _ (HK.out.below hbw2) (HT.out.below hbw2) hl).mono ?_;rw[HQ.out];rintro e w1 ⟨rfl,hb1⟩)
    go_ret;exact⟨ret_bool e1.out.symm,below_trans hbw2 hb1⟩
   ·have e1:=Lib.hid (all_step (f:=aggOk t) H.out HX.out hq)
    have HQ:=Lib.hid hq;clear hq
    go_wp2_with (go_at_call 133;refine(formOne_any x t vt bt _ (HK.out.below hbw2) (HT.out.below hbw2) hl).mono ?_;rw[HQ.out];rintro e w1 ⟨rfl,hb1⟩)
    go_roundw
    case rel=>exact⟨k+1,by omega,by go_num,e1.out,below_trans hbw2 hb1⟩
    case measure=>simp[intOf];omega
  ·obtain rfl:k=l.length:=by omega
   have e1:=Lib.hid (all_yes (f:=aggOk t) H.out);go_wp2;go_ret;exact⟨ret_bool e1.out.symm,hbw⟩
end Go.Proofs.YtjodlngbiikgfaaGreatDoor
namespace Go.Proofs.YtjodlngbiikgfaaGreatDoor
open Go.RowKit Go.Maps
def pairOk (left right:List Int) (q:Int×Int):Bool:=left.getD q.1.toNat 0==right.getD q.2.toNat 0
def formB (p:Pl):Bool:= !(decide (p.high<p.low))&&((p.lkeys.length==p.rkeys.length)&&(unlikeB p.lkeys p.left.length&&(unlikeB p.rkeys p.right.length&&(unlikeB p.group (p.left++p.right).length&&(allB (pairOk p.left p.right) (p.lkeys.zip p.rkeys)&&allB (aggOk (p.left++p.right)) p.aggs)))))
theorem unl_range {n:Int}: ∀ {l seen:List Int},unlR n seen l=true→ ∀x∈l,0≤x∧x<n
 |[],_,_=>by simp
 |x::r,seen,h=>by
  simp only[unlR,Bool.and_eq_true]at h;obtain⟨⟨h1,-⟩,h3⟩:=h;intro y hy;rcases List.mem_cons.1 hy with rfl|hy
  ·have:=btw_of h1;omega
  ·exact unl_range h3 y hy
set_option maxHeartbeats 4000000 in
set_option maxRecDepth 10000 in
theorem form_any (p:Pl)(w:World)(h:p.ok w)(hs:p.short)(hf:p.fit):
 Calls Tryz.prog 78 #[.agg #[.int .i64 p.kind,.int .i64 p.mode,.int .i64 p.low,.int .i64 p.high,.int .i64 p.size,.int .i64 p.limit,p.vl,p.vr,p.vk,p.vq,.bool p.grouped,p.vg,p.va]] w fun e w'=>e= .returned (.bool (formB p))∧Below w.heap.size w w':=by
 have E:Hid (formB p=(!(decide (p.high<p.low))&&((p.lkeys.length==p.rkeys.length)&&(unlikeB p.lkeys p.left.length&&(unlikeB p.rkeys p.right.length&&(unlikeB p.group (p.left++p.right).length&&(allB (pairOk p.left p.right) (p.lkeys.zip p.rkeys)&&allB (aggOk (p.left++p.right)) p.aggs))))))):=Lib.hid rfl;generalize formB p=R at E⊢;have HL:=Lib.hid h.l;have HR:=Lib.hid h.r;have HK:=Lib.hid h.k;have HQ:=Lib.hid h.q;have HG:=Lib.hid h.g;have HA:=Lib.hid h.a;have FK:=Lib.hid hf.k;have FQ:=Lib.hid hf.q;have FG:=Lib.hid hf.g;obtain⟨l1,l2,r1,r2,k1,k2,q1,q2,g1,a1⟩:=hs;clear h hf;obtain⟨kind,mode,low,high,size,limit,vl,vr,vk,vq,grouped,vg,va,left,right,lkeys,rkeys,group,aggs⟩:=p;simp only at HL HR HK HQ HG HA FK FQ FG E l1 l2 r1 r2 k1 k2 q1 q2 g1 a1⊢;obtain⟨A0,c0,rfl,n0,m0,-⟩:=id HL.out;obtain⟨A1,c1,rfl,n1,m1,-⟩:=id HR.out;obtain⟨A2,c2,rfl,n2,m2,-⟩:=id HK.out;obtain⟨A3,c3,rfl,n3,m3,-⟩:=id HQ.out;obtain⟨A4,c4,rfl,n4,m4,-⟩:=id HG.out;obtain⟨A5,c5,rfl,n5,m5,-⟩:=id HA.out;have hB:=below_trans (below_alloc w (.cells #[.int .i64 kind,.int .i64 mode,.int .i64 low,.int .i64 high,.int .i64 size,.int .i64 limit,.slice A0 left.length c0,.slice A1 right.length c1,.slice A2 lkeys.length c2,.slice A3 rkeys.length c3,.bool grouped,.slice A4 group.length c4,.slice A5 aggs.length c5] 25)) (below_alloc _ (.cells #[.slice A0 left.length c0,.slice A1 right.length c1] 22));have HT:=Lib.hid (two_sl1 w (.cells #[.int .i64 kind,.int .i64 mode,.int .i64 low,.int .i64 high,.int .i64 size,.int .i64 limit,.slice A0 left.length c0,.slice A1 right.length c1,.slice A2 lkeys.length c2,.slice A3 rkeys.length c3,.bool grouped,.slice A4 group.length c4,.slice A5 aggs.length c5] 25) (.slice A0 left.length c0) (.slice A1 right.length c1));have KP:=new_first w 25 #[.int .i64 kind,.int .i64 mode,.int .i64 low,.int .i64 high,.int .i64 size,.int .i64 limit,.slice A0 left.length c0,.slice A1 right.length c1,.slice A2 lkeys.length c2,.slice A3 rkeys.length c3,.bool grouped,.slice A4 group.length c4,.slice A5 aggs.length c5] (.cells #[.slice A0 left.length c0,.slice A1 right.length c1] 22);have hz:(left++right).length≤8:=by rw[List.length_append];omega
 have hz1:1≤(left++right).length:=by rw[List.length_append];omega
 unfold maxLen at m0 m1 m2 m3 m4 m5;go_enter Tryz.func78,Tryz.ntmps78
 go_wp2_with fail
 refine(concat_any _ _ _ left right _ HT.out (HL.out.below hB) (HR.out.below hB) (by omega) (by omega)).mono ?_;rintro e w1 ⟨v1,rfl,hs1,-,hb1⟩;generalize ht:left++right=t at hs1 hz hz1 E;have HTT:=Lib.hid ht;clear ht;have HS1:=Lib.hid hs1;obtain⟨A6,c6,rfl,n6,m6,-⟩:=hs1;unfold maxLen at m6;have P1:=(KP.below hb1).alloc (.cells #[.slice A6 t.length c6] 22);have T1:=Blk.new w1 22 #[.slice A6 t.length c6];have HS1':=Lib.hid (HS1.out.below (below_alloc w1 (.cells #[.slice A6 t.length c6] 22)));have hB1:=below_trans (below_trans hB hb1) (below_alloc w1 (.cells #[.slice A6 t.length c6] 22));clear hB hb1 KP HS1 HT;have y1_2:=P1.cell 2 _ rfl;have y1_3:=P1.cell 3 _ rfl;have y1_6:=P1.cell 6 _ rfl;have y1_7:=P1.cell 7 _ rfl;have y1_8:=P1.cell 8 _ rfl;have y1_9:=P1.cell 9 _ rfl;have y1_11:=P1.cell 11 _ rfl;have y1_12:=P1.cell 12 _ rfl;have t0:=T1.cell 0 _ rfl;by_cases o1:high<low
 ·have e:=E.out
  simp only[decide_eq_true o1,Bool.not_true,Bool.not_false,Bool.true_and,Bool.false_and]at e;have EE:=Lib.hid e;clear e;go_wp2;go_ret;exact⟨ret_bool (by rw[EE.out]),hB1⟩
 ·have do1:decide (high<low)=false:=by simpa using o1
  have e:=E.out;simp only[do1,Bool.not_true,Bool.not_false,Bool.true_and,Bool.false_and]at e;have E2:=Lib.hid e;clear e;clear E do1;by_cases o2:lkeys.length=rkeys.length
  ·have b2:((lkeys.length:Int)==(rkeys.length:Int))=true:=by simp[o2]
   have b2':=bne_of b2;simp only[Bool.not_true]at b2';have hkq:lkeys.length≤rkeys.length:=by omega
   have e:=E2.out;simp only[show(lkeys.length==rkeys.length)=true from by simp[o2],Bool.not_true,Bool.not_false,Bool.true_and,Bool.false_and]at e;have E3:=Lib.hid e;clear e;have HO2:=Lib.hid o2;clear E2 o2;cases u1:unlikeB lkeys left.length
   ·have e:=E3.out
    simp only[u1,Bool.not_true,Bool.not_false,Bool.true_and,Bool.false_and]at e;have EE:=Lib.hid e;clear e
    go_wp2_with fail
    refine(unlike_any _ lkeys _ _ (HK.out.below hB1) (by omega) FK.out).mono ?_;rw[u1];rintro e w2 ⟨rfl,hb2⟩;go_wp2;go_ret;exact⟨ret_bool (by rw[EE.out]),below_trans hB1 hb2⟩
   ·have e:=E3.out
    simp only[u1,Bool.not_true,Bool.not_false,Bool.true_and,Bool.false_and]at e;have E4:=Lib.hid e;clear e;have U1:=Lib.hid u1;clear E3 u1
    go_wp2_with fail
    refine(unlike_any _ lkeys _ _ (HK.out.below hB1) (by omega) FK.out).mono ?_;rw[U1.out];rintro e w2 ⟨rfl,hb2⟩;have P2:=P1.below hb2;have T2:=T1.below hb2;have HS2:=Lib.hid (HS1'.out.below hb2);have hB2:=below_trans hB1 hb2;clear P1 T1 hb2 hB1 t0 y1_2 y1_3 y1_6 y1_7 y1_8 y1_9 y1_11 y1_12 HS1';have y2_2:=P2.cell 2 _ rfl;have y2_3:=P2.cell 3 _ rfl;have y2_6:=P2.cell 6 _ rfl;have y2_7:=P2.cell 7 _ rfl;have y2_8:=P2.cell 8 _ rfl;have y2_9:=P2.cell 9 _ rfl;have y2_11:=P2.cell 11 _ rfl;have y2_12:=P2.cell 12 _ rfl;have t0:=T2.cell 0 _ rfl;cases u2:unlikeB rkeys right.length
    ·have e:=E4.out
     simp only[u2,Bool.not_true,Bool.not_false,Bool.true_and,Bool.false_and]at e;have EE:=Lib.hid e;clear e
     go_wp2_with fail
     refine(unlike_any _ rkeys _ _ (HQ.out.below hB2) (by omega) FQ.out).mono ?_;rw[u2];rintro e w3 ⟨rfl,hb3⟩;go_wp2;go_ret;exact⟨ret_bool (by rw[EE.out]),below_trans hB2 hb3⟩
    ·have e:=E4.out
     simp only[u2,Bool.not_true,Bool.not_false,Bool.true_and,Bool.false_and]at e;have E5:=Lib.hid e;clear e;have U2:=Lib.hid u2;clear E4 u2
     go_wp2_with fail
     refine(unlike_any _ rkeys _ _ (HQ.out.below hB2) (by omega) FQ.out).mono ?_;rw[U2.out];rintro e w3 ⟨rfl,hb3⟩;have P3:=P2.below hb3;have T3:=T2.below hb3;have HS3:=Lib.hid (HS2.out.below hb3);have hB3:=below_trans hB2 hb3;clear P2 T2 hb3 hB2 t0 y2_2 y2_3 y2_6 y2_7 y2_8 y2_9 y2_11 y2_12 HS2;have y3_2:=P3.cell 2 _ rfl;have y3_3:=P3.cell 3 _ rfl;have y3_6:=P3.cell 6 _ rfl;have y3_7:=P3.cell 7 _ rfl;have y3_8:=P3.cell 8 _ rfl;have y3_9:=P3.cell 9 _ rfl;have y3_11:=P3.cell 11 _ rfl;have y3_12:=P3.cell 12 _ rfl;have t0:=T3.cell 0 _ rfl;cases u3:unlikeB group t.length
     ·have e:=E5.out
      simp only[u3,Bool.not_true,Bool.not_false,Bool.true_and,Bool.false_and]at e;have EE:=Lib.hid e;clear e
      go_wp2_with fail
      refine(unlike_any _ group _ _ (HG.out.below hB3) (by omega) FG.out).mono ?_;rw[u3];rintro e w4 ⟨rfl,hb4⟩;go_wp2;go_ret;exact⟨ret_bool (by rw[EE.out]),below_trans hB3 hb4⟩
     ·have e:=E5.out
      simp only[u3,Bool.not_true,Bool.not_false,Bool.true_and,Bool.false_and]at e;have E6:=Lib.hid e;clear e;have U3:=Lib.hid u3;clear E5 u3
      go_wp2_with fail
      refine(unlike_any _ group _ _ (HG.out.below hB3) (by omega) FG.out).mono ?_;rw[U3.out];rintro e w4 ⟨rfl,hb4⟩;have P4:=P3.below hb4;have T4:=T3.below hb4;have HS4:=Lib.hid (HS3.out.below hb4);have hB4:=below_trans hB3 hb4;clear P3 T3 hb4 hB3 t0 y3_2 y3_3 y3_6 y3_7 y3_8 y3_9 y3_11 y3_12 HS3;have y4_2:=P4.cell 2 _ rfl;have y4_3:=P4.cell 3 _ rfl;have y4_6:=P4.cell 6 _ rfl;have y4_7:=P4.cell 7 _ rfl;have y4_8:=P4.cell 8 _ rfl;have y4_9:=P4.cell 9 _ rfl;have y4_11:=P4.cell 11 _ rfl;have y4_12:=P4.cell 12 _ rfl
      go_wp2_with fail
      clear y4_2 y4_3 y4_6 y4_7 y4_8 y4_9 y4_11 y4_12
      go_loopw[4,5,55] (fun _ _ i wr=> ∃k:Nat,k≤lkeys.length∧i= .int .i64 k∧Hid (∀q∈(lkeys.zip rkeys).take k,pairOk left right q=true)∧Below w4.heap.size w4 wr) (fun _ _ i _=>lkeys.length-(intOf i).toNat)
      case atStart=>exact⟨0,by omega,rfl,by simp[Hid],Below.refl _ _⟩
      case round=>
       obtain⟨k,hk,rfl,H,hbw⟩:=hrel;have hBw:=hB4.trans (hbw.mono hB4.size);have P5:=P4.below hbw;have T5:=T4.below hbw;by_cases hlt:k<lkeys.length
       ·have hltq:k<rkeys.length:=by omega
        obtain⟨bk,ok,hAk,-,hck⟩:=int_at HK.out rfl hlt;obtain⟨bq,oq,hAq,-,hcq⟩:=int_at HQ.out rfl hltq;have gk:lkeys[k]?=some (lkeys.getD k 0):=by simp[hlt]
        have gq:rkeys[k]?=some (rkeys.getD k 0):=by simp[hltq]
        have d1:=hck _ hBw;have d2:=hcq _ hBw;have rk:=unl_range U1.out _ (List.mem_of_getElem? gk);have rq:=unl_range U2.out _ (List.mem_of_getElem? gq);have GZ:=Lib.hid (show(lkeys.zip rkeys)[k]?=some (lkeys.getD k 0,rkeys.getD k 0)from by rw[List.getElem?_zip_eq_some];exact⟨gk,gq⟩);generalize lkeys.getD k 0=x at d1 rk GZ;generalize rkeys.getD k 0=y at d2 rq GZ;clear gk gq hck hcq;obtain⟨a,rfl⟩: ∃a:Nat,x=a:=⟨x.toNat,by omega⟩;obtain⟨b,rfl⟩: ∃b:Nat,y=b:=⟨y.toNat,by omega⟩;have ra:a<left.length:=by omega
        have rb:b<right.length:=by omega
        obtain⟨bl,ol,hAl,-,hcl⟩:=int_at HL.out rfl ra;obtain⟨br,orr,hAr,-,hcr⟩:=int_at HR.out rfl rb;have d3:=hcl _ hBw;have d4:=hcr _ hBw;have GP:=Lib.hid (show pairOk left right ((a:Int),(b:Int))=(left.getD a 0==right.getD b 0)from rfl);generalize left.getD a 0=X at d3 GP;generalize right.getD b 0=Y at d4 GP;clear hcl hcr rk rq;subst hAk hAq hAl hAr;have k0:(0:Int)≤(k:Int):=by omega
        have k1:(k:Int)<(lkeys.length:Int):=by omega
        have k2':(k:Int)<(rkeys.length:Int):=by omega
        have a0:(0:Int)≤(a:Int):=by omega
        have a1':(a:Int)<(left.length:Int):=by omega
        have b0:(0:Int)≤(b:Int):=by omega
        have b1':(b:Int)<(right.length:Int):=by omega
        have y6:=P5.cell 6 _ rfl;have y7:=P5.cell 7 _ rfl;have y9:=P5.cell 9 _ rfl;cases hq:(X==Y)
        ·have g3:=bne_of hq
         simp only[Bool.not_false]at g3;have e1:=Lib.hid (all_no (f:=pairOk left right) GZ.out (by rw[GP.out,hq]));have e:=E6.out;simp only[e1.out,Bool.not_true,Bool.not_false,Bool.true_and,Bool.false_and]at e;have EE:=Lib.hid e;clear e
         go_wp2_with fail
         go_quiet (fail)
         go_wp2;go_ret;exact⟨ret_bool (by rw[EE.out]),below_drewN hBw _⟩
        ·have g3:=bne_of hq
         simp only[Bool.not_true]at g3;have e1:=Lib.hid (all_step (f:=pairOk left right) H.out GZ.out (by rw[GP.out,hq]))
         go_wp2_with fail
         go_quiet (fail)
         go_wp2;go_roundw
         case rel=>exact⟨k+1,by omega,by go_num,e1.out,below_drewN hbw _⟩
         case measure=>simp[intOf];omega
       ·obtain rfl:k=lkeys.length:=by omega
        have e1:=Lib.hid (show allB (pairOk left right) (lkeys.zip rkeys)=true from all_yes (by
         have hzl:(lkeys.zip rkeys).length=lkeys.length:=by rw[List.length_zip];omega
         rw[hzl];exact H.out))
        have e:=E6.out;simp only[e1.out,Bool.not_true,Bool.not_false,Bool.true_and,Bool.false_and]at e;have EE:=Lib.hid e;clear e;have y12:=P5.cell 12 _ rfl
        go_wp2_with fail
        refine(allForm_any _ aggs t _ _ _ (HA.out.below hBw) T5 (HS4.out.below hbw) (by omega)).mono ?_;rintro e w6 ⟨rfl,hb6⟩;go_wp2;go_ret;exact⟨ret_bool (by rw[EE.out]),below_trans hBw hb6⟩
  ·have b2:((lkeys.length:Int)==(rkeys.length:Int))=false:=by simp;omega
   have b2':=bne_of b2;simp only[Bool.not_false]at b2';have e:=E2.out;simp only[show(lkeys.length==rkeys.length)=false from by simp[o2],Bool.not_true,Bool.not_false,Bool.true_and,Bool.false_and]at e;have EE:=Lib.hid e;clear e;clear o2;go_wp2;go_ret;exact⟨ret_bool (by rw[EE.out]),hB1⟩
end Go.Proofs.YtjodlngbiikgfaaGreatDoor
namespace Go.Proofs.YtjodlngbiikgfaaGreatDoor
open Go.RowKit Go.Maps
def checkP (p:Pl):Int:=if kindsB p then if rangesB p then if countsB p then if typesB p then if formB p then 0 else 1 else 5 else 2 else 3 else 4
theorem counts_short {p:Pl}(h:countsB p=true):p.short:=by
 unfold countsB at h;rw[Bool.and_eq_true]at h;obtain⟨h1,h2⟩:=h;simp only[allB,lens,List.all_cons,List.all_nil,id,Bool.and_true,Bool.and_eq_true]at h1;obtain⟨a,b,c,d⟩:=h1;have a:=btw_of a;have b:=btw_of b;have c:=btw_of c;have d:=btw_of d
 have e:p.group.length≤8∧p.aggs.length≤4:=by
  cases hg:p.grouped
  ·rw[hg]at h2
   simp at h2;omega
  ·rw[hg]at h2
   simp only[if_true,Bool.and_eq_true,decide_eq_true_eq]at h2;have:=btw_of h2.1;omega
 exact⟨by omega,by omega,by omega,by omega,by omega,by omega,by omega,by omega,e.1,e.2⟩
set_option maxHeartbeats 4000000 in
set_option maxRecDepth 10000 in
theorem check_any (p:Pl)(w:World)(h:p.ok w)(hf:p.fit):
 Calls Tryz.prog 32 #[.agg #[.int .i64 p.kind,.int .i64 p.mode,.int .i64 p.low,.int .i64 p.high,.int .i64 p.size,.int .i64 p.limit,p.vl,p.vr,p.vk,p.vq,.bool p.grouped,p.vg,p.va]] w fun e w'=>e= .returned (.int .i64 (checkP p))∧Below w.heap.size w w':=by
 have HO:=Lib.hid h;have HF:=Lib.hid hf;have K1:=Blk.new w 25 #[.int .i64 p.kind,.int .i64 p.mode,.int .i64 p.low,.int .i64 p.high,.int .i64 p.size,.int .i64 p.limit,p.vl,p.vr,p.vk,p.vq,.bool p.grouped,p.vg,p.va];have K1:=K1.alloc (.cells #[.func (.func 74) #[] #[],.int .i64 4,.func (.func 75) #[] #[],.int .i64 3,.func (.func 76) #[] #[],.int .i64 2,.func (.func 77) #[] #[],.int .i64 5,.func (.func 78) #[] #[],.int .i64 1] 139);have K2:=new_second w 139 #[.func (.func 74) #[] #[],.int .i64 4,.func (.func 75) #[] #[],.int .i64 3,.func (.func 76) #[] #[],.int .i64 2,.func (.func 77) #[] #[],.int .i64 5,.func (.func 78) #[] #[],.int .i64 1] (.cells #[.int .i64 p.kind,.int .i64 p.mode,.int .i64 p.low,.int .i64 p.high,.int .i64 p.size,.int .i64 p.limit,p.vl,p.vr,p.vk,p.vq,.bool p.grouped,p.vg,p.va] 25);have hB:=below_trans (below_alloc w (.cells #[.int .i64 p.kind,.int .i64 p.mode,.int .i64 p.low,.int .i64 p.high,.int .i64 p.size,.int .i64 p.limit,p.vl,p.vr,p.vk,p.vq,.bool p.grouped,p.vg,p.va] 25)) (below_alloc _ (.cells #[.func (.func 74) #[] #[],.int .i64 4,.func (.func 75) #[] #[],.int .i64 3,.func (.func 76) #[] #[],.int .i64 2,.func (.func 77) #[] #[],.int .i64 5,.func (.func 78) #[] #[],.int .i64 1] 139));obtain⟨bs,hbs⟩: ∃bs:List Bool,bs=[kindsB p,rangesB p,countsB p,typesB p,formB p]:=⟨_,rfl⟩;have HBS:=Lib.hid hbs;have HC:Hid (checkP p=if kindsB p then if rangesB p then if countsB p then if typesB p then if formB p then 0 else 1 else 5 else 2 else 3 else 4):=Lib.hid rfl;generalize checkP p=R at HC⊢;clear h hf hbs;go_enter Tryz.func32,Tryz.ntmps32
 go_wp2_with fail
 go_loopw[4,12] (fun _ i wr=> ∃k:Nat,k≤5∧i= .int .i64 k∧Hid (∀b∈bs.take k,id b=true)∧Blk wr w.heap.size 25 #[.int .i64 p.kind,.int .i64 p.mode,.int .i64 p.low,.int .i64 p.high,.int .i64 p.size,.int .i64 p.limit,p.vl,p.vr,p.vk,p.vq,.bool p.grouped,p.vg,p.va]∧Blk wr (w.heap.size+1) 139 #[.func (.func 74) #[] #[],.int .i64 4,.func (.func 75) #[] #[],.int .i64 3,.func (.func 76) #[] #[],.int .i64 2,.func (.func 77) #[] #[],.int .i64 5,.func (.func 78) #[] #[],.int .i64 1]∧Below w.heap.size w wr) (fun _ i _=>5-(intOf i).toNat)
 case atStart=>exact⟨0,by omega,rfl,by simp[Hid],K1,K2,hB⟩
 case round=>
  obtain⟨k,hk,rfl,H,J1,J2,hbw⟩:=hrel;have hk5:k=0∨k=1∨k=2∨k=3∨k=4∨k=5:=by omega
  rcases hk5 with rfl|rfl|rfl|rfl|rfl|rfl
  ·have z0:=J2.cell 0 _ rfl
   have z1:=J2.cell 1 _ rfl;have J1':=J1.alloc (.cells #[.func (.func 74) #[] #[],.int .i64 4] 139);have J2':=J2.alloc (.cells #[.func (.func 74) #[] #[],.int .i64 4] 139);have y0:=J1'.cell 0 _ rfl;have y1:=J1'.cell 1 _ rfl;have y2:=J1'.cell 2 _ rfl;have y3:=J1'.cell 3 _ rfl;have y4:=J1'.cell 4 _ rfl;have y5:=J1'.cell 5 _ rfl;have y6:=J1'.cell 6 _ rfl;have y7:=J1'.cell 7 _ rfl;have y8:=J1'.cell 8 _ rfl;have y9:=J1'.cell 9 _ rfl;have y10:=J1'.cell 10 _ rfl;have y11:=J1'.cell 11 _ rfl;have y12:=J1'.cell 12 _ rfl;have hbw2:=hbw.alloc hbw.size (.cells #[.func (.func 74) #[] #[],.int .i64 4] 139);have hsz:=hbw.size;have G: ∀(j:Nat) (b:Bool),j<0→bs[j]?=some b→b=true:=fun j b hj hb=>H.out b (List.mem_of_getElem? (i:=j) (by rw[List.getElem?_take,if_pos hj];exact hb));clear G;cases hq:kindsB p
   ·have EE:=Lib.hid (HC.out.trans (by simp only[hq];rfl:_=(4:Int)))
    have HQ:=Lib.hid hq;clear hq
    go_wp2_with fail
    refine(kinds_any p _ (HO.out.below hbw2)).mono ?_;rw[HQ.out];rintro e w1 ⟨rfl,hb1⟩;have x0:=((Blk.new wr 139 #[.func (.func 74) #[] #[],.int .i64 4]).below hb1).cell 1 _ rfl;go_wp2;go_ret;exact⟨by rw[EE.out];rfl,below_trans hbw2 hb1⟩
   ·have e1:=Lib.hid (all_step (f:=id) (l:=bs) (k:=0) H.out (by rw[HBS.out];rfl) hq)
    have HQ:=Lib.hid hq;clear hq
    go_wp2_with fail
    refine(kinds_any p _ (HO.out.below hbw2)).mono ?_;rw[HQ.out];rintro e w1 ⟨rfl,hb1⟩;go_wp2;go_roundw
    case rel=>exact⟨1,by omega,by go_num,e1.out,J1'.below hb1,J2'.below hb1,below_trans hbw2 hb1⟩
    case measure=>simp[intOf]
  ·have z0:=J2.cell 2 _ rfl
   have z1:=J2.cell 3 _ rfl;have J1':=J1.alloc (.cells #[.func (.func 75) #[] #[],.int .i64 3] 139);have J2':=J2.alloc (.cells #[.func (.func 75) #[] #[],.int .i64 3] 139);have y0:=J1'.cell 0 _ rfl;have y1:=J1'.cell 1 _ rfl;have y2:=J1'.cell 2 _ rfl;have y3:=J1'.cell 3 _ rfl;have y4:=J1'.cell 4 _ rfl;have y5:=J1'.cell 5 _ rfl;have y6:=J1'.cell 6 _ rfl;have y7:=J1'.cell 7 _ rfl;have y8:=J1'.cell 8 _ rfl;have y9:=J1'.cell 9 _ rfl;have y10:=J1'.cell 10 _ rfl;have y11:=J1'.cell 11 _ rfl;have y12:=J1'.cell 12 _ rfl;have hbw2:=hbw.alloc hbw.size (.cells #[.func (.func 75) #[] #[],.int .i64 3] 139);have hsz:=hbw.size;have G: ∀(j:Nat) (b:Bool),j<1→bs[j]?=some b→b=true:=fun j b hj hb=>H.out b (List.mem_of_getElem? (i:=j) (by rw[List.getElem?_take,if_pos hj];exact hb));have B0:=Lib.hid (G 0 (kindsB p) (by omega) (by rw[HBS.out];rfl));clear G;cases hq:rangesB p
   ·have EE:=Lib.hid (HC.out.trans (by simp only[B0.out,hq];rfl:_=(3:Int)))
    have HQ:=Lib.hid hq;clear hq
    go_wp2_with fail
    refine(ranges_any p _).mono ?_;rw[HQ.out];rintro e w1 ⟨rfl,hb1⟩;have x0:=((Blk.new wr 139 #[.func (.func 75) #[] #[],.int .i64 3]).below hb1).cell 1 _ rfl;go_wp2;go_ret;exact⟨by rw[EE.out];rfl,below_trans hbw2 hb1⟩
   ·have e1:=Lib.hid (all_step (f:=id) (l:=bs) (k:=1) H.out (by rw[HBS.out];rfl) hq)
    have HQ:=Lib.hid hq;clear hq
    go_wp2_with fail
    refine(ranges_any p _).mono ?_;rw[HQ.out];rintro e w1 ⟨rfl,hb1⟩;go_wp2;go_roundw
    case rel=>exact⟨2,by omega,by go_num,e1.out,J1'.below hb1,J2'.below hb1,below_trans hbw2 hb1⟩
    case measure=>simp[intOf]
  ·have z0:=J2.cell 4 _ rfl
   have z1:=J2.cell 5 _ rfl;have J1':=J1.alloc (.cells #[.func (.func 76) #[] #[],.int .i64 2] 139);have J2':=J2.alloc (.cells #[.func (.func 76) #[] #[],.int .i64 2] 139);have y0:=J1'.cell 0 _ rfl;have y1:=J1'.cell 1 _ rfl;have y2:=J1'.cell 2 _ rfl;have y3:=J1'.cell 3 _ rfl;have y4:=J1'.cell 4 _ rfl;have y5:=J1'.cell 5 _ rfl;have y6:=J1'.cell 6 _ rfl;have y7:=J1'.cell 7 _ rfl;have y8:=J1'.cell 8 _ rfl;have y9:=J1'.cell 9 _ rfl;have y10:=J1'.cell 10 _ rfl;have y11:=J1'.cell 11 _ rfl;have y12:=J1'.cell 12 _ rfl;have hbw2:=hbw.alloc hbw.size (.cells #[.func (.func 76) #[] #[],.int .i64 2] 139);have hsz:=hbw.size;have G: ∀(j:Nat) (b:Bool),j<2→bs[j]?=some b→b=true:=fun j b hj hb=>H.out b (List.mem_of_getElem? (i:=j) (by rw[List.getElem?_take,if_pos hj];exact hb));have B0:=Lib.hid (G 0 (kindsB p) (by omega) (by rw[HBS.out];rfl));have B1:=Lib.hid (G 1 (rangesB p) (by omega) (by rw[HBS.out];rfl));clear G;cases hq:countsB p
   ·have EE:=Lib.hid (HC.out.trans (by simp only[B0.out,B1.out,hq];rfl:_=(2:Int)))
    have HQ:=Lib.hid hq;clear hq
    go_wp2_with fail
    refine(counts_any p _ (HO.out.below hbw2)).mono ?_;rw[HQ.out];rintro e w1 ⟨rfl,hb1⟩;have x0:=((Blk.new wr 139 #[.func (.func 76) #[] #[],.int .i64 2]).below hb1).cell 1 _ rfl;go_wp2;go_ret;exact⟨by rw[EE.out];rfl,below_trans hbw2 hb1⟩
   ·have e1:=Lib.hid (all_step (f:=id) (l:=bs) (k:=2) H.out (by rw[HBS.out];rfl) hq)
    have HQ:=Lib.hid hq;clear hq
    go_wp2_with fail
    refine(counts_any p _ (HO.out.below hbw2)).mono ?_;rw[HQ.out];rintro e w1 ⟨rfl,hb1⟩;go_wp2;go_roundw
    case rel=>exact⟨3,by omega,by go_num,e1.out,J1'.below hb1,J2'.below hb1,below_trans hbw2 hb1⟩
    case measure=>simp[intOf]
  ·have z0:=J2.cell 6 _ rfl
   have z1:=J2.cell 7 _ rfl;have J1':=J1.alloc (.cells #[.func (.func 77) #[] #[],.int .i64 5] 139);have J2':=J2.alloc (.cells #[.func (.func 77) #[] #[],.int .i64 5] 139);have y0:=J1'.cell 0 _ rfl;have y1:=J1'.cell 1 _ rfl;have y2:=J1'.cell 2 _ rfl;have y3:=J1'.cell 3 _ rfl;have y4:=J1'.cell 4 _ rfl;have y5:=J1'.cell 5 _ rfl;have y6:=J1'.cell 6 _ rfl;have y7:=J1'.cell 7 _ rfl;have y8:=J1'.cell 8 _ rfl;have y9:=J1'.cell 9 _ rfl;have y10:=J1'.cell 10 _ rfl;have y11:=J1'.cell 11 _ rfl;have y12:=J1'.cell 12 _ rfl;have hbw2:=hbw.alloc hbw.size (.cells #[.func (.func 77) #[] #[],.int .i64 5] 139);have hsz:=hbw.size;have G: ∀(j:Nat) (b:Bool),j<3→bs[j]?=some b→b=true:=fun j b hj hb=>H.out b (List.mem_of_getElem? (i:=j) (by rw[List.getElem?_take,if_pos hj];exact hb));have B0:=Lib.hid (G 0 (kindsB p) (by omega) (by rw[HBS.out];rfl));have B1:=Lib.hid (G 1 (rangesB p) (by omega) (by rw[HBS.out];rfl));have B2:=Lib.hid (G 2 (countsB p) (by omega) (by rw[HBS.out];rfl));have CC:=B2;clear G;cases hq:typesB p
   ·have EE:=Lib.hid (HC.out.trans (by simp only[B0.out,B1.out,B2.out,hq];rfl:_=(5:Int)))
    have HQ:=Lib.hid hq;clear hq
    go_wp2_with fail
    refine(typesFine_any p _ (HO.out.below hbw2) (counts_short CC.out)).mono ?_;rw[HQ.out];rintro e w1 ⟨rfl,hb1⟩;have x0:=((Blk.new wr 139 #[.func (.func 77) #[] #[],.int .i64 5]).below hb1).cell 1 _ rfl;go_wp2;go_ret;exact⟨by rw[EE.out];rfl,below_trans hbw2 hb1⟩
   ·have e1:=Lib.hid (all_step (f:=id) (l:=bs) (k:=3) H.out (by rw[HBS.out];rfl) hq)
    have HQ:=Lib.hid hq;clear hq
    go_wp2_with fail
    refine(typesFine_any p _ (HO.out.below hbw2) (counts_short CC.out)).mono ?_;rw[HQ.out];rintro e w1 ⟨rfl,hb1⟩;go_wp2;go_roundw
    case rel=>exact⟨4,by omega,by go_num,e1.out,J1'.below hb1,J2'.below hb1,below_trans hbw2 hb1⟩
    case measure=>simp[intOf]
  ·have z0:=J2.cell 8 _ rfl
   have z1:=J2.cell 9 _ rfl;have J1':=J1.alloc (.cells #[.func (.func 78) #[] #[],.int .i64 1] 139);have J2':=J2.alloc (.cells #[.func (.func 78) #[] #[],.int .i64 1] 139);have y0:=J1'.cell 0 _ rfl;have y1:=J1'.cell 1 _ rfl;have y2:=J1'.cell 2 _ rfl;have y3:=J1'.cell 3 _ rfl;have y4:=J1'.cell 4 _ rfl;have y5:=J1'.cell 5 _ rfl;have y6:=J1'.cell 6 _ rfl;have y7:=J1'.cell 7 _ rfl;have y8:=J1'.cell 8 _ rfl;have y9:=J1'.cell 9 _ rfl;have y10:=J1'.cell 10 _ rfl;have y11:=J1'.cell 11 _ rfl;have y12:=J1'.cell 12 _ rfl;have hbw2:=hbw.alloc hbw.size (.cells #[.func (.func 78) #[] #[],.int .i64 1] 139);have hsz:=hbw.size;have G: ∀(j:Nat) (b:Bool),j<4→bs[j]?=some b→b=true:=fun j b hj hb=>H.out b (List.mem_of_getElem? (i:=j) (by rw[List.getElem?_take,if_pos hj];exact hb));have B0:=Lib.hid (G 0 (kindsB p) (by omega) (by rw[HBS.out];rfl));have B1:=Lib.hid (G 1 (rangesB p) (by omega) (by rw[HBS.out];rfl));have B2:=Lib.hid (G 2 (countsB p) (by omega) (by rw[HBS.out];rfl));have B3:=Lib.hid (G 3 (typesB p) (by omega) (by rw[HBS.out];rfl));have CC:=B2;clear G;cases hq:formB p
   ·have EE:=Lib.hid (HC.out.trans (by simp only[B0.out,B1.out,B2.out,B3.out,hq];rfl:_=(1:Int)))
    have HQ:=Lib.hid hq;clear hq
    go_wp2_with fail
    refine(form_any p _ (HO.out.below hbw2) (counts_short CC.out) HF.out).mono ?_;rw[HQ.out];rintro e w1 ⟨rfl,hb1⟩;have x0:=((Blk.new wr 139 #[.func (.func 78) #[] #[],.int .i64 1]).below hb1).cell 1 _ rfl;go_wp2;go_ret;exact⟨by rw[EE.out];rfl,below_trans hbw2 hb1⟩
   ·have e1:=Lib.hid (all_step (f:=id) (l:=bs) (k:=4) H.out (by rw[HBS.out];rfl) hq)
    have HQ:=Lib.hid hq;clear hq
    go_wp2_with fail
    refine(form_any p _ (HO.out.below hbw2) (counts_short CC.out) HF.out).mono ?_;rw[HQ.out];rintro e w1 ⟨rfl,hb1⟩;go_wp2;go_roundw
    case rel=>exact⟨5,by omega,by go_num,e1.out,J1'.below hb1,J2'.below hb1,below_trans hbw2 hb1⟩
    case measure=>simp[intOf]
  ·have hall:=H.out
   rw[HBS.out]at hall;have B0:kindsB p=true:=hall _ (List.mem_of_getElem? (i:=0) rfl);have B1:rangesB p=true:=hall _ (List.mem_of_getElem? (i:=1) rfl);have B2:countsB p=true:=hall _ (List.mem_of_getElem? (i:=2) rfl);have B3:typesB p=true:=hall _ (List.mem_of_getElem? (i:=3) rfl);have B4:formB p=true:=hall _ (List.mem_of_getElem? (i:=4) rfl);have EE:=Lib.hid (HC.out.trans (by simp only[B0,B1,B2,B3,B4];rfl:_=(0:Int)));clear hall B0 B1 B2 B3 B4;go_wp2;go_ret;exact⟨by rw[EE.out];rfl,hbw⟩
end Go.Proofs.YtjodlngbiikgfaaGreatDoor
namespace Go.Proofs.YtjodlngbiikgfaaGreatDoor
open Go.RowKit Go.Maps
theorem check_ok {p:Pl}(h:checkP p=0):kindsB p=true∧rangesB p=true∧countsB p=true∧typesB p=true∧formB p=true:=by
 unfold checkP at h;cases h1:kindsB p<;>cases h2:rangesB p<;>cases h3:countsB p<;>cases h4:typesB p<;>cases h5:formB p<;>simp_all
theorem one_int (W:World)(x:Int):Sl (W.alloc (.cells #[.int .i64 x] 3)) (.slice (some ⟨W.heap.size,0,none⟩) 1 1) 1 [.int .i64 x]:=Sl.block (Blk.new W 3 #[.int .i64 x]) 1 1 (Nat.le_refl _) (by decide)
theorem one_cell (x:Int): ∀u∈[Value.int .i64 x],u.oneCell'=true:=by intro u hu;simp at hu;subst hu;rfl
end Go.Proofs.YtjodlngbiikgfaaGreatDoor
namespace Go.Proofs.YtjodlngbiikgfaaGreatDoor
open Go.RowKit Go.Maps
end Go.Proofs.YtjodlngbiikgfaaGreatDoor
namespace Go.Proofs.YtjodlngbiikgfaaGreatDoor
open Go.RowKit Go.Maps
end Go.Proofs.YtjodlngbiikgfaaGreatDoor
namespace Go.Proofs.YtjodlngbiikgfaaGreatDoor
open Go.RowKit
end Go.Proofs.YtjodlngbiikgfaaGreatDoor
namespace Go.Proofs.YtjodlngbiikgfaaGreatDoor
open Go.RowKit Go.Maps
end Go.Proofs.YtjodlngbiikgfaaGreatDoor
namespace Go.Proofs.YtjodlngbiikgfaaGreatDoor
open Go.RowKit
end Go.Proofs.YtjodlngbiikgfaaGreatDoor
namespace Go.Proofs.YtjodlngbiikgfaaGreatDoor
open Go.RowKit Go.Maps
theorem pl_cells {w:World}{g:Nat}{t:TypeId}{a0 a1 a2 a3 a4 a5 a6 a7 a8 a9 a10 a11 a12:Value}(h:Blk w g t #[a0,a1,a2,a3,a4,a5,a6,a7,a8,a9,a10,a11,a12]):
 w.cell? ⟨g,0,none⟩=some a0∧w.cell? ⟨g,1,none⟩=some a1∧w.cell? ⟨g,2,none⟩=some a2∧w.cell? ⟨g,3,none⟩=some a3∧w.cell? ⟨g,4,none⟩=some a4∧w.cell? ⟨g,5,none⟩=some a5∧w.cell? ⟨g,6,none⟩=some a6∧w.cell? ⟨g,7,none⟩=some a7∧w.cell? ⟨g,8,none⟩=some a8∧w.cell? ⟨g,9,none⟩=some a9∧w.cell? ⟨g,10,none⟩=some a10∧w.cell? ⟨g,11,none⟩=some a11∧w.cell? ⟨g,12,none⟩=some a12:=
 ⟨h.cell 0 _ rfl,h.cell 1 _ rfl,h.cell 2 _ rfl,h.cell 3 _ rfl,h.cell 4 _ rfl,h.cell 5 _ rfl,h.cell 6 _ rfl,h.cell 7 _ rfl,h.cell 8 _ rfl,h.cell 9 _ rfl,h.cell 10 _ rfl,h.cell 11 _ rfl,h.cell 12 _ rfl⟩
def Pl.bare (p:Pl):Pl:= {p with va:= .slice none 0 0,aggs:=[]}
end Go.Proofs.YtjodlngbiikgfaaGreatDoor
