/-Changes: in memory; Form. Plain law of batches: what is wrong with rows that are to be joined, and what they come to. Batches: the comparator of times -/
import Derived.Test.YtjhbeecmdgglgaaGreatDoorGrpW12
import Derived.Test.YtjhbeecmdgglgaaGreatDoorGrpW7
import Derived.Test.YtjhbeecmdgglgaaGreatDoorGrpW4
import Derived.Test.YtjhbeecmdgglgaaGreatDoorGrpW2
import Derived.Test.YtjhbeecmdgglgaaGreatDoorGrpW11
import Derived.Test.YtjhbeecmdgglgaaGreatDoorGrpW10
import Derived.Test.YtjhbeecmdgglgaaGreatDoorGrpW9
set_option linter.unusedSimpArgs false
set_option linter.unusedVariables false
namespace Go.Proofs.YtjhbeecmdgglgaaGreatDoor
open Go.RowKit
structure Chn where
 v:Value
 r:List Val
 k:Int
def Chn.cells (c:Chn):List Value:=[.int .i64 c.k,c.v]
theorem Chn.cells_len (c:Chn):c.cells.length=2:=rfl
def chnCells (l:List Chn):List Value:=l.flatMap Chn.cells
structure Chs (w:World) (v:Value) (l:List Chn):Prop where
 sl:Sl w v l.length (chnCells l)
 rows: ∀c∈l,Sl w c.v c.r.length (rowCells c.r)
theorem Chs.below {w w':World}{v:Value}{l:List Chn}(h:Chs w v l)(hb:Below w.heap.size w w'):Chs w' v l:=⟨h.sl.below hb,fun c hc=>(h.rows c hc).below hb⟩
theorem Chs.drew {w:World}{v:Value}{l:List Chn}(h:Chs w v l):Chs w.drew v l:=⟨h.sl,h.rows⟩
theorem Chs.nil (w:World):Chs w (.slice none 0 0) []:=⟨Sl.nil_ w,nofun⟩
structure FineC (l:List Chn):Prop where
 rows: ∀c∈l,Fine c.r
 nums: ∀c∈l,-9223372036854775808≤c.k∧c.k≤9223372036854775807
def ac (l:List Chn):List (Int×List Val):=l.map fun c=>(c.k,c.r)
theorem chn_at {w:World}{l:List Chn}{v:Value}(h:Sl w v l.length (chnCells l)){A:Option Addr}{n c:Nat}(hv:v= .slice A n c){k:Nat}{x:Chn}(hk:l[k]?=some x):
 ∃b off,A=some ⟨b,off,none⟩∧b<w.heap.size∧ ∀w',Below w.heap.size w w'→
  w'.cell? ⟨b,off+k*2,none⟩=some (.int .i64 x.k)∧w'.cell? ⟨b,off+k*2+1,none⟩=some x.v:=by
 obtain⟨A',c',hv',h1,h2,-,h3⟩:=h;rw[hv]at hv';injection hv' with e1 e2 e3;subst e1;have a1:=flat_at Chn.cells_len l k 0 (by omega);have a2:=flat_at Chn.cells_len l k 1 (by omega);rw[hk]at a1 a2;simp only[Option.bind_some,Nat.add_zero]at a1 a2;obtain⟨b,off,hA,hc⟩:=h3 (by intro h0;rw[show l.flatMap Chn.cells=chnCells l from rfl,h0]at a1;simp[Chn.cells]at a1);have c1:=hc _ _ a1;have c2:=hc _ _ a2;exact⟨b,off,hA,World.block_lt_of_cell? w _ c1,fun w' hb=>⟨cell_below hb c1,cell_below hb c2⟩⟩
def kAt (l:List Chn) (i:Nat):Int:=match l[i]? with|some c=>c.k|none=>0
def errAt (l:List Chn) (i:Nat):Int:=match l[i]? with
 |none=>0
 |some c=>if btw c.k 1 4=false then 4 else if keyErr c.r≠0 then keyErr c.r else if(c.k=3∧kAt l (i+1)≠4)∨(c.k=4∧(i=0∨kAt l (i-1)≠3))then 6 else 0
def formC (l:List Chn):Int:=if 4096<l.length then 2 else firstNZ ((List.range l.length).map (errAt l))
theorem form_bad {l:List Chn}{k:Nat}{e:Int}(h0: ¬4096<l.length)(hk:k<l.length)(hpre: ∀j,j<k→errAt l j=0)(he:errAt l k=e)(hne:e≠0):formC l=e:=by
 unfold formC;rw[if_neg h0];refine firstNZ_hit (k:=k) (fun x hx=> ?_) (by simp[hk,he]) hne;rw[←List.map_take,List.mem_map]at hx;obtain⟨j,hj,rfl⟩:=hx;rw[List.take_range,List.mem_range]at hj;exact hpre j (by omega)
theorem form_good {l:List Chn}(h0: ¬4096<l.length)(hpre: ∀j,j<l.length→errAt l j=0):formC l=0:=by
 unfold formC;rw[if_neg h0];refine firstNZ_none (fun x hx=> ?_);obtain⟨j,hj,rfl⟩:=List.mem_map.1 hx;exact hpre j (List.mem_range.1 hj)
theorem kAt_some {l:List Chn}{i:Nat}{x:Chn}(h:l[i]?=some x):kAt l i=x.k:=by simp[kAt,h]
theorem kAt_none {l:List Chn}{i:Nat}(h:l.length≤i):kAt l i=0:=by simp[kAt,List.getElem?_eq_none h]
def openAt (l:List Chn):Nat→Bool
 |0=>false
 |k+1=>decide (kAt l k=3)
theorem open_next {l:List Chn}{k:Nat}(hpre: ∀j,j<k→errAt l j=0)(ho:openAt l k=true):k≠0∧kAt l (k-1)=3∧kAt l k=4:=by
 cases k with
 |zero=>simp[openAt]at ho
 |succ k=>
  have h3:kAt l k=3:=of_decide_eq_true ho;refine⟨by omega,h3,?_⟩;have he:=hpre k (by omega);unfold errAt at he;cases hx:l[k]? with
  |none=>simp[kAt,hx]at h3
  |some c=>
   have hc:c.k=3:=by rw[←kAt_some hx];exact h3
   rw[hx]at he;simp only[hc]at he;have:btw 3 1 4=true:=by decide
   rw[this]at he;by_cases hk:keyErr c.r=0
   ·by_cases h4:kAt l (k+1)=4
    ·exact h4
    ·simp[hk,h4]at he
   ·simp[hk]at he
theorem open_not {l:List Chn}{k:Nat}(ho:openAt l k=false):k=0∨kAt l (k-1)≠3:=by
 cases k with
 |zero=>exact .inl rfl
 |succ k=>exact .inr (of_decide_eq_false ho)
theorem err_one {l:List Chn}{i:Nat}{c:Chn}(h:l[i]?=some c)(hk:c.k<1∨4<c.k):errAt l i=4:=by
 unfold errAt;rw[h];simp only[btw_no hk,if_true]
theorem err_two {l:List Chn}{i:Nat}{c:Chn}(h:l[i]?=some c)(h1:1≤c.k)(h2:c.k≤4)(hy:keyErr c.r≠0):errAt l i=keyErr c.r:=by
 unfold errAt;rw[h];simp[btw_yes h1 h2,hy]
theorem err_six {l:List Chn}{i:Nat}{c:Chn}(h:l[i]?=some c)(h1:1≤c.k)(h2:c.k≤4)(hy:keyErr c.r=0)(h6:(c.k=3∧kAt l (i+1)≠4)∨(c.k=4∧(i=0∨kAt l (i-1)≠3))):errAt l i=6:=by
 unfold errAt;rw[h];simp only[btw_yes h1 h2,hy];rw[if_neg (by simp),if_neg (by simp),if_pos h6]
theorem err_no {l:List Chn}{i:Nat}{c:Chn}(h:l[i]?=some c)(h1:1≤c.k)(h2:c.k≤4)(hy:keyErr c.r=0)(h6: ¬((c.k=3∧kAt l (i+1)≠4)∨(c.k=4∧(i=0∨kAt l (i-1)≠3)))):errAt l i=0:=by
 unfold errAt;rw[h];simp only[btw_yes h1 h2,hy];rw[if_neg (by simp),if_neg (by simp),if_neg h6]
theorem pre_more {l:List Chn}{k:Nat}(h: ∀j,j<k→errAt l j=0)(hk:errAt l k=0): ∀j,j<k+1→errAt l j=0:=by
 intro j hj;by_cases e:j=k
 ·rw[e];exact hk
 ·exact h j (by omega)
theorem keyErr_ok {r:List Val}(h:keyErr r=0):keyR r=(str (keyRow r),0):=if_neg (by rw[h];simp)
theorem keyErr_bad {r:List Val}(h:keyErr r≠0):keyR r=(⟨#[]⟩,keyErr r):=if_pos h
set_option maxHeartbeats 4000000 in
set_option maxRecDepth 10000 in
theorem cform_any (v:Value)(l:List Chn)(w:World)(h:Chs w v l)(hf:FineC l)(hm:Mx w):
 Calls Tryz.prog 29 #[v] w fun e w'=>e= .returned (.int .i64 (formC l))∧Below w.heap.size w w':=by
 have HV:=Lib.hid h;have HF:=Lib.hid hf;have HM:=Lib.hid hm;obtain⟨A,c,rfl,h1,h2,-⟩:=h.sl;clear h hf hm;unfold maxLen at h2;by_cases hn:4096<l.length
 ·have e1:=Lib.hid (show formC l=2 from if_pos hn)
  go_enter Tryz.func29,Tryz.ntmps29
  go_wp2;go_ret;exact⟨ret_int (by rw[e1.out]),Below.refl _ _⟩
 ·have HBAD:=Lib.hid (fun k e=>form_bad (l:=l) (k:=k) (e:=e) hn)
  have HGOOD:=Lib.hid (form_good (l:=l) hn);generalize formC l=R at HBAD HGOOD⊢;go_enter Tryz.func29,Tryz.ntmps29
  go_wp2_with fail
  go_loopw[3,4,5,6,7,13] (fun op _ _ _ _ i wr=> ∃k:Nat,k≤l.length∧i= .int .i64 k∧op= .bool (openAt l k)∧Hid (∀j,j<k→errAt l j=0)∧Below w.heap.size w wr) (fun _ _ _ _ _ i _=>l.length-(intOf i).toNat)
  case atStart=>exact⟨0,by omega,rfl,rfl,Lib.hid (fun j hj=>by omega),Below.refl _ _⟩
  case round=>
   obtain⟨k,hk,rfl,rfl,H,hbw⟩:=hrel;by_cases hlt:k<l.length
   ·have hx:=List.getElem?_eq_getElem (l:=l) hlt
    generalize l[k]=x at hx;obtain⟨g,off,rfl,-,hc⟩:=chn_at HV.out.sl rfl hx;obtain⟨d1,d2⟩:=hc _ hbw;have hmem:=List.mem_of_getElem? hx;have HRW:=Lib.hid (HV.out.rows x hmem);have HFX:=Lib.hid (HF.out.rows x hmem);have hxn:=HF.out.nums x hmem;have HX:=Lib.hid hx;have HO:=Lib.hid (fun ho=>open_next (l:=l) (k:=k) H.out ho);have HO':=Lib.hid (fun ho=>open_not (l:=l) (k:=k) ho);have HON:Hid (openAt l (k+1)=decide (x.k=3)):=Lib.hid (by show decide (kAt l k=3)=_;rw[kAt_some hx]);generalize openAt l k=o at HO HO'⊢;clear hx hc hmem;obtain⟨xv,xr,xk⟩:=x;simp only at d1 d2 HRW HFX hxn HON;obtain⟨Ax,cx,rfl,-⟩:=id HRW.out;have hbw2:=hbw.alloc hbw.size (.cells #[.int .i64 xk,.slice Ax xr.length cx] 48);have HSX:=Lib.hid (HRW.out.below hbw2);have kb:=(Blk.new wr 48 #[.int .i64 xk,.slice Ax xr.length cx]);by_cases q1:xk<1
    ·have EE:=Lib.hid (HBAD.out k 4 hlt H.out (err_one HX.out (.inl q1)) (by omega))
     clear HO HO' HON;go_wp2;go_ret;exact⟨ret_int (by rw[EE.out]),hbw2⟩
    ·by_cases q2:4<xk
     ·have EE:=Lib.hid (HBAD.out k 4 hlt H.out (err_one HX.out (.inr q2)) (by omega))
      clear HO HO' HON;go_wp2;go_ret;exact⟨ret_int (by rw[EE.out]),hbw2⟩
     ·by_cases hy:keyErr xr=0
      ·have HKE:=Lib.hid (keyErr_ok hy)
       have HY:=Lib.hid hy;clear hy
       go_wp2_with fail
       refine(key_any _ xr _ HSX.out HFX.out (HM.out.below hbw2)).mono ?_;rw[HKE.out];rintro e w2 ⟨rfl,hb2⟩;have y0:=(kb.below hb2).cell 0 _ rfl;have hbw3:=below_trans hbw2 hb2;have hq:xk=1∨xk=2∨xk=3∨xk=4:=by omega
       clear q1 q2 hxn;rcases hq with rfl|rfl|rfl|rfl
       ·cases o
        ·have HZ:=Lib.hid (err_no HX.out (by simp) (by simp) HY.out (by simp))
         clear HO HO';go_wp2;go_roundw
         case rel=>exact⟨k+1,by omega,by go_num,by rw[HON.out];rfl,Lib.hid (pre_more H.out HZ.out),hbw3⟩
         case measure=>simp[intOf];omega
        ·exact absurd (HO.out rfl).2.2 (by rw[kAt_some HX.out];simp)
       ·cases o
        ·have HZ:=Lib.hid (err_no HX.out (by simp) (by simp) HY.out (by simp))
         clear HO HO';go_wp2;go_roundw
         case rel=>exact⟨k+1,by omega,by go_num,by rw[HON.out];rfl,Lib.hid (pre_more H.out HZ.out),hbw3⟩
         case measure=>simp[intOf];omega
        ·exact absurd (HO.out rfl).2.2 (by rw[kAt_some HX.out];simp)
       ·cases o
        ·clear HO HO'
         by_cases hl2:k+1<l.length
         ·have hx2:=List.getElem?_eq_getElem (l:=l) hl2
          generalize l[k+1]=x2 at hx2;obtain⟨g2,off2,hg2,-,hc2⟩:=chn_at HV.out.sl rfl hx2;injection hg2 with hg2;injection hg2 with hg2 hg3;subst hg2;subst hg3;have d3:=(hc2 _ hbw3).1;rw[show off+(k+1)*2=off+(k+1)*2 from rfl]at d3;have HK2:=Lib.hid (kAt_some hx2);clear hx2 hc2;generalize x2.k=y2 at d3 HK2;have hw:IntKind.i64.wrap ((k:Int)+1)=(k:Int)+1:=by rw[IntKind.wrap_i64];omega
          have hw1:((k:Int)+1).toNat=k+1:=by omega
          have i1:(0:Int)≤(k:Int)+1:=by omega
          have i2:(k:Int)+1<(l.length:Int):=by omega
          have i3:((k:Int)+1==(l.length:Int))=false:=beqF (by omega);by_cases q4:y2=4
          ·have HZ:=Lib.hid (err_no HX.out (by simp) (by simp) HY.out (by rintro(⟨-,h⟩|⟨h,-⟩);exact h (by rw[HK2.out];exact q4);exact absurd h (by simp)))
           subst q4;go_wp2;go_roundw
           case rel=>exact⟨k+1,by omega,by go_num,by rw[HON.out];rfl,Lib.hid (pre_more H.out HZ.out),hbw3⟩
           case measure=>simp[intOf];omega
          ·have EE:=Lib.hid (HBAD.out k 6 hlt H.out (err_six HX.out (by simp) (by simp) HY.out (.inl ⟨rfl,by rw[HK2.out];exact q4⟩)) (by decide))
           have q4':=beqF q4;go_wp2;go_ret;exact⟨ret_int (by rw[EE.out]),hbw3⟩
         ·have hke:l.length=k+1:=by omega
          have HKE2:=Lib.hid hke;have EE:=Lib.hid (HBAD.out k 6 hlt H.out (err_six HX.out (by simp) (by simp) HY.out (.inl ⟨rfl,by rw[kAt_none (by omega)];decide⟩)) (by decide));have hw:IntKind.i64.wrap ((k:Int)+1)=(k:Int)+1:=by rw[IntKind.wrap_i64];omega
          have i3:((k:Int)+1==(l.length:Int))=true:=beqT (by omega);clear hke;go_wp2;go_ret;exact⟨ret_int (by rw[EE.out]),hbw3⟩
        ·exact absurd (HO.out rfl).2.2 (by rw[kAt_some HX.out];simp)
       ·cases o
        ·have EE:=Lib.hid (HBAD.out k 6 hlt H.out (err_six HX.out (by simp) (by simp) HY.out (.inr ⟨rfl,HO'.out rfl⟩)) (by decide))
         clear HO HO';go_wp2;go_ret;exact⟨ret_int (by rw[EE.out]),hbw3⟩
        ·have HZ:=Lib.hid (err_no HX.out (by simp) (by simp) HY.out (by rintro(⟨h,-⟩|⟨-,h|h⟩);exact absurd h (by simp);exact absurd h (HO.out rfl).1;exact h (HO.out rfl).2.1))
         clear HO HO';go_wp2;go_roundw
         case rel=>exact⟨k+1,by omega,by go_num,by rw[HON.out];rfl,Lib.hid (pre_more H.out HZ.out),hbw3⟩
         case measure=>simp[intOf];omega
      ·have EE:=Lib.hid (HBAD.out k _ hlt H.out (err_two HX.out (show(1:Int)≤xk by omega) (show xk≤4 by omega) hy) hy)
       have HKE:=Lib.hid (keyErr_bad hy);have hy':=beqF hy;simp only at EE;generalize keyErr xr=y at EE HKE hy';clear HO HO' HON hy
       go_wp2_with fail
       refine(key_any _ xr _ HSX.out HFX.out (HM.out.below hbw2)).mono ?_;rw[HKE.out];rintro e w2 ⟨rfl,hb2⟩;have hbw3:=below_trans hbw2 hb2;go_wp2;go_ret;exact⟨ret_int (by rw[EE.out]),hbw3⟩
   ·obtain rfl:k=l.length:=by omega
    have EE:=Lib.hid (HGOOD.out H.out);go_wp2;go_ret;exact⟨ret_int (by rw[EE.out]),hbw⟩
end Go.Proofs.YtjhbeecmdgglgaaGreatDoor
namespace Go.Proofs.YtjhbeecmdgglgaaGreatDoor
open tm (fitsB)
abbrev Cg:=Int×List Val
def nullV:Val:=⟨0,0,⟨#[]⟩⟩
def nullsR (n:Nat):List Val:=List.replicate n nullV
def keepsB (p:Pl) (side:Int):Bool:=if side=2 then(p.mode==3||p.mode==4)else(p.mode==2||p.mode==4)
def zC:Cg:=(0,[])
def timeAt (R:List Cg) (i:Int):Int:=(R.getD i.toNat zC).1
def rowAt (R:List Cg) (i:Nat):List Val:=(R.getD i zC).2
def batchE (p:Pl) (L R:List Cg):Int:=
 if checkP p≠0 then checkP p else if 120<L.length∨120<R.length∨120<L.length+R.length then 2
 else if(L++R).all (fun x=>fitsB x.1)=false then 3
 else if firstNZ (L.map fun x=>rowE p 1 x.2)≠0 then firstNZ (L.map fun x=>rowE p 1 x.2)else firstNZ (R.map fun x=>rowE p 2 x.2)
structure GoodB2 (p:Pl) (L R:List Cg):Prop where
 plan:checkP p=0
 few:L.length+R.length≤120
 lt: ∀x∈L,fitsB x.1=true
 rt: ∀x∈R,fitsB x.1=true
 lr: ∀x∈L,rowE p 1 x.2=0
 rr: ∀x∈R,rowE p 2 x.2=0
theorem firstNZ_zero {l:List Int}:firstNZ l=0↔ ∀x∈l,x=0:=by
 unfold firstNZ;cases h:l.find? (fun n=>n != 0)with
 |none=>
  rw[List.find?_eq_none]at h;exact⟨fun _ x hx=>by simpa using h x hx,fun _=>rfl⟩
 |some y=>
  have h1:=List.mem_of_find?_eq_some h;have h2:=List.find?_some h;simp only[Option.getD_some];exact⟨fun e=>by subst e;simp at h2,fun e=>e y h1⟩
theorem batch_zero {p:Pl}{L R:List Cg}:batchE p L R=0↔GoodB2 p L R:=by
 unfold batchE;by_cases h1:checkP p=0
 ·rw[if_neg (fun h=>h h1)]
  by_cases h2:120<L.length∨120<R.length∨120<L.length+R.length
  ·rw[if_pos h2]
   exact⟨fun h=>by omega,fun h=>by have:=h.few;omega⟩
  ·rw[if_neg h2]
   by_cases h3:(L++R).all (fun x=>fitsB x.1)=false
   ·rw[if_pos h3]
    refine⟨fun h=>by omega,fun h=> ?_⟩;rw[List.all_eq_false]at h3;obtain⟨x,hx,h4⟩:=h3;exact absurd ((List.mem_append.1 hx).elim (h.lt x) (h.rt x)) h4
   ·rw[if_neg h3]
    have h3': ∀x∈L++R,fitsB x.1=true:=by
     have:(L++R).all (fun x=>fitsB x.1)=true:=by simpa using h3
     rwa[List.all_eq_true]at this
    have z (q:Cg→Int) (M:List Cg):firstNZ (M.map q)=0↔ ∀x∈M,q x=0:=by
     rw[firstNZ_zero];exact⟨fun h x hx=>h _ (List.mem_map.2 ⟨x,hx,rfl⟩),fun h y hy=>by obtain⟨x,hx,rfl⟩:=List.mem_map.1 hy;exact h x hx⟩
    by_cases h5:firstNZ (L.map fun x=>rowE p 1 x.2)=0
    ·rw[if_neg (fun h=>h h5),z]
     rw[z]at h5;exact⟨fun h=>⟨h1,by omega,fun x hx=>h3' x (List.mem_append_left _ hx),fun x hx=>h3' x (List.mem_append_right _ hx),h5,h⟩,fun h=>h.rr⟩
    ·rw[if_pos h5]
     exact⟨fun h=>absurd h h5,fun h=>absurd ((z _ _).2 h.lr) h5⟩
 ·rw[if_pos h1]
  exact⟨fun h=>absurd h h1,fun h=>absurd h.plan h1⟩
def keyed (p:Pl) (side:Int) (r:List Val) (k:ByteArray):Bool:=(keyFor p side r).2&&decide ((keyFor p side r).1=k)
def idxs (p:Pl) (R:List Cg) (k:ByteArray):List Int:=((List.range R.length).filter fun i=>keyed p 2 (rowAt R i) k).map fun i=>((i:Nat):Int)
def overI (R:List Cg) (i:Int):Option Int→Bool
 |some c=>decide (timeAt R c≤timeAt R i)
 |none=>true
def bestStep (R:List Cg) (t:Int) (b:Option Int) (i:Int):Option Int:=
 if timeAt R i≤t∧overI R i b=true then some i else b
def bestI (R:List Cg) (t:Int) (l:List Int):Option Int:=l.foldl (bestStep R t) none
def withI (p:Pl) (R:List Cg) (x:Cg):List Int:=
 if(keyFor p 1 x.2).2=true then
  if p.kind=3 then(bestI R x.1 (idxs p R (keyFor p 1 x.2).1)).toList
  else(idxs p R (keyFor p 1 x.2).1).filter fun i=>meetT p.kind p.low p.high p.size x.1 (timeAt R i)
 else[]
def pairsOf (p:Pl) (R:List Cg) (x:Cg):List (List Val):=
 if(withI p R x).isEmpty then(if keepsB p 1 then[x.2++nullsR p.right.length]else[])else(withI p R x).map fun i=>x.2++rowAt R i.toNat
def aloneB2 (p:Pl) (L R:List Cg) (i:Nat):Bool:= !L.any fun x=>(withI p R x).contains (i:Int)
def lateOf (p:Pl) (L R:List Cg) (i:Nat):List (List Val):=if aloneB2 p L R i&&keepsB p 2 then[nullsR p.left.length++rowAt R i]else[]
def joinL (p:Pl) (L R:List Cg):List (List Val):=L.flatMap (pairsOf p R)++(List.range R.length).flatMap (lateOf p L R)
theorem idxs_mem {p:Pl}{R:List Cg}{k:ByteArray}{i:Int}:i∈idxs p R k↔0≤i∧i<R.length∧keyed p 2 (rowAt R i.toNat) k=true:=by
 unfold idxs;rw[List.mem_map];constructor
 ·rintro⟨n,hn,rfl⟩
  rw[List.mem_filter,List.mem_range]at hn;exact⟨by omega,by omega,by simpa using hn.2⟩
 ·rintro⟨h0,h1,h2⟩
  exact⟨i.toNat,by rw[List.mem_filter,List.mem_range];exact⟨by omega,h2⟩,by omega⟩
theorem idxs_up (p:Pl)(R:List Cg)(k:ByteArray):(idxs p R k).Pairwise (· < ·):=by
 unfold idxs;rw[List.pairwise_map];exact(List.pairwise_lt_range.filter _).imp fun h=>by omega
def BestOf (T:Int→Int) (t:Int) (l:List Int):Option Int→Prop
 |none=> ∀c∈l,t<T c
 |some b=>b∈l∧T b≤t∧ ∀c∈l,T c≤t→c=b∨ltT T c b
theorem best_fold {R:List Cg}{t:Int}: ∀ {l m:List Int} {b:Option Int},BestOf (timeAt R) t m b→(m++l).Pairwise (· < ·)→BestOf (timeAt R) t (m++l) (l.foldl (bestStep R t) b)
 |[],m,b,h,_=>by rw[List.append_nil];exact h
 |i::l,m,b,h,hu=>by
  have e:m++i::l=(m++[i])++l:=by simp
  rw[e]at hu⊢;refine best_fold ?_ hu;have hmi: ∀c∈m,c<i:=fun c hc=>(List.pairwise_append.1 ((List.pairwise_append.1 hu).1)).2.2 c hc i (by simp);unfold bestStep;by_cases h1:timeAt R i≤t
  ·cases b with
   |none=>
    rw[if_pos ⟨h1,rfl⟩];refine⟨by simp,h1,fun c hc h2=> ?_⟩;rcases List.mem_append.1 hc with hc|hc
    ·have:=h c hc;omega
    ·exact .inl (by simpa using hc)
   |some b=>
    obtain⟨hb,hb1,hb2⟩:=h;by_cases h2:timeAt R b≤timeAt R i
    ·rw[if_pos ⟨h1,decide_eq_true h2⟩]
     refine⟨by simp,h1,fun c hc h3=> ?_⟩;rcases List.mem_append.1 hc with hc|hc
     ·have h4:=hmi c hc
      have h5:timeAt R c≤timeAt R b:=by
       rcases hb2 c hc h3 with rfl|h6
       ·omega
       ·unfold ltT at h6;omega
      exact .inr (by unfold ltT;omega)
     ·exact .inl (by simpa using hc)
    ·rw[if_neg (fun h=>h2 (of_decide_eq_true h.2))]
     refine⟨by simp[hb],hb1,fun c hc h3=> ?_⟩;rcases List.mem_append.1 hc with hc|hc
     ·exact hb2 c hc h3
     ·have:c=i:=by simpa using hc
      subst this;exact .inr (.inl (by omega))
  ·rw[if_neg (fun h=>h1 h.1)]
   cases b with
   |none=>exact fun c hc=>(List.mem_append.1 hc).elim (h c) fun hc=>by rw[show c=i by simpa using hc];omega
   |some b=>exact⟨by simp[h.1],h.2.1,fun c hc h3=>(List.mem_append.1 hc).elim (fun hc=>h.2.2 c hc h3) fun hc=>by rw[show c=i by simpa using hc]at h3;omega⟩
theorem best_is {R:List Cg}{t:Int}{l:List Int}(hu:l.Pairwise (· < ·)):BestOf (timeAt R) t l (bestI R t l):=best_fold (m:=[]) (b:=none) (fun c hc=>by cases hc) (by simpa using hu)
theorem best_sorted {T:Int→Int}{t:Int}{l S:List Int}(hp:S.Perm l)(hs:Srt T S){n:Nat}(hn:n≤S.length)(h1: ∀i x,i<n→S[i]?=some x→T x≤t)(h2: ∀i x,n≤i→S[i]?=some x→t<T x):
 BestOf T t l (if n=0 then none else S[n-1]?):=by
 by_cases h0:n=0
 ·rw[if_pos h0]
  intro c hc;obtain⟨i,hi⟩:=List.mem_iff_getElem?.1 (hp.mem_iff.2 hc);exact h2 i c (by omega) hi
 ·rw[if_neg h0,List.getElem?_eq_getElem (by omega)]
  have e:=List.getElem?_eq_getElem (l:=S) (i:=n-1) (by omega);refine⟨hp.mem_iff.1 (List.getElem_mem _),h1 _ _ (by omega) e,fun c hc h3=> ?_⟩;obtain⟨i,hi⟩:=List.mem_iff_getElem?.1 (hp.mem_iff.2 hc)
  have hin:i<n:=by
   rcases Nat.lt_or_ge i n with h|h
   ·exact h
   ·have:=h2 i c h hi;omega
  obtain⟨hil,rfl⟩:=List.getElem?_eq_some_iff.1 hi;by_cases hin2:i=n-1
  ·subst hin2;exact .inl rfl
  ·exact .inr (List.pairwise_iff_getElem.1 hs i (n-1) hil (by omega) (by omega))
end Go.Proofs.YtjhbeecmdgglgaaGreatDoor
namespace Go.Proofs.YtjhbeecmdgglgaaGreatDoor
open Go.RowKit
open tm (fitsB fits_of)
theorem timeAt_ac {R:List Chn}{i:Nat}{x:Chn}(h:R[i]?=some x):timeAt (ac R) (i:Int)=x.k:=by
 unfold timeAt ac;rw[Int.toNat_natCast,List.getD_eq_getElem?_getD,List.getElem?_map,h];rfl
theorem rowAt_ac {R:List Chn}{i:Nat}{x:Chn}(h:R[i]?=some x):rowAt (ac R) i=x.r:=by
 unfold rowAt ac;rw[List.getD_eq_getElem?_getD,List.getElem?_map,h];rfl
set_option maxHeartbeats 2000000 in
set_option maxRecDepth 10000 in
theorem part1_any (c:Nat)(vR:Value)(R:List Chn)(i j:Nat)(wE W:World)(hR:Chs wE vR R)(hb:Below wE.heap.size wE W)(hk:Blk W c 26 #[vR])(hf: ∀x∈R,fitsB x.k=true)(hi:i<R.length)(hj:j<R.length):
 Calls Tryz.prog 89 #[.int .i64 i,.int .i64 j,.pointer (some ⟨c,0,none⟩)] W fun e W'=>e= .returned (.int .i64 (timeAt (ac R) i-timeAt (ac R) j))∧Below W.heap.size W W':=by
 obtain⟨A,cp,hv,n1,n2,-⟩:=id hR.sl;unfold maxLen at n2;have hx:=List.getElem?_eq_getElem (l:=R) hi;generalize R[i]=x at hx;have hy:=List.getElem?_eq_getElem (l:=R) hj;generalize R[j]=y at hy;rw[timeAt_ac hx,timeAt_ac hy];obtain⟨b,off,hA,-,hc⟩:=chn_at hR.sl hv hx;obtain⟨b',off',hA',-,hc'⟩:=chn_at hR.sl hv hy;rw[hA]at hA';injection hA' with hA';injection hA' with e1 e2 _;subst e1 e2;have d0:=(hc W hb).1;have d1:=(hc' W hb).1;have k0:=hk.cell 0 _ rfl;rw[hv,hA]at k0;have fx:=fits_of (hf x (List.mem_of_getElem? hx));have fy:=fits_of (hf y (List.mem_of_getElem? hy));have i0:(0:Int)≤(i:Int):=by omega
 have i1:(i:Int)<(R.length:Int):=by omega
 have j0:(0:Int)≤(j:Int):=by omega
 have j1:(j:Int)<(R.length:Int):=by omega
 have hw:IntKind.i64.wrap (x.k-y.k)=x.k-y.k:=by rw[IntKind.wrap_i64];omega
 clear hx hy hc hc' hR hf hA hv;go_enter Tryz.func89,Tryz.ntmps89
 go_wp2_with fail
 go_quiet (fail)
 go_wp2;go_ret;exact⟨rfl,⟨rfl,rfl,rfl,Nat.le_refl _,fun _ _=>rfl⟩⟩
set_option maxHeartbeats 2000000 in
set_option maxRecDepth 10000 in
theorem part2_any (c6 c7 c5 g cap k:Nat)(z:Int)(vR:Value)(R:List Chn)(M:List Int)(sp:List Value)(t:Int)(u:Value)(wE W:World)(hR:Chs wE vR R)(hb:Below wE.heap.size wE W)(hk6:Blk W c6 26 #[vR])(hk7:Blk W c7 22 #[.slice (some ⟨g,0,none⟩) M.length cap])
 (hk5:Blk W c5 53 #[.int .i64 t,u]) (hI:IRow W g M sp) (hM:M[k]?=some z) (hz:0≤z∧z<R.length) (hl:M.length≤1073741824):
 Calls Tryz.prog 91 #[.int .i64 k,.pointer (some ⟨c6,0,none⟩),.pointer (some ⟨c7,0,none⟩),.pointer (some ⟨c5,0,none⟩)] W fun e W'=>e= .returned (.bool (decide (t<timeAt (ac R) z)))∧Below W.heap.size W W':=by
 obtain⟨A,cp,hv,n1,n2,-⟩:=id hR.sl;unfold maxLen at n2;obtain⟨i,rfl⟩: ∃i:Nat,(i:Int)=z:=⟨z.toNat,by omega⟩;have hi:i<R.length:=by omega
 have hx:=List.getElem?_eq_getElem (l:=R) hi;generalize R[i]=x at hx;rw[timeAt_ac hx];obtain⟨b,off,hA,-,hc⟩:=chn_at hR.sl hv hx;have d0:=(hc W hb).1;have k6:=hk6.cell 0 _ rfl;have k7:=hk7.cell 0 _ rfl;have k5:=hk5.cell 0 _ rfl;have kM:=hI.cell hM;rw[hv,hA]at k6;have hkl:k<M.length:=(List.getElem?_eq_some_iff.1 hM).1;have i0:(0:Int)≤(i:Int):=by omega
 have i1:(i:Int)<(R.length:Int):=by omega
 have j0:(0:Int)≤(k:Int):=by omega
 have j1:(k:Int)<(M.length:Int):=by omega
 clear hx hc hR hA hv hM hI hz;go_enter Tryz.func91,Tryz.ntmps91
 go_wp2_with fail
 go_quiet (fail)
 go_wp2;go_ret;exact⟨rfl,⟨rfl,rfl,rfl,Nat.le_refl _,fun _ _=>rfl⟩⟩
set_option maxHeartbeats 2000000 in
set_option maxRecDepth 10000 in
theorem search_any (n:Nat)(cb:Array Value)(F:Nat→Bool)(w:World)(hn:n≤1073741824)
 (hF: ∀(W:World) (k:Nat),Below w.heap.size w W→k<n→Calls Tryz.prog 91 (#[.int .i64 k]++cb) W fun e W'=>e= .returned (.bool (F k))∧Below W.heap.size W W'):
 Calls Tryz.prog 90 #[.int .i64 n,.func (.func 91) #[] cb] w fun e w'=> ∃i:Nat,e= .returned (.int .i64 i)∧i≤n∧(i=0∨F (i-1)=false)∧(i=n∨F i=true)∧Below w.heap.size w w':=by
 have eg: ∀args w,(callFunc 91 args).run Tryz.prog w= .ok (.enter 91 args) w:=enters_of Tryz.func91 (by kernel_rfl) rfl;have HF:=Lib.hid hF;clear hF;go_enter Tryz.func90,Tryz.ntmps90
 go_wp2_with fail
 go_loopw[5,6,7] (fun iv jv _ wr=> ∃i j:Nat,iv= .int .i64 i∧jv= .int .i64 j∧i≤j∧j≤n∧Hid (i=0∨F (i-1)=false)∧Hid (j=n∨F j=true)∧Below w.heap.size w wr) (fun iv jv _ _=>(intOf jv).toNat-(intOf iv).toNat)
 case atStart=>exact⟨0,n,rfl,rfl,Nat.zero_le _,Nat.le_refl _,Lib.hid (.inl rfl),Lib.hid (.inl rfl),Below.refl _ _⟩
 case round=>
  rename World=>wr
  obtain⟨i,j,rfl,rfl,hij,hj,HG1,HG2,hbw⟩:=hrel;by_cases hlt:i<j
  ·obtain⟨k,hk⟩: ∃k,(i+j)/ 2=k:=⟨_,rfl⟩
   have hki:i≤k:=by omega
   have hkj:k<j:=by omega
   have hq2:((i:Int)+(j:Int))/ 2=(k:Int):=by omega
   have HC:=Lib.hid (HF.out wr k hbw (by omega));have HK:=Lib.hid hk;clear hk;cases hz:F k
   ·rw[hz]at HC
    have HG1':Hid (k+1=0∨F (k+1-1)=false):=Lib.hid (.inr (by rw[Nat.add_sub_cancel];exact hz));clear hz
    go_wp2_with fail
    refine Calls.mono (by with_reducible exact HC.out) ?_;rintro e w2 ⟨rfl,hb2⟩;have hbw2:=below_trans hbw hb2;clear hb2;go_wp2;go_roundw
    case rel=>exact⟨k+1,j,by go_num,rfl,by omega,hj,HG1',HG2,hbw2⟩
    case measure=>simp[intOf];omega
   ·rw[hz]at HC
    have HG2':Hid (k=n∨F k=true):=Lib.hid (.inr hz);clear hz
    go_wp2_with fail
    refine Calls.mono (by with_reducible exact HC.out) ?_;rintro e w2 ⟨rfl,hb2⟩;have hbw2:=below_trans hbw hb2;clear hb2;go_wp2;go_roundw
    case rel=>exact⟨i,k,rfl,rfl,hki,by omega,HG1,HG2',hbw2⟩
    case measure=>simp[intOf];omega
  ·obtain rfl:i=j:=by omega
   go_wp2;go_ret;exact⟨i,rfl,hj,HG1.out,HG2.out,hbw⟩
end Go.Proofs.YtjhbeecmdgglgaaGreatDoor
namespace Go.Proofs.YtjhbeecmdgglgaaGreatDoor
open Go.RowKit Go.Maps
set_option maxHeartbeats 4000000 in
set_option maxRecDepth 10000 in
theorem wrongMany_any (p:Pl)(w:World)(h:p.ok w):
 Calls Tryz.prog 61 #[.agg #[.int .i64 p.kind,.int .i64 p.mode,.int .i64 p.low,.int .i64 p.high,.int .i64 p.size,.int .i64 p.limit,p.vl,p.vr,p.vk,p.vq,.bool p.grouped,p.vg,p.va]] w fun e w'=>e= .returned (.bool (!countsB p))∧Below w.heap.size w w':=by
 have E:Hid (countsB p=(allB id [btw p.left.length 1 4,btw p.right.length 1 4,btw p.lkeys.length 1 4,btw p.rkeys.length 1 4]&&(if p.grouped then btw p.aggs.length 1 4&&decide ((p.group.length:Int)≤8-p.aggs.length)else(p.group.length:Int)+p.aggs.length==0))):=Lib.hid rfl;generalize countsB p=R at E⊢;have hB:=below_alloc w (.cells #[.int .i64 p.kind,.int .i64 p.mode,.int .i64 p.low,.int .i64 p.high,.int .i64 p.size,.int .i64 p.limit,p.vl,p.vr,p.vk,p.vq,.bool p.grouped,p.vg,p.va] 25);obtain⟨kind,mode,low,high,size,limit,vl,vr,vk,vq,grouped,vg,va,left,right,lkeys,rkeys,group,aggs⟩:=p;obtain⟨sl,sr,sk,sq,sg,sa⟩:=h;simp only at sl sr sk sq sg sa hB E⊢;obtain⟨A0,c0,rfl,n0,m0,-⟩:=sl;obtain⟨A1,c1,rfl,n1,m1,-⟩:=sr;obtain⟨A2,c2,rfl,n2,m2,-⟩:=sk;obtain⟨A3,c3,rfl,n3,m3,-⟩:=sq;obtain⟨A4,c4,rfl,n4,m4,-⟩:=sg;obtain⟨A5,c5,rfl,n5,m5,-⟩:=sa;unfold maxLen at m0 m1 m2 m3 m4 m5;by_cases hall:btw left.length 1 4=true∧btw right.length 1 4=true∧btw lkeys.length 1 4=true∧btw rkeys.length 1 4=true
 ·obtain⟨h1,h2,h3,h4⟩:=hall
  have e:=E.out;simp only[h1,h2,h3,h4,allB,List.all_cons,List.all_nil,id,Bool.true_and,Bool.and_true]at e;have E2:=Lib.hid e;clear e E;cases grouped
  ·have e:=E2.out
   simp only[Bool.false_eq_true,if_false]at e;by_cases ha:0<aggs.length
   ·have EE:Hid (R=false):=Lib.hid (by rw[e];simp<;>omega)
    clear e E2;go_enter Tryz.func61,Tryz.ntmps61
    go_wp2_with (go_at_call 58;refine(within_any _ _ _ _).mono ?_;rintro e w' ⟨rfl,rfl⟩)
    go_ret;exact⟨ret_bool (by rw[EE.out];rfl),hB⟩
   ·by_cases hg:0<group.length
    ·have EE:Hid (R=false):=Lib.hid (by rw[e];simp<;>omega)
     clear e E2;go_enter Tryz.func61,Tryz.ntmps61
     go_wp2_with (go_at_call 58;refine(within_any _ _ _ _).mono ?_;rintro e w' ⟨rfl,rfl⟩)
     go_ret;exact⟨ret_bool (by rw[EE.out];simp<;>omega),hB⟩
    ·have EE:Hid (R=true):=Lib.hid (by rw[e];simp<;>omega)
     clear e E2;go_enter Tryz.func61,Tryz.ntmps61
     go_wp2_with (go_at_call 58;refine(within_any _ _ _ _).mono ?_;rintro e w' ⟨rfl,rfl⟩)
     go_ret;exact⟨ret_bool (by rw[EE.out];simp<;>omega),hB⟩
  ·have e:=E2.out
   simp only[if_true]at e;cases ha:btw aggs.length 1 4
   ·have EE:Hid (R=false):=Lib.hid (by rw[e,ha];rfl)
    clear e E2;go_enter Tryz.func61,Tryz.ntmps61
    go_wp2_with (go_at_call 58;refine(within_any _ _ _ _).mono ?_;rintro e w' ⟨rfl,rfl⟩)
    go_ret;exact⟨ret_bool (by rw[EE.out];rfl),hB⟩
   ·by_cases hg:(group.length:Int)≤8-aggs.length
    ·have EE:Hid (R=true):=Lib.hid (by rw[e,ha];simpa using hg)
     clear e E2;have hg': ¬(8-(aggs.length:Int)<(group.length:Int)):=by omega
     go_enter Tryz.func61,Tryz.ntmps61
     go_wp2_with (go_at_call 58;refine(within_any _ _ _ _).mono ?_;rintro e w' ⟨rfl,rfl⟩)
     go_ret;exact⟨ret_bool (by rw[EE.out];simp<;>omega),hB⟩
    ·have EE:Hid (R=false):=Lib.hid (by rw[e,ha];simp<;>omega)
     clear e E2;have hg':(8-(aggs.length:Int)<(group.length:Int)):=by omega
     go_enter Tryz.func61,Tryz.ntmps61
     go_wp2_with (go_at_call 58;refine(within_any _ _ _ _).mono ?_;rintro e w' ⟨rfl,rfl⟩)
     go_ret;exact⟨ret_bool (by rw[EE.out];simp<;>omega),hB⟩
 ·have EE:Hid (R=false):=Lib.hid (by
   rw[E.out];rw[Bool.and_eq_false_iff];left;simp only[allB,List.all_cons,List.all_nil,id,Bool.and_true];cases h1:btw left.length 1 4
   ·rfl
   ·cases h2:btw right.length 1 4
    ·rfl
    ·cases h3:btw lkeys.length 1 4
     ·rfl
     ·cases h4:btw rkeys.length 1 4
      ·rfl
      ·exact absurd ⟨h1,h2,h3,h4⟩ hall)
  clear E;cases h1:btw left.length 1 4
  ·clear hall
   go_enter Tryz.func61,Tryz.ntmps61
   go_wp2_with (go_at_call 58;refine(within_any _ _ _ _).mono ?_;rintro e w' ⟨rfl,rfl⟩)
   go_ret;exact⟨ret_bool (by rw[EE.out];rfl),hB⟩
  ·cases h2:btw right.length 1 4
   ·clear hall
    go_enter Tryz.func61,Tryz.ntmps61
    go_wp2_with (go_at_call 58;refine(within_any _ _ _ _).mono ?_;rintro e w' ⟨rfl,rfl⟩)
    go_ret;exact⟨ret_bool (by rw[EE.out];rfl),hB⟩
   ·cases h3:btw lkeys.length 1 4
    ·clear hall
     go_enter Tryz.func61,Tryz.ntmps61
     go_wp2_with (go_at_call 58;refine(within_any _ _ _ _).mono ?_;rintro e w' ⟨rfl,rfl⟩)
     go_ret;exact⟨ret_bool (by rw[EE.out];rfl),hB⟩
    ·cases h4:btw rkeys.length 1 4
     ·clear hall
      go_enter Tryz.func61,Tryz.ntmps61
      go_wp2_with (go_at_call 58;refine(within_any _ _ _ _).mono ?_;rintro e w' ⟨rfl,rfl⟩)
      go_ret;exact⟨ret_bool (by rw[EE.out];rfl),hB⟩
     ·exact absurd ⟨h1,h2,h3,h4⟩ hall
def onceB (l:List Int):Bool:=(List.range l.length).all fun i=>(List.range i).all fun k=>l.getD i 0 != l.getD k 0
theorem once_no {l:List Int}{i k:Nat}(hi:i<l.length)(hk:k<i)(h:l.getD i 0=l.getD k 0):onceB l=false:=by
 unfold onceB;rw[List.all_eq_false];refine⟨i,List.mem_range.2 hi,?_⟩;rw[Bool.not_eq_true,List.all_eq_false];exact⟨k,List.mem_range.2 hk,by rw[h];simp⟩
theorem once_yes {l:List Int}(h: ∀i k,i<l.length→k<i→l.getD i 0≠l.getD k 0):onceB l=true:=by
 unfold onceB;rw[List.all_eq_true];intro i hi;rw[List.all_eq_true];intro k hk;simpa using h i k (List.mem_range.1 hi) (List.mem_range.1 hk)
set_option maxHeartbeats 4000000 in
set_option maxRecDepth 10000 in
theorem once_any (v:Value)(l:List Int)(w:World)(h:Sl w v l.length (intCells l)):
 Calls Tryz.prog 106 #[v] w fun e w'=>e= .returned (.bool (onceB l))∧Below w.heap.size w w':=by
 have HH:=Lib.hid h;obtain⟨A,c,rfl,h1,h2,-⟩:=h;unfold maxLen at h2;go_enter Tryz.func106,Tryz.ntmps106
 go_wp2
 go_loopw[3,4] (fun i _ wr=> ∃k:Nat,k≤l.length∧i= .int .i64 k∧Hid (∀i j,i<k→j<i→l.getD i 0≠l.getD j 0)∧Below w.heap.size w wr) (fun i _ _=>l.length-(intOf i).toNat)
 case atStart=>exact⟨0,by omega,rfl,fun i j h=>absurd h (by omega),Below.refl _ _⟩
 case round=>
  obtain⟨i,hi,rfl,H,hbw⟩:=hrel;by_cases hlt:i<l.length
  ·obtain⟨b,off,rfl,-,hc⟩:=int_at HH.out rfl hlt
   have HCI:=Lib.hid hc;clear hc;go_wp2
   go_loopw[4] (fun j wr=> ∃k:Nat,k≤i∧j= .int .i64 k∧Hid (∀j,j<k→l.getD i 0≠l.getD j 0)∧Below w.heap.size w wr) (fun j _=>i-(intOf j).toNat)
   case atStart=>exact⟨0,by omega,rfl,fun j h=>absurd h (by omega),hbw⟩
   case round=>
    obtain⟨k,hk,rfl,H2,hbw2⟩:=hrel;by_cases hlk:k<i
    ·have hkl:k<l.length:=by omega
     obtain⟨b',off',hA,-,hc'⟩:=int_at HH.out rfl hkl;injection hA with hA;injection hA with e1 e2;subst e1 e2;have d1:=HCI.out _ hbw2;have d2:=hc' _ hbw2;obtain⟨x,hx⟩: ∃x,l.getD i 0=x:=⟨_,rfl⟩;rw[hx]at d1;have HX:=Lib.hid hx;obtain⟨y,hy⟩: ∃y,l.getD k 0=y:=⟨_,rfl⟩;rw[hy]at d2;have HY:=Lib.hid hy;have i0:(0:Int)≤(i:Int):=by omega
     have i1:(i:Int)<(l.length:Int):=by omega
     have k0:(0:Int)≤(k:Int):=by omega
     have k1:(k:Int)<(l.length:Int):=by omega
     clear hy hx hc';cases hq:(x==y)
     ·have hn:Hid (∀j,j<k+1→l.getD i 0≠l.getD j 0):=Lib.hid (by
       intro j hj;rcases Nat.lt_or_ge j k with h|h
       ·exact H2.out j h
       ·obtain rfl:j=k:=by omega
        rw[HX.out,HY.out];simpa using hq)
      go_wp2_with fail
      go_quiet (fail)
      go_wp2;go_roundw
      case rel=>exact⟨k+1,by omega,by go_num,hn,below_drewN hbw2 _⟩
      case measure=>simp[intOf];omega
     ·have e1:=Lib.hid (once_no hlt hlk (by rw[HX.out,HY.out];simpa using hq))
      go_wp2_with fail
      go_quiet (fail)
      go_wp2;go_ret;exact⟨ret_bool e1.out.symm,below_drewN hbw2 _⟩
    ·obtain rfl:k=i:=by omega
     have hn:Hid (∀i j,i<k+1→j<i→l.getD i 0≠l.getD j 0):=Lib.hid (by
      intro a j ha hj;rcases Nat.lt_or_ge a k with h|h
      ·exact H.out a j h hj
      ·obtain rfl:a=k:=by omega
       exact H2.out j hj)
     go_wp2;go_roundw
     case rel=>exact⟨k+1,by omega,by go_num,hn,hbw2⟩
     case measure=>simp[intOf];omega
  ·obtain rfl:i=l.length:=by omega
   have e1:=Lib.hid (once_yes H.out);go_wp2;go_ret;exact⟨ret_bool e1.out.symm,hbw⟩
end Go.Proofs.YtjhbeecmdgglgaaGreatDoor
namespace Go.Proofs.YtjhbeecmdgglgaaGreatDoor
open Go.RowKit Go.Maps
theorem once_iff (l:List Int):onceB l=true↔l.Nodup:=by
 constructor
 ·intro h
  rw[List.Nodup,List.pairwise_iff_getElem];intro i j hi hj hij;unfold onceB at h;rw[List.all_eq_true]at h;have h1:=h j (List.mem_range.2 hj);rw[List.all_eq_true]at h1;have h2:=h1 i (List.mem_range.2 hij);simp[hi,hj]at h2;exact fun e=>h2 e.symm
 ·intro h
  rw[List.Nodup,List.pairwise_iff_getElem]at h;refine once_yes fun i k hi hk=> ?_;have hkl:k<l.length:=by omega
  simp only[List.getD_eq_getElem?_getD,List.getElem?_eq_getElem hi,List.getElem?_eq_getElem hkl,Option.getD_some];exact fun e=>h k i hkl hi hk e.symm
theorem unlR_iff (n:Int): ∀(l seen:List Int),unlR n seen l=true↔(∀x∈l,btw x 0 (n-1)=true)∧(∀x∈l,x∉seen)∧l.Nodup
 |[],seen=>by simp[unlR]
 |x::r,seen=>by
  simp only[unlR,Bool.and_eq_true,unlR_iff n r,beq_iff_eq,List.count_eq_zero,List.nodup_cons,List.mem_cons,List.mem_append,List.mem_nil_iff,or_false,forall_eq_or_imp];constructor
  ·rintro⟨⟨h1,h2⟩,h3,h4,h5⟩
   refine⟨⟨h1,h3⟩,⟨h2,fun y hy=>fun e=>h4 y hy (.inl e)⟩,fun hx=>h4 x hx (.inr rfl),h5⟩
  ·rintro⟨⟨h1,h3⟩,⟨h2,h4⟩,h6,h5⟩
   refine⟨⟨h1,h2⟩,h3,fun y hy e=> ?_,h5⟩;rcases e with e|e
   ·exact h4 y hy e
   ·subst e;exact h6 hy
theorem unl_eq (l:List Int)(n:Int):unlikeB l n=(onceB l&&allB (fun x=>btw x 0 (n-1)) l):=by
 rw[Bool.eq_iff_iff,Bool.and_eq_true,once_iff];unfold unlikeB allB;rw[unlR_iff,List.all_eq_true];constructor
 ·rintro⟨h1,-,h3⟩;exact⟨h3,h1⟩
 ·rintro⟨h3,h1⟩;exact⟨h1,by simp,h3⟩
def pairR (left right:List Int) (q:Int×Int):Bool:=btw q.1 0 ((left.length:Int)-1)&&(btw q.2 0 ((right.length:Int)-1)&&pairOk left right q)
def formR (p:Pl):Bool:= !(decide (p.high<p.low))&&((p.lkeys.length==p.rkeys.length)&&(onceB p.lkeys&&(onceB p.rkeys&&(onceB p.group&&(allB (pairR p.left p.right) (p.lkeys.zip p.rkeys)&&(allB (fun x=>btw x 0 (((p.left++p.right).length:Int)-1)) p.group&&allB (aggOk (p.left++p.right)) p.aggs))))))
theorem form_eq (p:Pl):formR p=formB p:=by
 unfold formR formB;by_cases hl:p.lkeys.length=p.rkeys.length
 ·rw[Bool.eq_iff_iff]
  rw[unl_eq,unl_eq,unl_eq];simp only[Bool.and_eq_true]
  have hz:allB (pairR p.left p.right) (p.lkeys.zip p.rkeys)=true↔allB (fun x=>btw x 0 ((p.left.length:Int)-1)) p.lkeys=true∧allB (fun x=>btw x 0 ((p.right.length:Int)-1)) p.rkeys=true∧allB (pairOk p.left p.right) (p.lkeys.zip p.rkeys)=true:=by
   unfold allB pairR;simp only[List.all_eq_true,Bool.and_eq_true];constructor
   ·intro h
    refine⟨fun x hx=> ?_,fun x hx=> ?_,fun q hq=>(h q hq).2.2⟩
    ·rw[←List.map_fst_zip (l₁:=p.lkeys) (l₂:=p.rkeys) (by omega)]at hx
     obtain⟨q,hq,rfl⟩:=List.mem_map.1 hx;exact(h q hq).1
    ·rw[←List.map_snd_zip (l₁:=p.lkeys) (l₂:=p.rkeys) (by omega)]at hx
     obtain⟨q,hq,rfl⟩:=List.mem_map.1 hx;exact(h q hq).2.1
   ·rintro⟨h1,h2,h3⟩ q hq
    have:=List.of_mem_zip (a:=q.1) (b:=q.2) hq;exact⟨h1 _ this.1,h2 _ this.2,h3 q hq⟩
  rw[hz];constructor
  ·rintro⟨a,b,c,d,e,⟨f,g,h⟩,i,j⟩
   exact⟨a,b,⟨c,f⟩,⟨d,g⟩,⟨e,i⟩,h,j⟩
  ·rintro⟨a,b,⟨c,f⟩,⟨d,g⟩,⟨e,i⟩,h,j⟩
   exact⟨a,b,c,d,e,⟨f,g,h⟩,i,j⟩
 ·have:(p.lkeys.length==p.rkeys.length)=false:=by simpa using hl
  rw[this];simp
end Go.Proofs.YtjhbeecmdgglgaaGreatDoor
namespace Go.Proofs.YtjhbeecmdgglgaaGreatDoor
open Go.RowKit
theorem own_empty (W:World)(base:Nat)(h:base≤W.heap.size):(W.alloc (.cells #[] 3)).ownsRow base 3 1 (.slice (some ⟨W.heap.size,0,none⟩) 0 0) 0 []:=
 ⟨rfl,.inr ⟨_,0,#[],rfl,h,heap_alloc_new W _,Nat.le_refl _,by decide,rfl,rfl⟩⟩
set_option maxHeartbeats 4000000 in
set_option maxRecDepth 10000 in
theorem types_any (p:Pl)(w:World)(h:p.ok w)(hl:p.left.length≤1000)(hr:p.right.length≤1000):
 Calls Tryz.prog 62 #[.agg #[.int .i64 p.kind,.int .i64 p.mode,.int .i64 p.low,.int .i64 p.high,.int .i64 p.size,.int .i64 p.limit,p.vl,p.vr,p.vk,p.vq,.bool p.grouped,p.vg,p.va]] w fun e w'=> ∃v,e= .returned v∧Sl w' v (p.left++p.right).length (intCells (p.left++p.right))∧(∀k,v.ownBlock=some k→w.heap.size≤k)∧Below w.heap.size w w':=by
 have HL:=Lib.hid h.l;have HR:=Lib.hid h.r;clear h;obtain⟨kind,mode,low,high,size,limit,vl,vr,vk,vq,grouped,vg,va,left,right,lkeys,rkeys,group,aggs⟩:=p;simp only at HL HR hl hr⊢;obtain⟨A0,c0,rfl,n0,m0,-⟩:=id HL.out;obtain⟨A1,c1,rfl,n1,m1,-⟩:=id HR.out;unfold maxLen at m0 m1;have K1:=new_first w 25 #[.int .i64 kind,.int .i64 mode,.int .i64 low,.int .i64 high,.int .i64 size,.int .i64 limit,.slice A0 left.length c0,.slice A1 right.length c1,vk,vq,.bool grouped,vg,va] (.cells #[] 3);have O1:=own_empty (w.alloc (.cells #[.int .i64 kind,.int .i64 mode,.int .i64 low,.int .i64 high,.int .i64 size,.int .i64 limit,.slice A0 left.length c0,.slice A1 right.length c1,vk,vq,.bool grouped,vg,va] 25)) w.heap.size (by simp);rw[World.size_alloc]at O1;have hB:=below_trans (below_alloc w (.cells #[.int .i64 kind,.int .i64 mode,.int .i64 low,.int .i64 high,.int .i64 size,.int .i64 limit,.slice A0 left.length c0,.slice A1 right.length c1,vk,vq,.bool grouped,vg,va] 25)) (below_alloc _ (.cells #[] 3));have S1:=Lib.hid (HL.out.below hB).drew;have hB:=hB.drew;have y6:=K1.drew.cell 6 _ rfl;have y7:=K1.drew.cell 7 _ rfl;have L1:=Lib.hid (show(intCells left).length=left.length*1 from by rw[intCells_len];omega);have L2:=Lib.hid (show(intCells right).length=right.length*1 from by rw[intCells_len];omega);have B1:0+left.length≤maxLen:=by unfold maxLen;omega
 have B2:(0+left.length)*8≤140737488355328:=by omega
 have B3:0+left.length+right.length≤maxLen:=by unfold maxLen;omega
 have B4:(0+left.length+right.length)*8≤140737488355328:=by omega
 have HB1:=Lib.hid B1;have HB2:=Lib.hid B2;have HB3:=Lib.hid B3;have HB4:=Lib.hid B4;have HO1:=Lib.hid (show((w.alloc (.cells #[.int .i64 kind,.int .i64 mode,.int .i64 low,.int .i64 high,.int .i64 size,.int .i64 limit,.slice A0 left.length c0,.slice A1 right.length c1,vk,vq,.bool grouped,vg,va] 25)).alloc (.cells #[] 3)).drew.ownsRow w.heap.size 3 1 (.slice (some ⟨w.heap.size+1,0,none⟩) 0 0) 0 []from O1);have HK1:=Lib.hid K1.drew;clear B1 B2 B3 B4 O1 K1;go_enter Tryz.func62,Tryz.ntmps62
 go_wp2_with fail
 go_region_law
  ((first
    |(refine step_app (by rfl) _ _ 22 (by rfl) w.heap.size 3 1 8 Tryz.underlying22 intI (.slice (some ⟨w.heap.size+1,0,none⟩) 0 0) 0 _ (by rfl) HO1.out _ left.length (intCells left) (by rfl) S1.out L1.out (intCells_one left) HB1.out HB2.out hB.size ?_
      intro v1 w1 hown1 hgrow hat;have hb1:=below_grown hB hgrow (own_ge HO1.out);have T2:=HR.out.below hb1;have y7:=(HK1.out.grown hgrow (fun e=>by simp[Value.ownBlock]at e)).cell 7 _ rfl)
    |(refine step_app (by rfl) _ _ 22 (by rfl) w.heap.size 3 1 8 Tryz.underlying22 intI v1 (0+left.length) _ (by rfl) hown1 _ right.length (intCells right) (by rfl) T2 L2.out (intCells_one right) HB3.out HB4.out hb1.size ?_
      intro v2 w2 hown2 hgrow2 hat2)))
 all_goals
  have S3:Hid (Sl w2 v2 (left++right).length (intCells (left++right))):=Lib.hid (by
   have:=Sl.of_own hown2;have e:0+left.length+right.length=(left++right).length:=by rw[List.length_append];omega
   rw[List.nil_append,←intCells_app,e]at this;exact this)
  have O3:=Lib.hid (own_ge hown2);have B3:=below_grown hb1 hgrow2 (own_ge hown1);clear hown1 hown2 hgrow hgrow2;go_wp2;go_ret;exact⟨_,rfl,S3.out,O3.out,B3⟩
end Go.Proofs.YtjhbeecmdgglgaaGreatDoor
