/-Add, and the reference's AddTo. The reference's AddTo. The plain law of Fold. Plain law of groups: their rows are good; the view of groups. Changes of -/
import Derived.Test.YtjhbeecmdgglgaaGreatDoorGrpW24
import Derived.Test.YtjhbeecmdgglgaaGreatDoorGrpW25
import Derived.Test.YtjhbeecmdgglgaaGreatDoorGrpW27
import Derived.Test.YtjhbeecmdgglgaaGreatDoorGrpW7
import Derived.Test.YtjhbeecmdgglgaaGreatDoorGrpW17
import Derived.Test.YtjhbeecmdgglgaaGreatDoorGrpW23
import Derived.Test.YtjhbeecmdgglgaaGreatDoorGrpW1
import Derived.Lib.AppendZerosOnto
import Derived.Lib.Overlaps
import Derived.WalkSmall
import Derived.Test.YtjhbeecmdgglgaaGreatDoorGrpW6
import Derived.Test.YtjhbeecmdgglgaaGreatDoorGrpW12
import Derived.Test.YtjhbeecmdgglgaaGreatDoorGrpW21
set_option linter.unusedSimpArgs false
set_option linter.unusedVariables false
namespace Go.Proofs.YtjhbeecmdgglgaaGreatDoor
open Go.RowKit Go.Maps
theorem addR_rises {A:AV}{r:List Val}{n:Int}(h:Rises A)(hr:GoodR r):Rises (addR A r n).1:=by
 unfold addR;split
 ·exact h
 ·split
  ·exact h
  ·split
   ·exact rises_del h
   ·exact rises_put h hr
theorem putA_len (A:AV)(r:List Val)(n:Int):(putA A r n).length≤A.length+1:=by
 induction A with
 |nil=>simp[putA]
 |cons x t ih=>
  obtain⟨x,m⟩:=x;unfold putA;split
  ·simp
  ·split
   ·simp;omega
   ·simp
theorem delA_len (A:AV)(r:List Val):(delA A r).length≤A.length:=by
 induction A with
 |nil=>simp[delA]
 |cons x t ih=>
  obtain⟨x,m⟩:=x;unfold delA;split
  ·simp
  ·simp;omega
theorem look_num {A:AV}(r:List Val)(h: ∀p∈A,1≤p.2∧p.2≤1073741824):0≤lookA A r∧lookA A r≤1073741824:=by
 induction A with
 |nil=>simp[lookA]
 |cons x t ih=>
  obtain⟨x,m⟩:=x;have:=h (x,m) (by simp);have i:=ih fun p hp=>h p (by simp[hp]);simp only at this;unfold lookA;split
  ·omega
  ·exact i
theorem View.nil (w:World):View w (.slice none 0 0) []:=⟨Sl.nil_ w,nofun⟩
end Go.Proofs.YtjhbeecmdgglgaaGreatDoor
namespace Go.Proofs.YtjhbeecmdgglgaaGreatDoor
open Go.RowKit Go.Maps
end Go.Proofs.YtjhbeecmdgglgaaGreatDoor
namespace Go.Proofs.YtjhbeecmdgglgaaGreatDoor
open Go.RowKit Go.Maps
def foldR:AV→Int→List (Int×List Val)→AV×Int×Int
 |A,_,[]=>(A,0,0)
 |A,i,c::t=>if(addR A c.2 (stepI c.1)).2=0 then foldR (addR A c.2 (stepI c.1)).1 (i+1) t else([],i,(addR A c.2 (stepI c.1)).2)
def foldS (l:List Cnt) (m:List Chn):AV×Int×Int:=
 if chkV l≠0 then([],0,chkV l)else if formC m≠0 then([],0,formC m)else foldR (av l) 0 (ac m)
theorem addR_ok {A:AV}{r:List Val}{n:Int}(h:(addR A r n).2=0):
 0≤lookA A r+n∧lookA A r+n≤1073741824∧ ¬(hasA A r=false∧0<lookA A r+n∧A.length=4096)∧
 (addR A r n).1=if lookA A r+n=0 then delA A r else putA A r (lookA A r+n):=by
 unfold addR at h⊢;by_cases h1:lookA A r+n<0
 ·rw[if_pos h1]at h;simp at h
 ·rw[if_neg h1]at h⊢
  by_cases h2:1073741824<lookA A r+n∨(hasA A r=false∧0<lookA A r+n∧A.length=4096)
  ·rw[if_pos h2]at h;simp at h
  ·rw[if_neg h2]
   refine⟨by omega,Int.not_lt.1 (fun h=>h2 (.inl h)),fun h=>h2 (.inr h),?_⟩;split<;>rfl
theorem put_mem2 {A:AV}{r:List Val}{n:Int}{p:List Val×Int}(h:p∈putA A r n):p∈A∨p.2=n:=by
 induction A with
 |nil=>simp[putA]at h;exact .inr (by rw[h])
 |cons x t ih=>
  obtain⟨x,m⟩:=x;unfold putA at h;split at h
  ·rcases List.mem_cons.1 h with rfl|h
   ·exact .inr rfl
   ·exact .inl (by simp[h])
  ·split at h
   ·rcases List.mem_cons.1 h with rfl|h
    ·exact .inl (by simp)
    ·rcases ih h with h|h
     ·exact .inl (by simp[h])
     ·exact .inr h
   ·rcases List.mem_cons.1 h with rfl|h
    ·exact .inr rfl
    ·exact .inl h
theorem addR_nums {A:AV}{r:List Val}{n:Int}(h: ∀p∈A,1≤p.2∧p.2≤1073741824)(h0:(addR A r n).2=0): ∀p∈(addR A r n).1,1≤p.2∧p.2≤1073741824:=by
 obtain⟨h1,h2,-,e⟩:=addR_ok h0;rw[e];intro p hp;split at hp
 ·exact h p (del_mem hp)
 ·rcases put_mem2 hp with hp|hp
  ·exact h p hp
  ·omega
theorem put_has_len {A:AV}{r:List Val}{n:Int}(h:Rises A)(hr:GoodR r)(hh:hasA A r=true):(putA A r n).length=A.length:=by
 induction A with
 |nil=>simp[hasA]at hh
 |cons x t ih=>
  obtain⟨x,m⟩:=x;have hx:GoodR x:=h.good (x,m) (by simp);unfold putA;by_cases e:rowsF x r=0
  ·rw[if_pos e];simp
  ·rw[if_neg e]
   unfold hasA at hh;have hh':hasA t r=true:=by simpa[e]using hh
   by_cases l:rowsF x r<0
   ·rw[if_pos l];simp[ih h.tail hh']
   ·exfalso
    have hlt:rowsF r x<0:=by rw[rowsF_flip hx hr];omega
    have:hasA t r=false:=by
     have hno: ∀p∈t,rowsF p.1 r≠0:=fun p hp=>by
      have:=rowsF_trans hr hx (h.good p (by simp[hp])) hlt ((List.pairwise_cons.1 h.rise).1 p hp);have hf:=rowsF_flip (h.good p (by simp[hp])) hr;omega
     clear hh' hh ih h
     induction t with
     |nil=>rfl
     |cons y t ih=>
      obtain⟨y,c⟩:=y;unfold hasA;have:=hno (y,c) (by simp);simp only at this;simp[this,ih fun p hp=>hno p (by simp[hp])]
    rw[this]at hh';cases hh'
theorem addR_few {A:AV}{r:List Val}{n:Int}(h:Rises A)(hr:GoodR r)(hl:A.length≤4096)(h0:(addR A r n).2=0):(addR A r n).1.length≤4096:=by
 obtain⟨h1,h2,h3,e⟩:=addR_ok h0;rw[e];split
 ·have:=delA_len A r;omega
 ·cases hh:hasA A r with
  |true=>rw[put_has_len h hr hh];exact hl
  |false=>
   have:=putA_len A r (lookA A r+n);by_cases h4:A.length=4096
   ·exact absurd ⟨hh,by omega,h4⟩ h3
   ·omega
structure GoodA (A:AV):Prop where
 few:A.length≤4096
 rises:Rises A
 nums: ∀p∈A,1≤p.2∧p.2≤1073741824
theorem GoodV.a {l:List Cnt}(h:GoodV l):GoodA (av l):=⟨by unfold av;rw[List.length_map];exact h.few,h.rises,h.nums⟩
theorem GoodA.add {A:AV}{r:List Val}{n:Int}(h:GoodA A)(hr:GoodR r)(h0:(addR A r n).2=0):GoodA (addR A r n).1:=
 ⟨addR_few h.rises hr h.few h0,addR_rises h.rises hr,addR_nums h.nums h0⟩
end Go.Proofs.YtjhbeecmdgglgaaGreatDoor
namespace Go.Proofs.YtjhbeecmdgglgaaGreatDoor
theorem wrapI_range (n:Int): -9223372036854775808≤wrapI n∧wrapI n≤9223372036854775807:=by
 unfold wrapI;rw[IntKind.wrap_i64];omega
theorem int_good {n:Int}(h: -9223372036854775808≤n∧n≤9223372036854775807):GoodR [(⟨2,n,⟨#[]⟩⟩:Val)]:=⟨fun x hx=>by
 rw[List.mem_singleton.1 hx];exact⟨by unfold checkV;simp[ByteArray.toList_eq],h⟩,by simp⟩
theorem null_good:GoodR [nullG]:=⟨fun x hx=>by
 rw[List.mem_singleton.1 hx];exact⟨by unfold checkV nullG;simp[ByteArray.toList_eq],by unfold nullG;simp⟩,by simp⟩
theorem fine_good {r:List Val}(h:GoodR r):Fine r:=⟨fun x hx=>Nat.le_trans (good_size (h.good x hx).1) (by omega),fun x hx=>(h.good x hx).2⟩
theorem keyErr_goodG {r:List Val}(h:GoodR r):keyErr r=0:=by
 unfold keyErr;rw[if_neg (by have:=h.few;omega)]
 exact firstNZ_none fun x hx=>by
  obtain⟨y,hy,rfl⟩:=List.mem_map.1 hx;exact(h.good y hy).1
end Go.Proofs.YtjhbeecmdgglgaaGreatDoor
namespace Go.Proofs.YtjhbeecmdgglgaaGreatDoor
open Go.RowKit Go.Maps
theorem chgI:EInfo Tryz.prog 48 2 32:=by
 have h:(Tryz.prog.info? 48).map (fun i=>(i.zero,i.size,i.bytes))=some (some (.agg #[.int .i64 0,.slice none 0 0]),2,32):=by kernel_rfl
 obtain⟨i,hi,h1,h2,h3⟩:=info_parts h;exact⟨i,_,hi,h1,h2,h3,rfl,by omega⟩
structure OwnC (w:World) (base:Nat) (v:Value) (l:List Chn):Prop where
 own:w.ownsRow base 48 2 v l.length (chnCells l)
 rows: ∀c∈l,Sl w c.v c.r.length (rowCells c.r)
 far: ∀c∈l,∀k,c.v.ownBlock=some k→base≤k∧k<w.heap.size∧v.ownBlock≠some k
theorem OwnC.chs {w:World}{base:Nat}{v:Value}{l:List Chn}(h:OwnC w base v l):Chs w v l:=⟨Sl.of_own h.own,h.rows⟩
theorem OwnC.below {w w':World}{base:Nat}{v:Value}{l:List Chn}(h:OwnC w base v l)(hb:Below w.heap.size w w'):OwnC w' base v l:=
 ⟨own_below h.own hb,fun c hc=>(h.rows c hc).below hb,fun c hc k hk=>⟨(h.far c hc k hk).1,Nat.lt_of_lt_of_le (h.far c hc k hk).2.1 hb.size,(h.far c hc k hk).2.2⟩⟩
theorem OwnC.alloc {w:World}{base:Nat}{v:Value}{l:List Chn}(h:OwnC w base v l)(o:Obj):OwnC (w.alloc o) base v l:=h.below (below_alloc w o)
theorem OwnC.drew {w:World}{base:Nat}{v:Value}{l:List Chn}(h:OwnC w base v l):OwnC w.drew base v l:=⟨h.own,h.rows,h.far⟩
theorem OwnC.nil (w:World)(base:Nat):OwnC w base (.slice none 0 0) []:=⟨⟨rfl,.inl ⟨rfl,rfl⟩⟩,nofun,nofun⟩
theorem chnCells_app (a b:List Chn):chnCells (a++b)=chnCells a++chnCells b:=List.flatMap_append
theorem OwnC.snoc {w w':World}{base:Nat}{v v':Value}{l:List Chn}{c:Chn}(h:OwnC w base v l)(hown:w'.ownsRow base 48 2 v' (l.length+1) (chnCells l++c.cells))(hg:w.grownBy w' v.ownBlock)(hat:v'.ownBlock=v.ownBlock∨v'.ownBlock=some w.heap.size)
 (hc:Sl w c.v c.r.length (rowCells c.r)) (hf: ∀k,c.v.ownBlock=some k→base≤k∧k<w.heap.size∧v.ownBlock≠some k):OwnC w' base v' (l++[c]):=by
 have hfar: ∀d∈l++[c],Sl w d.v d.r.length (rowCells d.r)∧ ∀k,d.v.ownBlock=some k→base≤k∧k<w.heap.size∧v.ownBlock≠some k:=by
  intro d hd;rcases List.mem_append.1 hd with hd|hd
  ·exact⟨h.rows d hd,h.far d hd⟩
  ·simp only[List.mem_singleton]at hd;subst hd;exact⟨hc,hf⟩
 refine⟨?_,fun d hd=>sl_grown (hfar d hd).1 hg (fun k hk=>((hfar d hd).2 k hk).2.2),fun d hd k hk=> ?_⟩
 ·rw[chnCells_app,List.length_append]
  simpa[chnCells]using hown
 ·obtain⟨h0,h1,h2⟩:=(hfar d hd).2 k hk
  refine⟨h0,Nat.lt_of_lt_of_le h1 hg.size,fun e=> ?_⟩;rcases hat with e'|e'
  ·exact h2 (e'▸e)
  ·rw[e']at e
   injection e with e;omega
theorem OwnC.set {w:World}{base:Nat}{v:Value}{l:List Chn}(h:OwnC w base v l){p:Addr}(hp:p.block<base)(u:Value):OwnC (w.setCell p u) base v l:=
 ⟨own_set h.own (fun k hk e=>by have:=own_ge h.own k hk;omega) u,fun c hc=>sl_set (h.rows c hc) (fun _ k hk e=>by have:=(h.far c hc k hk).1;omega) u,
  fun c hc k hk=>by have:=h.far c hc k hk;rw[World.size_setCell];exact this⟩
theorem one_chn (W:World)(c:Chn):Sl (W.alloc (.cells #[.int .i64 c.k,c.v] 48)) (.slice (some ⟨W.heap.size,0,none⟩) 1 1) 1 c.cells:=Sl.block (Blk.new W 48 #[.int .i64 c.k,c.v]) 1 1 (Nat.le_refl _) (by decide)
theorem chn_one {w:World}{c:Chn}{n:Nat}{cs:List Value}(h:Sl w c.v n cs): ∀u∈c.cells,u.oneCell'=true:=by
 obtain⟨A,k,hv,-⟩:=h;intro u hu;simp[Chn.cells]at hu;rcases hu with rfl|rfl
 ·rfl
 ·rw[hv];rfl
end Go.Proofs.YtjhbeecmdgglgaaGreatDoor
namespace Go.Proofs.YtjhbeecmdgglgaaGreatDoor
open Go.RowKit Go.Maps
theorem ac_at {m:List Chn}{k:Nat}{x:Chn}(h:m[k]?=some x):(ac m).drop k=(x.k,x.r)::(ac m).drop (k+1):=by
 have h':(ac m)[k]?=some (x.k,x.r):=by unfold ac;rw[List.getElem?_map,h];rfl
 obtain⟨hk,e⟩:=List.getElem?_eq_some_iff.1 h';rw[List.drop_eq_getElem_cons hk,e]
theorem ac_end (m:List Chn):(ac m).drop m.length=[]:=List.drop_of_length_le (by unfold ac;rw[List.length_map];exact Nat.le_refl _)
set_option maxHeartbeats 4000000 in
set_option maxRecDepth 10000 in
theorem cfold_any (v vm:Value)(l:List Cnt)(m:List Chn)(w:World)(h:View w v l)(hf:FineV l)(hs:Chs w vm m)(hfm:FineC m)(hm:Mx w):
 Calls Tryz.prog 21 #[v,vm] w fun e w'=> ∃v' l',e= .returned (.tuple #[v',.int .i64 (foldS l m).2.1,.int .i64 (foldS l m).2.2])∧View w' v' l'∧av l'=(foldS l m).1∧Below w.heap.size w w':=by
 have HV:=Lib.hid h;have HF:=Lib.hid hf;have HS:=Lib.hid hs;have HFM:=Lib.hid hfm;have HM:=Lib.hid hm;have HE:Hid (foldS l m=if chkV l≠0 then([],0,chkV l)else if formC m≠0 then([],0,formC m)else foldR (av l) 0 (ac m)):=Lib.hid rfl;have HCZ:=Lib.hid (chk_zero hf);have HFZ:=Lib.hid (form_zero hfm);generalize foldS l m=R at HE⊢;obtain⟨Av,cv,rfl,-⟩:=id h.sl;obtain⟨Am,cm,rfl,hm1,hm2,-⟩:=id hs.sl;unfold maxLen at hm2;clear h hf hs hfm hm;generalize hk:chkV l=c at HE HCZ;have HK:=Lib.hid hk;generalize hy:formC m=y at HE HFZ;have HY:=Lib.hid hy;clear hk hy;go_enter Tryz.func21,Tryz.ntmps21
 go_wp2_with fail
 refine(checkView_any _ l _ HV.out HF.out HM.out).mono ?_;rw[HK.out];rintro e w1 ⟨rfl,hb1⟩;by_cases hc:c=0
 ·have HE1:=Lib.hid (HE.out.trans (if_neg (fun h=>h hc)))
  have HG:=Lib.hid (HCZ.out hc);have hc':=beqT hc;clear HE HCZ hc
  go_wp2_with fail
  refine(cform_any _ m _ (HS.out.below hb1) HFM.out (HM.out.below hb1)).mono ?_;rw[HY.out];rintro e w2 ⟨rfl,hb2⟩;have hb12:=below_trans hb1 hb2;by_cases hy:y=0
  ·have HE2:=Lib.hid (HE1.out.trans (if_neg (fun h=>h hy)))
   have HGC:=Lib.hid (HFZ.out hy);have hy':=beqT hy;clear HE1 HFZ hy
   go_wp2_with fail
   refine(of_any _ l _ (HV.out.below hb12) HF.out HG.out (HM.out.below hb12)).mono ?_;rintro e w3 ⟨M,rfl,hM,hP,hb3⟩;have hb13:=below_trans hb12 hb3;have hM2:w.heap.size≤M:=by have:=hb12.size;omega
   have hml:m.length≤4096:=HGC.out.few
   go_wp2_with fail
   go_loopw[10,11,12,13,14,29] (fun _ _ _ _ _ i wr=> ∃(k:Nat) (B:AV),k≤m.length∧i= .int .i64 k∧Hid (R=foldR B k ((ac m).drop k))∧Hid (GoodA B)∧Hid (Pile wr M (4096+k) B)∧Below w.heap.size w wr) (fun _ _ _ _ _ i _=>m.length-(intOf i).toNat)
   case atStart=>exact⟨0,av l,by omega,rfl,HE2.out,HG.out.a,hP,hb13⟩
   case round=>
    obtain⟨k,B,hk,rfl,HR,HGA,HP,hbw⟩:=hrel;by_cases hlt:k<m.length
    ·have hx:=List.getElem?_eq_getElem (l:=m) hlt
     generalize m[k]=x at hx;obtain⟨g,off,rfl,-,hcc⟩:=chn_at HS.out.sl rfl hx;obtain⟨d1,d2⟩:=hcc _ hbw;have hmem:=List.mem_of_getElem? hx;have HRW:=Lib.hid (HS.out.rows x hmem);have HFX:=Lib.hid (HFM.out.rows x hmem);have HGX:=Lib.hid (HGC.out.good x hmem).1;have hx1:=(HGC.out.good x hmem).2.1;have hx4:=(HGC.out.good x hmem).2.2;have HR1:Hid (R=foldR B k ((x.k,x.r)::(ac m).drop (k+1))):=Lib.hid (by rw[HR.out,ac_at hx]);clear hx hcc hmem HR;obtain⟨xv,xr,xk⟩:=x;simp only at d1 d2 HRW HFX HGX hx1 hx4 HR1;obtain⟨Ax,cx,rfl,-⟩:=id HRW.out;have hbw2:=hbw.alloc hbw.size (.cells #[.int .i64 xk,.slice Ax xr.length cx] 48);have HSX:=Lib.hid (HRW.out.below hbw2);have kb:=(Blk.new wr 48 #[.int .i64 xk,.slice Ax xr.length cx]);have HP2:=Lib.hid (HP.out.below (below_alloc wr (.cells #[.int .i64 xk,.slice Ax xr.length cx] 48)))
     have HKE:=Lib.hid (keyErr_ok (r:=xr) (by
      have hz:firstNZ (xr.map checkV)=0:=firstNZ_none (by intro y hy;obtain⟨z,hz,rfl⟩:=List.mem_map.1 hy;exact(HGX.out.good z hz).1);unfold keyErr;rw[if_neg (by have:=HGX.out.few;omega),hz]))
     go_wp2_with fail
     refine(key_any _ xr _ HSX.out HFX.out (HM.out.below hbw2)).mono ?_;rw[HKE.out];rintro e w4 ⟨rfl,hb4⟩;have y0:=(kb.below hb4).cell 0 _ rfl;have y1:=(kb.below hb4).cell 1 _ rfl;have HP4:=Lib.hid (HP2.out.below hb4);have hbw4:=below_trans hbw2 hb4;clear HP HP2
     go_wp2_with fail
     refine(cstep_any xk _ _ hx1 hx4).mono ?_;rintro e w5 ⟨rfl,hb5⟩;have HP5:=Lib.hid (HP4.out.below hb5);have hbw5:=below_trans hbw4 hb5;have hs2:=stepI_two xk;have hln:=look_num xr HGA.out.nums
     go_wp2_with fail
     refine(add_any (n:=stepI xk) _ HP5.out (by omega) HGA.out.rises HGX.out (by omega) (by omega)).mono ?_;rintro e w6 ⟨rfl,hP6,hg6⟩;have hb6:Below w.heap.size w w6:=hbw5.grown hg6 hbw5.size (fun j hj=>by cases hj;exact hM2);have HADD:=Lib.hid (fun h0=>GoodA.add (n:=stepI xk) HGA.out HGX.out h0);have HR2:Hid (R=if(addR B xr (stepI xk)).2=0 then foldR (addR B xr (stepI xk)).1 (k+1) ((ac m).drop (k+1))else([],k,(addR B xr (stepI xk)).2)):=HR1;have HP6:=Lib.hid hP6;clear hP6 hg6 HR1 hs2 hln;generalize addR B xr (stepI xk)=P at HADD HR2 HP6;obtain⟨B2,d⟩:=P;simp only at HADD HR2 HP6;by_cases hd:d=0
     ·have HR3:=Lib.hid (HR2.out.trans (if_pos hd))
      have HG3:=Lib.hid (HADD.out hd);have hd':=beqT hd;clear HR2 HADD hd;go_wp2;go_roundw
      case rel=>exact⟨k+1,B2,by omega,by go_num,HR3.out,HG3.out,HP6.out,hb6⟩
      case measure=>simp[intOf];omega
     ·have EE:=Lib.hid (HR2.out.trans (if_neg hd))
      have hd':=beqF hd;clear HR2 HADD hd;go_wp2
      go_ret3
      first
       |exact⟨.slice none 0 0,[],by rw[EE.out];rfl,View.nil _,by rw[EE.out];rfl,hb6⟩
       |exact⟨.slice none 0 0,by rw[EE.out];rfl,[],View.nil _,by rw[EE.out];rfl,hb6⟩
    ·obtain rfl:k=m.length:=by omega
     have EE:Hid (R=(B,0,0)):=Lib.hid (by rw[HR.out,ac_end];rfl);clear HR
     go_wp2_with fail
     refine(view_any _ HP.out HGA.out.rises (by have:=HGA.out.few;omega)).mono ?_;rintro e w5 ⟨v5,l5,rfl,hO5,ha5,hb5⟩;have HO5:=Lib.hid hO5.view;have HA5:=Lib.hid ha5;have hb6:=below_trans hbw hb5;clear hO5 ha5;go_wp2
     go_ret3
     first
      |exact⟨v5,l5,by rw[EE.out];rfl,HO5.out,by rw[EE.out];exact HA5.out,hb6⟩
      |exact⟨v5,by rw[EE.out];rfl,l5,HO5.out,by rw[EE.out];exact HA5.out,hb6⟩
  ·have EE:=Lib.hid (HE1.out.trans (if_pos hy))
   have hy':=beqF hy;clear HE1 HFZ hy;go_wp2
   go_ret3
   first
    |exact⟨.slice none 0 0,[],by rw[EE.out];rfl,View.nil _,by rw[EE.out];rfl,hb12⟩
    |exact⟨.slice none 0 0,by rw[EE.out];rfl,[],View.nil _,by rw[EE.out];rfl,hb12⟩
 ·have EE:=Lib.hid (HE.out.trans (if_pos hc))
  have hc':=beqF hc;clear HE HCZ hc;go_wp2
  go_ret3
  first
   |exact⟨.slice none 0 0,[],by rw[EE.out];rfl,View.nil _,by rw[EE.out];rfl,hb1⟩
   |exact⟨.slice none 0 0,by rw[EE.out];rfl,[],View.nil _,by rw[EE.out];rfl,hb1⟩
end Go.Proofs.YtjhbeecmdgglgaaGreatDoor
namespace Go.Proofs.YtjhbeecmdgglgaaGreatDoor
open Go.RowKit
end Go.Proofs.YtjhbeecmdgglgaaGreatDoor
namespace Go.Proofs.YtjhbeecmdgglgaaGreatDoor
open Go.RowKit
def cellsL (l:List Int) (r:List Val):List Val:=l.map fun c=>r.getD c.toNat nullG
end Go.Proofs.YtjhbeecmdgglgaaGreatDoor
namespace Go.Proofs.YtjhbeecmdgglgaaGreatDoor
open Go.RowKit
theorem wpList_append_run {P:Program}{w w':World}{ops:Array Oper}{rest:List Oper}{o:Oper}{a:Act}{Q:Exit→Act→World→Prop}{v':Value}(hgd:o.guard=none)(s x:Operand)(t tn:TypeId)
 (ho:o.op= .call {callee:= .builtin .append,args:= #[s,x],argTypes:= #[t,tn]}) (sv xv:Value) (hs:a.eval s=sv) (hx:a.eval x=xv)
 (hrun:(Builtin.append_ #[t,tn] o.type #[sv,xv]).run P w= .ok v' w') (h:wpList P ops Q rest (a.put o.dst v') w'):wpList P ops Q (o::rest) a w:=
 wpList_plain hgd fun _ hK=>by
  unfold Oper.wp execOp;simp only[ho,resolve,invoke,builtin,Sem.run_bind,Sem.run_pure,Result.andThen_ok,List.map_toArray,List.map_cons,List.map_nil,hs,hx,hrun];exact hK _ _ h
end Go.Proofs.YtjhbeecmdgglgaaGreatDoor
namespace Go.Proofs.YtjhbeecmdgglgaaGreatDoor
open Go.RowKit
structure OwnT (w:World) (base:Nat) (v:Value) (l:List Tl):Prop where
 own:w.ownsRow base 181 4 v l.length (tlCells l)
theorem OwnT.snoc {w w':World}{base:Nat}{v v':Value}{l:List Tl}{c:Tl}(h:OwnT w base v l)(hown:w'.ownsRow base 181 4 v' (l.length+1) (tlCells l++c.cells))(hg:w.grownBy w' v.ownBlock)(hat:v'.ownBlock=v.ownBlock∨v'.ownBlock=some w.heap.size)
 (hc:True) (hf:True):OwnT w' base v' (l++[c]):=⟨by rw[tlCells_app,List.length_append];simpa[tlCells]using hown⟩
theorem OwnT.laid {w w':World}{base i:Nat}{v v':Value}{l:List Tl}{c:Tl}(h:OwnT w base v l)(hi:i≤l.length)(hown:w'.ownsRow base 181 4 v' (l.length+1) (tlCells (l.take i)++(c.cells++tlCells (l.drop i))))(hg:w.grownBy w' v.ownBlock)(hat:v'.ownBlock=v.ownBlock∨ ∀k,v'.ownBlock=some k→w.heap.size≤k)
 (hc:True) (hf:True):OwnT w' base v' (l.take i++c::l.drop i):=⟨by
 rw[show(l.take i++c::l.drop i).length=l.length+1 by simp;omega,tlCells_app,show tlCells (c::l.drop i)=c.cells++tlCells (l.drop i)from rfl];exact hown⟩
end Go.Proofs.YtjhbeecmdgglgaaGreatDoor
namespace Go.Proofs.YtjhbeecmdgglgaaGreatDoor
open Go.RowKit
end Go.Proofs.YtjhbeecmdgglgaaGreatDoor
namespace Go.Proofs.YtjhbeecmdgglgaaGreatDoor
open Go.RowKit
structure PosT (l:List Tl) (v:Val) (i:Nat):Prop where
 le:i≤l.length
 low: ∀j y,j<i→l[j]?=some y→cmpV y.v v<0
 high: ∀j y,i≤j→l[j]?=some y→0≤cmpV y.v v
structure UpT (l:List Tl):Prop where
 good: ∀x∈l,GoodR [x.v]
 rise:l.Pairwise fun a b=>cmpV a.v b.v<0
end Go.Proofs.YtjhbeecmdgglgaaGreatDoor
namespace Go.Proofs.YtjhbeecmdgglgaaGreatDoor
open Go.RowKit
theorem OwnT.below {w w':World}{base:Nat}{v:Value}{l:List Tl}(h:OwnT w base v l)(hb:Below w.heap.size w w'):OwnT w' base v l:=⟨own_below h.own hb⟩
end Go.Proofs.YtjhbeecmdgglgaaGreatDoor
namespace Go.Proofs.YtjhbeecmdgglgaaGreatDoor
open Go.RowKit Go.Maps
theorem sl_turned {F:Nat→Prop}{w w':World}{v:Value}{n:Nat}{cs:List Value}(h:Sl w v n cs)(ht:Turned F w w')(hg: ∀k,v.ownBlock=some k→ ¬F k):Sl w' v n cs:=by
 obtain⟨A,c,rfl,h1,h2,h0,h3⟩:=h;refine⟨A,c,rfl,h1,h2,h0,fun hne=> ?_⟩;obtain⟨b,off,rfl,hc⟩:=h3 hne;refine⟨b,off,rfl,fun j u hj=> ?_⟩;have h4:=hc j u hj;rw[World.cell?_of_block (ht.same b (World.block_lt_of_cell? w _ h4) (hg b rfl))];exact h4
theorem own_turned {F:Nat→Prop}{w w':World}{base:Nat}{e:TypeId}{size n:Nat}{v:Value}{xs:List Value}(h:w.ownsRow base e size v n xs)(ht:Turned F w w')(hg: ∀k,v.ownBlock=some k→ ¬F k):w'.ownsRow base e size v n xs:=by
 refine⟨h.1,?_⟩;rcases h.2 with hn|⟨g,cap,cur,rfl,hb,hgg,rest⟩
 ·exact .inl hn
 ·exact .inr ⟨g,cap,cur,rfl,hb,(ht.same g (Array.getElem?_eq_some_iff.1 hgg).1 (hg g rfl)).trans hgg,rest⟩
theorem map_turned {F:Nat→Prop}{w w':World}{R:Value→Option (DataW Unit×List MemPlace)}{M n:Nat}{D:DataW Unit}(h:w.ownsMap Tryz.prog 9 R M n D)(ht:Turned F w w')(hM: ¬F M):w'.ownsMap Tryz.prog 9 R M n D:=by
 have hlt:=h.lt;obtain⟨es,clock,hb,r⟩:=h;exact⟨es,clock,(ht.same M hlt hM).trans hb,r⟩
def GBk (b:Nat) (x:Gm) (k:Nat):Prop:=k=b∨x.v.ownBlock=some k∨x.vb.ownBlock=some k∨ ∃q∈x.bags,q.1.ownBlock=some k
structure GpO (w:World) (base b:Nat) (x:Gm):Prop where
 cell:Blk w b 126 #[x.v,.int .i64 x.n,x.vb]
 row:Sl w x.v x.r.length (rowCells x.r)
 sl:w.ownsRow base 155 1 x.vb x.bags.length (x.bags.map (·.1))
 bag: ∀q∈x.bags,w.ownsRow base 181 4 q.1 q.2.length (tlCells q.2)
 range: ∀k,GBk b x k→base≤k∧k<w.heap.size
 bv:x.v.ownBlock≠some b
 bvb:x.vb.ownBlock≠some b
 bq: ∀q∈x.bags,q.1.ownBlock≠some b
 vvb: ∀k,x.v.ownBlock=some k→x.vb.ownBlock≠some k
 vq: ∀k,x.v.ownBlock=some k→ ∀q∈x.bags,q.1.ownBlock≠some k
 vbq: ∀k,x.vb.ownBlock=some k→ ∀q∈x.bags,q.1.ownBlock≠some k
 pair:x.bags.Pairwise fun p q=> ∀k,p.1.ownBlock=some k→q.1.ownBlock≠some k
theorem GpO.turned {F:Nat→Prop}{w w':World}{base b:Nat}{x:Gm}(h:GpO w base b x)(ht:Turned F w w')(hf: ∀k,GBk b x k→ ¬F k):GpO w' base b x:=
 ⟨blk_turned h.cell ht (hf b (.inl rfl)),sl_turned h.row ht fun k hk=>hf k (.inr (.inl hk)),own_turned h.sl ht fun k hk=>hf k (.inr (.inr (.inl hk))),fun q hq=>own_turned (h.bag q hq) ht fun k hk=>hf k (.inr (.inr (.inr ⟨q,hq,hk⟩))),
  fun k hk=>⟨(h.range k hk).1,Nat.lt_of_lt_of_le (h.range k hk).2 ht.size⟩,h.bv,h.bvb,h.bq,h.vvb,h.vq,h.vbq,h.pair⟩
theorem GpO.below {w w':World}{base b:Nat}{x:Gm}(h:GpO w base b x)(hb:Below w.heap.size w w'):GpO w' base b x:=h.turned (turned_below (F:=fun _=>False) hb) fun _ _ hf=>hf
theorem GpO.ok {w:World}{base b:Nat}{x:Gm}(h:GpO w base b x):x.ok w:=⟨h.row,Sl.of_own h.sl,fun q hq=>Sl.of_own (h.bag q hq)⟩
def ptrE (v:Value):Option (DataW Unit×List MemPlace):=match v with
 | .pointer none=>some (.lit (.int .i64 0),[])
 | .pointer (some ⟨b,0,none⟩)=>some (.lit (.int .i64 ((b:Int)+1)),[])
 |_=>none
def ax (X:List (Nat×Gm)):AV:=X.map fun p=>(p.2.r,(p.1:Int)+1)
structure GMap (w:World) (base M N:Nat) (X:List (Nat×Gm)):Prop where
 map: ∃n,n≤N∧w.ownsMap Tryz.prog 9 ptrE M n (mkD (ax X))
 mb:base≤M
 each: ∀p∈X,GpO w base p.1 p.2
 far: ∀p∈X,¬GBk p.1 p.2 M
 apart:X.Pairwise fun p q=> ∀k,GBk p.1 p.2 k→ ¬GBk q.1 q.2 k
def MBk (M:Nat) (X:List (Nat×Gm)) (k:Nat):Prop:=k=M∨ ∃p∈X,GBk p.1 p.2 k
theorem GMap.lt {w:World}{base M N:Nat}{X:List (Nat×Gm)}(h:GMap w base M N X):M<w.heap.size:=by
 obtain⟨n,-,h⟩:=h.map;exact h.lt
theorem GMap.range {w:World}{base M N:Nat}{X:List (Nat×Gm)}(h:GMap w base M N X){k:Nat}(hk:MBk M X k):base≤k∧k<w.heap.size:=by
 rcases hk with rfl|⟨p,hp,hk⟩
 ·exact⟨h.mb,h.lt⟩
 ·exact(h.each p hp).range k hk
theorem GMap.turned {F:Nat→Prop}{w w':World}{base M N:Nat}{X:List (Nat×Gm)}(h:GMap w base M N X)(ht:Turned F w w')(hf: ∀k,MBk M X k→ ¬F k):GMap w' base M N X:=by
 obtain⟨n,hn,hm⟩:=h.map;exact⟨⟨n,hn,map_turned hm ht (hf M (.inl rfl))⟩,h.mb,fun p hp=>(h.each p hp).turned ht fun k hk=>hf k (.inr ⟨p,hp,hk⟩),h.far,h.apart⟩
theorem GMap.below {w w':World}{base M N:Nat}{X:List (Nat×Gm)}(h:GMap w base M N X)(hb:Below w.heap.size w w'):GMap w' base M N X:=h.turned (turned_below (F:=fun _=>False) hb) fun _ _ hf=>hf
end Go.Proofs.YtjhbeecmdgglgaaGreatDoor
namespace Go.Proofs.YtjhbeecmdgglgaaGreatDoor
open Go.RowKit Go.Maps
end Go.Proofs.YtjhbeecmdgglgaaGreatDoor
namespace Go.Proofs.YtjhbeecmdgglgaaGreatDoor
open Go.RowKit
end Go.Proofs.YtjhbeecmdgglgaaGreatDoor
namespace Go.Proofs.YtjhbeecmdgglgaaGreatDoor
open Go.RowKit Go.Maps
theorem GMap.snoc {w w2 w3:World}{base M N b:Nat}{X:List (Nat×Gm)}{x:Gm}(h:GMap w base M N X)(hb:Below w.heap.size w w2)(ho:GpO w2 w.heap.size b x)(hm: ∃n,n≤N+1∧w3.ownsMap Tryz.prog 9 ptrE M n (mkD (ax (X++[(b,x)]))))(hg:w2.grownBy w3 (some M))(hbase:base≤w.heap.size):GMap w3 base M (N+1) (X++[(b,x)]):=by
 have ht:=turned_grown hg;have hlt:=h.lt;have hr: ∀k,GBk b x k→w.heap.size≤k:=fun k hk=>(ho.range k hk).1;refine⟨hm,h.mb,fun p hp=> ?_,fun p hp=> ?_,?_⟩
 ·rcases List.mem_append.1 hp with hp|hp
  ·exact(((h.each p hp).below hb).turned ht fun k hk e=>h.far p hp (by injection e with e;rw[e];exact hk))
  ·rw[List.mem_singleton.1 hp]
   have h1:=ho.turned ht fun k hk e=>by injection e with e;have:=hr k hk;omega
   exact⟨h1.cell,h1.row,own_le h1.sl hbase,fun q hq=>own_le (h1.bag q hq) hbase,fun k hk=>⟨Nat.le_trans hbase (h1.range k hk).1,(h1.range k hk).2⟩,h1.bv,h1.bvb,h1.bq,h1.vvb,h1.vq,h1.vbq,h1.pair⟩
 ·rcases List.mem_append.1 hp with hp|hp
  ·exact h.far p hp
  ·rw[List.mem_singleton.1 hp]
   exact fun hk=>by have:=hr M hk;omega
 ·refine List.pairwise_append.2 ⟨h.apart,List.pairwise_singleton _ _,fun p hp q hq k hk e=> ?_⟩
  rw[List.mem_singleton.1 hq]at e;have:=hr k e;have:=((h.each p hp).range k hk).2;omega
end Go.Proofs.YtjhbeecmdgglgaaGreatDoor
namespace Go.Proofs.YtjhbeecmdgglgaaGreatDoor
open Go.RowKit Go.Maps
theorem mem_mid {α:Type}{p a:α}{X1 X2:List α}(h:p∈X1++a::X2):p=a∨p∈X1++X2:=by
 rcases List.mem_append.1 h with h|h
 ·exact .inr (List.mem_append.2 (.inl h))
 ·rcases List.mem_cons.1 h with h|h
  ·exact .inl h
  ·exact .inr (List.mem_append.2 (.inr h))
theorem mem_rest {α:Type}{p a:α}{X1 X2:List α}(h:p∈X1++X2):p∈X1++a::X2:=by
 rcases List.mem_append.1 h with h|h
 ·exact List.mem_append.2 (.inl h)
 ·exact List.mem_append.2 (.inr (List.mem_cons_of_mem _ h))
theorem gbk_symm {p q:Nat×Gm}(h: ∀k,GBk p.1 p.2 k→ ¬GBk q.1 q.2 k): ∀k,GBk q.1 q.2 k→ ¬GBk p.1 p.2 k:=fun k hq hp=>h k hp hq
theorem mapTurned_turned {w w':World}{b:Nat}(h:w.mapTurned w' b):Turned (fun k=>k=b) w w':=by
 exact(turned_grown h.grown).imp fun k _ e=>by injection e with e;exact e.symm
structure Tn (w:World) (base M:Nat) (X:List (Nat×Gm)) (w':World) (N:Nat) (X':List (Nat×Gm)):Prop where
 map:GMap w' base M N X'
 turned:Turned (MBk M X) w w'
 old: ∀k,k<w.heap.size→MBk M X' k→MBk M X k
theorem Tn.start {w:World}{base M N:Nat}{X:List (Nat×Gm)}(h:GMap w base M N X):Tn w base M X w N X:=⟨h,Turned.refl _ _,fun _ _ h=>h⟩
theorem Tn.below {w w1 w2:World}{base M N:Nat}{X X':List (Nat×Gm)}(h:Tn w base M X w1 N X')(hb:Below w1.heap.size w1 w2):Tn w base M X w2 N X':=⟨h.map.below hb,h.turned.transN (turned_below (F:=fun _=>False) hb) (fun _ _ f=>f.elim),h.old⟩
theorem Tn.more {w w1:World}{base M N N':Nat}{X X':List (Nat×Gm)}(h:Tn w base M X w1 N X')(hN:N≤N'):Tn w base M X w1 N' X':=by
 obtain⟨⟨⟨n,hn,hm⟩,h1,h2,h3,h4⟩,h5,h6⟩:=h;exact⟨⟨⟨n,Nat.le_trans hn hN,hm⟩,h1,h2,h3,h4⟩,h5,h6⟩
theorem Tn.put {w w1 w2 w3:World}{base M N b:Nat}{X X1 X2:List (Nat×Gm)}{x:Gm}(h:Tn w base M X w1 N (X1++X2))(hb:Below w1.heap.size w1 w2)(ho:GpO w2 w1.heap.size b x)(hm: ∃n,n≤N+1∧w3.ownsMap Tryz.prog 9 ptrE M n (mkD (ax (X1++(b,x)::X2))))(hg:w2.grownBy w3 (some M))(hbase:base≤w1.heap.size):Tn w base M X w3 (N+1) (X1++(b,x)::X2):=by
 have ht:=turned_grown hg;have hlt:=h.map.lt;have hr: ∀k,GBk b x k→w1.heap.size≤k:=fun k hk=>(ho.range k hk).1;have hsz:=h.turned.size;have hM: ∀ {k},some M=some k→k=M:=fun e=>by injection e with e;exact e.symm
 refine⟨⟨hm,h.map.mb,fun p hp=> ?_,fun p hp=> ?_,(List.pairwise_middle (fun{p q} h=>gbk_symm h)).2 (List.pairwise_cons.2 ⟨fun p hp k hk e=> ?_,h.map.apart⟩)⟩,?_,fun k hl hm=> ?_⟩
 ·rcases mem_mid hp with rfl|hp
  ·have h1:=ho.turned ht fun k hk e=>by have:=hM e;have:=hr k hk;omega
   exact⟨h1.cell,h1.row,own_le h1.sl hbase,fun q hq=>own_le (h1.bag q hq) hbase,fun k hk=>⟨Nat.le_trans hbase (h1.range k hk).1,(h1.range k hk).2⟩,h1.bv,h1.bvb,h1.bq,h1.vvb,h1.vq,h1.vbq,h1.pair⟩
  ·exact((h.map.each p hp).below hb).turned ht fun k hk e=>h.map.far p hp (by rw[←hM e];exact hk)
 ·rcases mem_mid hp with rfl|hp
  ·exact fun hk=>by have:=hr M hk;omega
  ·exact h.map.far p hp
 ·have:=hr k hk
  have:=((h.map.each p hp).range k e).2;omega
 ·exact(h.turned.transN (turned_below (F:=fun _=>False) hb) (fun _ _ f=>f.elim)).transN ht fun i hi e=>h.old i hi (.inl (hM e))
 ·rcases hm with hm|⟨p,hp,hm⟩
  ·exact h.old k hl (.inl hm)
  ·rcases mem_mid hp with rfl|hp
   ·have:=hr k hm;omega
   ·exact h.old k hl (.inr ⟨p,hp,hm⟩)
theorem Tn.drop {w w1 w2:World}{base M N b:Nat}{X X1 X2:List (Nat×Gm)}{x:Gm}(h:Tn w base M X w1 N (X1++(b,x)::X2))(hm: ∃n,n≤N∧w2.ownsMap Tryz.prog 9 ptrE M n (mkD (ax (X1++X2))))(ht:w1.mapTurned w2 M):Tn w base M X w2 N (X1++X2):=by
 have ht:=mapTurned_turned ht;obtain⟨hp1,hp2⟩:=List.pairwise_cons.1 ((List.pairwise_middle (fun{p q} h=>gbk_symm h)).1 h.map.apart);refine⟨⟨hm,h.map.mb,fun p hp=>(h.map.each p (mem_rest hp)).turned ht fun k hk e=>h.map.far p (mem_rest hp) (e▸hk),fun p hp=>h.map.far p (mem_rest hp),hp2⟩,h.turned.transN ht (fun i hi e=>h.old i hi (.inl e)),fun k hl hm=> ?_⟩;rcases hm with hm|⟨p,hp,hm⟩
 ·exact h.old k hl (.inl hm)
 ·exact h.old k hl (.inr ⟨p,mem_rest hp,hm⟩)
end Go.Proofs.YtjhbeecmdgglgaaGreatDoor
namespace Go.Proofs.YtjhbeecmdgglgaaGreatDoor
open Go.RowKit Go.Maps
abbrev KL:=List (Int×List Val)
def dels (A:AV):KL:=A.flatMap fun p=>List.replicate (-p.2).toNat (2,p.1)
def inss (A:AV):KL:=A.flatMap fun p=>List.replicate p.2.toNat (1,p.1)
def tell (A:AV):KL:=dels A++inss A
end Go.Proofs.YtjhbeecmdgglgaaGreatDoor
namespace Go.Proofs.YtjhbeecmdgglgaaGreatDoor
open Go.RowKit Go.Maps
end Go.Proofs.YtjhbeecmdgglgaaGreatDoor
namespace Go.Proofs.YtjhbeecmdgglgaaGreatDoor
open Go.RowKit Go.Maps
instance valDec:DecidableEq Val:=fun a b=>
 if h:a.k=b.k∧a.n=b.n∧a.s=b.s then isTrue (by cases a;cases b;simp at h;obtain⟨rfl,rfl,rfl⟩:=h;rfl)else isFalse (by rintro rfl;simp at h)
theorem rowsF_gt {a b:List Val}(ha:GoodR a)(hb:GoodR b)(h0: ¬rowsF a b=0)(h1: ¬rowsF a b<0):rowsF b a<0:=by rw[rowsF_flip ha hb];omega
theorem Rises.head {x:List Val}{m:Int}{t:AV}(h:Rises ((x,m)::t)):GoodR x∧ ∀p∈t,rowsF x p.1<0:=⟨h.good (x,m) (by simp),(List.pairwise_cons.1 h.rise).1⟩
theorem look_cons {x:List Val}{m:Int}{t:AV}{r:List Val}:lookA ((x,m)::t) r=if rowsF x r=0 then m else lookA t r:=rfl
theorem has_cons {x:List Val}{m:Int}{t:AV}{r:List Val}:hasA ((x,m)::t) r=(decide (rowsF x r=0)||hasA t r):=rfl
theorem look_good {x:List Val}{m:Int}{t:AV}{r:List Val}(hx:GoodR x)(hr:GoodR r):lookA ((x,m)::t) r=if x=r then m else lookA t r:=by
 rw[look_cons];by_cases e:x=r
 ·rw[if_pos e,if_pos ((rowsF_zero hx hr).2 e)]
 ·rw[if_neg e,if_neg fun h=>e ((rowsF_zero hx hr).1 h)]
theorem has_good {x:List Val}{m:Int}{t:AV}{r:List Val}(hx:GoodR x)(hr:GoodR r):hasA ((x,m)::t) r=(decide (x=r)||hasA t r):=by
 rw[has_cons];by_cases e:x=r
 ·rw[decide_eq_true e,decide_eq_true ((rowsF_zero hx hr).2 e)]
 ·rw[decide_eq_false e,decide_eq_false fun h=>e ((rowsF_zero hx hr).1 h)]
theorem look_less {A:AV}{r:List Val}(hA:Rises A)(hr:GoodR r)(h: ∀p∈A,rowsF r p.1<0):lookA A r=0∧hasA A r=false:=by
 have:=look_more (A:=A) (r:=r) fun p hp=>by rw[rowsF_flip hr (hA.good p hp)];have:=h p hp;omega
 exact⟨this.1,this.2.1⟩
theorem look_head {x:List Val}{m:Int}{t:AV}(h:Rises ((x,m)::t)):lookA t x=0∧hasA t x=false:=look_less h.tail h.head.1 h.head.2
theorem has_no_look {A:AV}{r:List Val}(h:hasA A r=false):lookA A r=0:=by
 induction A with
 |nil=>rfl
 |cons x t ih=>
  obtain⟨x,m⟩:=x;rw[has_cons]at h;simp only[Bool.or_eq_false_iff,decide_eq_false_iff_not]at h;rw[look_cons,if_neg h.1,ih h.2]
theorem has_mem {A:AV}{p:List Val×Int}(hA:Rises A)(h:p∈A):hasA A p.1=true:=by
 induction A with
 |nil=>cases h
 |cons x t ih=>
  obtain⟨x,m⟩:=x;rw[has_cons];rcases List.mem_cons.1 h with rfl|h
  ·rw[decide_eq_true (rowsF_self hA.head.1)];rfl
  ·rw[ih hA.tail h,Bool.or_true]
theorem has_some {A:AV}{r:List Val}(hA:Rises A)(hr:GoodR r)(h:hasA A r=true):(r,lookA A r)∈A:=by
 induction A with
 |nil=>cases h
 |cons x t ih=>
  obtain⟨x,m⟩:=x;rw[has_cons]at h;rw[look_cons];by_cases e:rowsF x r=0
  ·rw[if_pos e,(rowsF_zero hA.head.1 hr).1 e];simp
  ·rw[if_neg e]
   rw[decide_eq_false e,Bool.false_or]at h;exact List.mem_cons_of_mem _ (ih hA.tail h)
theorem look_put {A:AV}{x r:List Val}{n:Int}(hA:Rises A)(hx:GoodR x)(hr:GoodR r):lookA (putA A x n) r=if x=r then n else lookA A r:=by
 induction A with
 |nil=>rw[putA,look_good hx hr]
 |cons y t ih=>
  obtain⟨y,m⟩:=y;have hy:=hA.head.1;unfold putA;by_cases e:rowsF y x=0
  ·rw[if_pos e]
   obtain rfl:=(rowsF_zero hy hx).1 e;rw[look_good hy hr,look_good hy hr];split<;>rfl
  ·rw[if_neg e]
   split
   ·rw[look_good hy hr,look_good hy hr,ih hA.tail]
    by_cases e1:y=r
    ·subst e1
     rw[if_pos rfl,if_pos rfl,if_neg fun h=>e ((rowsF_zero hy hx).2 h.symm)]
    ·rw[if_neg e1,if_neg e1]
   ·rw[look_good hx hr]
theorem has_put {A:AV}{x r:List Val}{n:Int}(hA:Rises A)(hx:GoodR x)(hr:GoodR r):hasA (putA A x n) r=(decide (x=r)||hasA A r):=by
 induction A with
 |nil=>rw[putA,has_good hx hr]
 |cons y t ih=>
  obtain⟨y,m⟩:=y;have hy:=hA.head.1;unfold putA;by_cases e:rowsF y x=0
  ·rw[if_pos e]
   obtain rfl:=(rowsF_zero hy hx).1 e;rw[has_good hy hr,has_good hy hr];cases decide (y=r)<;>simp
  ·rw[if_neg e]
   split
   ·rw[has_cons,has_cons,ih hA.tail]
    cases decide (x=r)<;>simp
   ·rw[has_good hx hr]
theorem rises_ext {P Q:AV}(hP:Rises P)(hQ:Rises Q)(h: ∀r,GoodR r→hasA P r=hasA Q r∧lookA P r=lookA Q r):P=Q:=by
 induction P generalizing Q with
 |nil=>
  cases Q with
  |nil=>rfl
  |cons q t=>have:=(h q.1 (hQ.good q (by simp))).1;rw[has_mem hQ (by simp)]at this;cases this
 |cons p t ih=>
  cases Q with
  |nil=>have:=(h p.1 (hP.good p (by simp))).1;rw[has_mem hP (by simp)]at this;cases this
  |cons q u=>
   obtain⟨p,m⟩:=p;obtain⟨q,n⟩:=q;have hp:=hP.head.1;have hq:=hQ.head.1;by_cases e:rowsF p q=0
   ·obtain rfl:=(rowsF_zero hp hq).1 e
    have h1:=(h p hp).2;rw[look_cons,look_cons,if_pos e,if_pos e]at h1;subst h1
    congr 1
    refine ih hP.tail hQ.tail fun r hr=> ?_;have h2:=h r hr;rw[look_good hp hr,look_good hp hr,has_good hp hr,has_good hp hr]at h2;by_cases e1:p=r
    ·subst e1
     rw[(look_head hP).1,(look_head hQ).1,(look_head hP).2,(look_head hQ).2];exact⟨rfl,rfl⟩
    ·simp only[e1,decide_false,Bool.false_or,if_false]at h2
     exact h2
   ·exfalso
    by_cases l:rowsF p q<0
    ·have h1:=(h p hp).1
     rw[has_mem hP (p:=(p,m)) (by simp),(look_less hQ hp fun x hx=> ?_).2]at h1
     ·cases h1
     ·rcases List.mem_cons.1 hx with rfl|hx
      ·exact l
      ·exact rowsF_trans hp hq (hQ.good x (by simp[hx])) l (hQ.head.2 x hx)
    ·have l':=rowsF_gt hp hq e l
     have h1:=(h q hq).1;rw[has_mem hQ (p:=(q,n)) (by simp),(look_less hP hq fun x hx=> ?_).2]at h1
     ·cases h1
     ·rcases List.mem_cons.1 hx with rfl|hx
      ·exact l'
      ·exact rowsF_trans hq hp (hP.good x (by simp[hx])) l' (hP.head.2 x hx)
theorem GoodA.has {A:AV}(h:GoodA A){r:List Val}(hr:GoodR r):hasA A r=decide (lookA A r≠0):=by
 cases hh:hasA A r with
 |false=>rw[has_no_look hh];rfl
 |true=>have:=h.nums _ (has_some h.rises hr hh);simp only at this;exact(decide_eq_true (by omega)).symm
theorem Rises.cons {x:List Val}{m:Int}{t:AV}(hx:GoodR x)(h:Rises t)(hl: ∀p∈t,rowsF x p.1<0):Rises ((x,m)::t):=
 ⟨fun p hp=>by
  rcases List.mem_cons.1 hp with rfl|hp
  ·exact hx
  ·exact h.good p hp,List.pairwise_cons.2 ⟨hl,h.rise⟩⟩
end Go.Proofs.YtjhbeecmdgglgaaGreatDoor
namespace Go.Proofs.YtjhbeecmdgglgaaGreatDoor
open Go.RowKit Go.Maps
structure KP (A C0 C:AV) (left:Lit→Bool) (m:Int):Prop where
 rises:Rises C
 has: ∀r,GoodR r→hasA C r=(hasA C0 r||(hasA A r&& !left (kOf r)))
 look: ∀r,GoodR r→0≤lookA C r∧lookA C r≤m
theorem KP.start {A C0:AV}{m:Int}(hA:Rises A)(hC:Rises C0)(hm: ∀r,GoodR r→0≤lookA C0 r∧lookA C0 r≤m):KP A C0 C0 (Maps.has (mkD A)) m:=⟨hC,fun r hr=>by
 rw[mkD_has hA.good hr];cases hasA A r<;>simp,hm⟩
theorem KP.step {A C0 C:AV}{left:Lit→Bool}{m:Int}{p:List Val×Int}(h:KP A C0 C left m)(hA:Rises A)(hp:p∈A)(hh:hasA A p.1=true):KP A C0 (putA C p.1 (lookA C p.1+1)) (fun z=>left z&& !z.sameKey (kOf p.1)) (m+1):=by
 have hg:=hA.good p hp;refine⟨rises_put h.rises hg,fun r hr=> ?_,fun r hr=> ?_⟩
 ·rw[has_put h.rises hg hr,h.has r hr,kOf_same hr hg,show(decide (rowsF r p.1=0))=decide (r=p.1)from decide_eq_decide.2 (rowsF_zero hr hg)]
  by_cases e:p.1=r
  ·subst e
   rw[hh];simp
  ·have e': ¬r=p.1:=fun h=>e h.symm
   simp[e,e']
 ·rw[look_put h.rises hg hr]
  have h1:=h.look r hr;have h2:=h.look p.1 hg;split<;>omega
theorem KP.done {A C0 C:AV}{left:Lit→Bool}{m:Int}(h:KP A C0 C left m)(hl: ∀kl,left kl=false): ∀r,GoodR r→hasA C r=(hasA C0 r||hasA A r):=fun r hr=>by rw[h.has r hr,hl];simp
end Go.Proofs.YtjhbeecmdgglgaaGreatDoor
namespace Go.Proofs.YtjhbeecmdgglgaaGreatDoor
open Go.RowKit Go.Maps
end Go.Proofs.YtjhbeecmdgglgaaGreatDoor
namespace Go.Proofs.YtjhbeecmdgglgaaGreatDoor
open Go.RowKit Go.Maps
structure BagSt (r:List Val) (n:Int) (al:List (Int×Int)) (B0 B:List (List Tl)) (i:Nat):Prop where
 ok:(bagsG r n al B0).2=(bagsG r n (al.drop i) (B.drop i)).2
 list:(bagsG r n (al.drop i) (B.drop i)).2=true→(bagsG r n al B0).1=B.take i++(bagsG r n (al.drop i) (B.drop i)).1
 rest:B.drop i=B0.drop i
 len:B.length=B0.length
theorem BagSt.start (r:List Val)(n:Int)(al:List (Int×Int))(B0:List (List Tl)):BagSt r n al B0 B0 0:=⟨rfl,fun _=>rfl,rfl,rfl⟩
theorem BagSt.same {r:List Val}{n:Int}{al:List (Int×Int)}{B0 B:List (List Tl)}{i:Nat}{a:Int×Int}(h:BagSt r n al B0 B i)(ha:al[i]?=some a)(hB:i<B.length)(h1:a.1=1):BagSt r n al B0 B (i+1):=by
 obtain⟨hl,rfl⟩:=List.getElem?_eq_some_iff.1 ha;have e1:=List.drop_eq_getElem_cons hl;have e2:=List.drop_eq_getElem_cons hB;have hs:bagsG r n (al.drop i) (B.drop i)=(B[i]::(bagsG r n (al.drop (i+1)) (B.drop (i+1))).1,(bagsG r n (al.drop (i+1)) (B.drop (i+1))).2):=by rw[e1,e2];exact if_pos h1
 refine⟨by rw[h.ok,hs],fun h2=> ?_,?_,h.len⟩
 ·rw[h.list (by rw[hs];exact h2),hs,List.take_add_one,List.getElem?_eq_getElem hB,Option.toList_some,List.append_assoc]
  rfl
 ·have:=congrArg (List.drop 1) h.rest
  rw[List.drop_drop,List.drop_drop]at this;exact this
theorem BagSt.done {r:List Val}{n:Int}{al:List (Int×Int)}{B0 B:List (List Tl)}{i:Nat}{a:Int×Int}{q:List Tl}(h:BagSt r n al B0 B i)(ha:al[i]?=some a)(hB:B[i]?=some q)(h1:a.1≠1)(h2:(tallyG q (r.getD a.2.toNat nullG) n).2=true):BagSt r n al B0 (B.set i (tallyG q (r.getD a.2.toNat nullG) n).1) (i+1):=by
 obtain⟨hl,rfl⟩:=List.getElem?_eq_some_iff.1 ha;obtain⟨hb,rfl⟩:=List.getElem?_eq_some_iff.1 hB;have e1:=List.drop_eq_getElem_cons hl;have e2:=List.drop_eq_getElem_cons hb;have hs:bagsG r n (al.drop i) (B.drop i)=((tallyG B[i] (r.getD al[i].2.toNat nullG) n).1::(bagsG r n (al.drop (i+1)) (B.drop (i+1))).1,(bagsG r n (al.drop (i+1)) (B.drop (i+1))).2):=by rw[e1,e2];exact(if_neg h1).trans (if_pos h2)
 have e3:(B.set i (tallyG B[i] (r.getD al[i].2.toNat nullG) n).1).drop (i+1)=B.drop (i+1):=List.drop_set_of_lt (by omega);refine⟨by rw[h.ok,hs,e3],fun h3=> ?_,?_,by rw[List.length_set];exact h.len⟩
 ·rw[e3]at h3⊢
  rw[h.list (by rw[hs];exact h3),hs,List.take_add_one,List.getElem?_set_self hb,List.take_set_of_le (Nat.le_refl _),Option.toList_some,List.append_assoc];rfl
 ·rw[e3]
  have:=congrArg (List.drop 1) h.rest;rw[List.drop_drop,List.drop_drop]at this;exact this
theorem BagSt.fail {r:List Val}{n:Int}{al:List (Int×Int)}{B0 B:List (List Tl)}{i:Nat}{a:Int×Int}{q:List Tl}(h:BagSt r n al B0 B i)(ha:al[i]?=some a)(hB:B[i]?=some q)(h1:a.1≠1)(h2:(tallyG q (r.getD a.2.toNat nullG) n).2=false):(bagsG r n al B0).2=false:=by
 obtain⟨hl,rfl⟩:=List.getElem?_eq_some_iff.1 ha;obtain⟨hb,rfl⟩:=List.getElem?_eq_some_iff.1 hB;rw[h.ok,List.drop_eq_getElem_cons hl,List.drop_eq_getElem_cons hb];show(if al[i].1=1 then _ else if _=true then _ else(([]:List (List Tl)),false)).2=false;rw[if_neg h1,if_neg (by rw[h2];simp)]
end Go.Proofs.YtjhbeecmdgglgaaGreatDoor
namespace Go.Proofs.YtjhbeecmdgglgaaGreatDoor
open Go.RowKit Go.Maps
theorem own_made {w:World}{base m n:Nat}{zs:Array Value}(hb:Blk w m 155 zs)(hm:base≤m)(hz:zs.toList=List.replicate n (.slice none 0 0))(hs:zs.size=n)(hn:n≤8):w.ownsRow base 155 1 (.slice (some ⟨m,0,none⟩) n n) n (List.replicate n (.slice none 0 0)):=
 ⟨by simp,.inr ⟨m,n,zs,rfl,hm,hb,Nat.le_refl _,by unfold maxLen;omega,by omega,by rw[Nat.mul_one,←hz,List.take_of_length_le (by rw[Array.length_toList];omega)]⟩⟩
theorem GpO.made {w:World}{base m n:Nat}{v:Value}{key:List Val}{zs:Array Value}(hr:w.ownsRow base 68 3 v key.length (rowCells key))(hb:Blk w m 155 zs)(hm:base≤m)(hz:zs.toList=List.replicate n (.slice none 0 0))(hs:zs.size=n)(hn:n≤8)(hv:v.ownBlock≠some m):
 GpO (w.alloc (.cells #[v,.int .i64 0,.slice (some ⟨m,0,none⟩) n n] 126)) base w.heap.size ⟨v,key,0,.slice (some ⟨m,0,none⟩) n n,List.replicate n (.slice none 0 0,[])⟩:=by
 have h1:=own_ge hr;have h2:=own_lt hr;have h3:=hb.lt;have hsz:(w.alloc (.cells #[v,.int .i64 0,.slice (some ⟨m,0,none⟩) n n] 126)).heap.size=w.heap.size+1:=World.size_alloc ..;have hq: ∀q∈List.replicate n ((.slice none 0 0,[]):Value×List Tl),q.1.ownBlock=none:=fun q hq=>by rw[List.eq_of_mem_replicate hq];rfl
 refine⟨Blk.new _ _ _,(Sl.of_own hr).below (below_alloc _ _),?_,fun q hq'=> ?_,fun k hk=> ?_,fun e=> ?_,fun e=> ?_,fun q hq' e=> ?_,fun k hk e=> ?_,fun k _ q hq' e=> ?_,fun k _ q hq' e=> ?_,?_⟩
 ·show(w.alloc _).ownsRow base 155 1 (.slice (some ⟨m,0,none⟩) n n) (List.replicate n ((.slice none 0 0,[]):Value×List Tl)).length ((List.replicate n ((.slice none 0 0,[]):Value×List Tl)).map (·.1))
  rw[List.length_replicate,List.map_replicate];exact(own_made hb hm hz hs hn).alloc _
 ·rw[List.eq_of_mem_replicate hq']
  exact⟨rfl,.inl ⟨rfl,rfl⟩⟩
 ·rw[hsz]
  rcases hk with rfl|hk|hk|⟨q,hq',hk⟩
  ·omega
  ·have:=h1 k hk;have:=h2 k hk;omega
  ·have:m=k:=by injection hk
   omega
  ·rw[hq q hq']at hk;cases hk
 ·have:=h2 _ e;omega
 ·have:m=w.heap.size:=by injection e
  omega
 ·rw[hq q hq']at e;cases e
 ·have:m=k:=by injection e
  exact hv (by rw[hk,this])
 ·rw[hq q hq']at e;cases e
 ·rw[hq q hq']at e;cases e
 ·exact List.pairwise_iff_getElem.2 fun i j hi hj _ k hk=>by rw[hq _ (List.getElem_mem hi)]at hk;cases hk
end Go.Proofs.YtjhbeecmdgglgaaGreatDoor
namespace Go.Proofs.YtjhbeecmdgglgaaGreatDoor
open Go.RowKit Go.Maps
theorem Tn.trans {w w1 w2:World}{base M N N':Nat}{X X1 X2:List (Nat×Gm)}(h:Tn w base M X w1 N X1)(h2:Tn w1 base M X1 w2 N' X2):Tn w base M X w2 N' X2:=
 ⟨h2.map,h.turned.transN h2.turned fun i hi hm=>h.old i hi hm,fun k hk hm=>h.old k hk (h2.old k (Nat.lt_of_lt_of_le hk h.turned.size) hm)⟩
end Go.Proofs.YtjhbeecmdgglgaaGreatDoor
namespace Go.Proofs.YtjhbeecmdgglgaaGreatDoor
open Go.RowKit Go.Maps
structure KS (A B:AV) (i:Nat) (C:AV):Prop where
 rises:Rises C
 has: ∀r,GoodR r→hasA C r=((decide (1≤i)&&hasA A r)||(decide (2≤i)&&hasA B r))
 look: ∀r,GoodR r→0≤lookA C r∧lookA C r≤((5000*i:Nat):Int)
theorem KS.start (A B:AV):KS A B 0 []:=⟨Rises.nil,fun r _=>by simp[hasA],fun r _=>by simp[lookA]⟩
theorem KS.one {A B C C2:AV}{left:Lit→Bool}{m:Int}(h:KS A B 0 C)(k:KP A C C2 left m)(hl: ∀kl,left kl=false)(hm:m≤5000):KS A B 1 C2:=
 ⟨k.rises,fun r hr=>by rw[k.done hl r hr,h.has r hr];simp,fun r hr=>by have:=k.look r hr;omega⟩
theorem KS.two {A B C C2:AV}{left:Lit→Bool}{m:Int}(h:KS A B 1 C)(k:KP B C C2 left m)(hl: ∀kl,left kl=false)(hm:m≤10000):KS A B 2 C2:=
 ⟨k.rises,fun r hr=>by rw[k.done hl r hr,h.has r hr];simp,fun r hr=>by have:=k.look r hr;omega⟩
structure TwoO (w:World) (base:Nat) (gv:Value) (GL:List Gm) (ov:Value) (m:List Chn):Prop where
 grp:w.ownsRow base 126 3 gv GL.length (gmCells GL)
 out:OwnC w base ov m
 apart: ∀k,gv.ownBlock=some k→ov.ownBlock≠some k∧ ∀c∈m,c.v.ownBlock≠some k
theorem TwoO.nil (w:World)(base:Nat):TwoO w base (.slice none 0 0) [] (.slice none 0 0) []:=⟨⟨rfl,.inl ⟨rfl,rfl⟩⟩,OwnC.nil w base,fun k hk=>by cases hk⟩
theorem TwoO.below {w w':World}{base:Nat}{gv ov:Value}{GL:List Gm}{m:List Chn}(h:TwoO w base gv GL ov m)(hb:Below w.heap.size w w'):TwoO w' base gv GL ov m:=⟨own_below h.grp hb,h.out.below hb,h.apart⟩
theorem OwnC.turned {F:Nat→Prop}{w w':World}{base:Nat}{v:Value}{l:List Chn}(h:OwnC w base v l)(ht:Turned F w w')(hv: ∀k,v.ownBlock=some k→ ¬F k)(hr: ∀c∈l,∀k,c.v.ownBlock=some k→ ¬F k):OwnC w' base v l:=
 ⟨own_turned h.own ht hv,fun c hc=>sl_turned (h.rows c hc) ht (hr c hc),fun c hc k hk=>⟨(h.far c hc k hk).1,Nat.lt_of_lt_of_le (h.far c hc k hk).2.1 ht.size,(h.far c hc k hk).2.2⟩⟩
theorem TwoO.group {w w':World}{base:Nat}{gv gv' ov:Value}{GL:List Gm}{m:List Chn}{x:Gm}(h:TwoO w base gv GL ov m)(hown:w'.ownsRow base 126 3 gv' (GL.length+1) (gmCells GL++x.cells))(hg:w.grownBy w' gv.ownBlock)(hat:gv'.ownBlock=gv.ownBlock∨gv'.ownBlock=some w.heap.size):TwoO w' base gv' (GL++[x]) ov m:=by
 refine⟨?_,h.out.turned (turned_grown hg) (fun k hk e=>(h.apart k e).1 hk) (fun c hc k hk e=>(h.apart k e).2 c hc hk),fun k hk=> ?_⟩
 ·rw[gmCells_app,List.length_append]
  simpa[gmCells]using hown
 ·rcases hat with e|e
  ·exact h.apart k (e▸hk)
  ·rw[e]at hk
   injection hk with hk;subst hk;exact⟨fun e=>by have:=own_lt h.out.own _ e;omega,fun c hc e=>by have:=(h.out.far c hc _ e).2.1;omega⟩
theorem OwnC.app {w w':World}{base:Nat}{v v':Value}{l cs:List Chn}(h:OwnC w base v l)(hown:w'.ownsRow base 48 2 v' (l.length+cs.length) (chnCells l++chnCells cs))(hg:w.grownBy w' v.ownBlock)(hat:v'.ownBlock=v.ownBlock∨v'.ownBlock=some w.heap.size)
 (hc: ∀c∈cs,Sl w c.v c.r.length (rowCells c.r)∧ ∀k,c.v.ownBlock=some k→base≤k∧k<w.heap.size∧v.ownBlock≠some k):OwnC w' base v' (l++cs):=by
 have hfar: ∀d∈l++cs,Sl w d.v d.r.length (rowCells d.r)∧ ∀k,d.v.ownBlock=some k→base≤k∧k<w.heap.size∧v.ownBlock≠some k:=by
  intro d hd;rcases List.mem_append.1 hd with hd|hd
  ·exact⟨h.rows d hd,h.far d hd⟩
  ·exact hc d hd
 refine⟨?_,fun d hd=>sl_grown (hfar d hd).1 hg (fun k hk=>((hfar d hd).2 k hk).2.2),fun d hd k hk=> ?_⟩
 ·rw[chnCells_app,List.length_append]
  exact hown
 ·obtain⟨h0,h1,h2⟩:=(hfar d hd).2 k hk
  refine⟨h0,Nat.lt_of_lt_of_le h1 hg.size,fun e=> ?_⟩;rcases hat with e'|e'
  ·exact h2 (e'▸e)
  ·rw[e']at e
   injection e with e;omega
theorem TwoO.tell {w w':World}{base:Nat}{gv ov ov':Value}{GL:List Gm}{m cs:List Chn}(h:TwoO w base gv GL ov m)(hown:w'.ownsRow base 48 2 ov' (m.length+cs.length) (chnCells m++chnCells cs))(hg:w.grownBy w' ov.ownBlock)(hat:ov'.ownBlock=ov.ownBlock∨ov'.ownBlock=some w.heap.size)
 (hc: ∀c∈cs,Sl w c.v c.r.length (rowCells c.r)∧ ∀k,c.v.ownBlock=some k→base≤k∧k<w.heap.size∧ov.ownBlock≠some k∧gv.ownBlock≠some k):TwoO w' base gv GL ov' (m++cs):=by
 refine⟨own_turned h.grp (turned_grown hg) fun k hk e=>(h.apart k hk).1 e,h.out.app hown hg hat fun c hcs=>⟨(hc c hcs).1,fun k hk=>let z:=(hc c hcs).2 k hk;⟨z.1,z.2.1,z.2.2.1⟩⟩,fun k hk=>⟨fun e=> ?_,fun c hcm e=> ?_⟩⟩
 ·rcases hat with e'|e'
  ·exact(h.apart k hk).1 (e'▸e)
  ·rw[e']at e
   injection e with e;have:=own_lt h.grp k hk;omega
 ·rcases List.mem_append.1 hcm with hcm|hcm
  ·exact(h.apart k hk).2 c hcm e
  ·exact((hc c hcm).2 k e).2.2.2 hk
end Go.Proofs.YtjhbeecmdgglgaaGreatDoor
namespace Go.Proofs.YtjhbeecmdgglgaaGreatDoor
open Go.RowKit
structure Ones (l:List Cnt) (m:Nat) (L:List (Val×Int)):Prop where
 len:l.length=L.length
 each: ∀(k:Nat) (c:Cnt),l[k]?=some c→ ∃x,c.r[m]?=some x∧L[k]?=some (x,c.n)
theorem cnt_cells {w:World}{l:List Cnt}{v:Value}(h:Sl w v l.length (cntCells l)){A:Option Addr}{n c:Nat}(hv:v= .slice A n c){k:Nat}{x:Cnt}(hk:l[k]?=some x):
 ∃b off,A=some ⟨b,off,none⟩∧b<w.heap.size∧ ∀w',Below w.heap.size w w'→w'.cell? ⟨b,off+k*2,none⟩=some x.v∧w'.cell? ⟨b,off+k*2+1,none⟩=some (.int .i64 x.n):=by
 obtain⟨A',c',hv',h1,h2,-,h3⟩:=h;rw[hv]at hv';injection hv' with e1 e2 e3;subst e1;have a0:=flat_at Cnt.cells_len l k 0 (by omega);have a1:=flat_at Cnt.cells_len l k 1 (by omega);rw[hk]at a0 a1;simp only[Option.bind_some,Nat.add_zero]at a0 a1;obtain⟨b,off,hA,hc⟩:=h3 (by intro h0;rw[show l.flatMap Cnt.cells=cntCells l from rfl,h0]at a0;simp[Cnt.cells]at a0);have c0:=hc _ _ a0;have c1:=hc _ _ a1;exact⟨b,off,hA,World.block_lt_of_cell? w _ c0,fun w' hb=>⟨cell_below hb c0,cell_below hb c1⟩⟩
theorem blk_farAll {g h:Nat}{t:TypeId}{cs:Array Value}(hne:g≠h): ∀ {l:List Value} {w:World} {i:Nat},Blk w g t cs→Blk (setAll w h i l) g t cs
 |[],_,_,k=>k
 |v::l,w,i,k=>blk_farAll hne (l:=l) (w:=w.setCell ⟨h,i,none⟩ v) (i:=i+1) (k.far (p:=⟨h,i,none⟩) hne v)
theorem foldl_at {α β:Type}{f:β→α→β}{l:List α}{k:Nat}{x:α}{s:β}(h:l[k]?=some x):(l.drop k).foldl f s=(l.drop (k+1)).foldl f (f s x):=by
 obtain⟨hk,rfl⟩:=List.getElem?_eq_some_iff.1 h;rw[List.drop_eq_getElem_cons hk];rfl
end Go.Proofs.YtjhbeecmdgglgaaGreatDoor
