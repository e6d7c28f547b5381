/-Worlds of which only some blocks have turned. Views: in memory; Check, and the reference's CheckView. Changes: in memory; Form. The reference's FormOf -/
import Derived.Test.YtjodlngbiikgfaaGreatDoorGrpK1
import Derived.Test.YtjodlngbiikgfaaGreatDoorGrpK3
import Derived.Test.YtjodlngbiikgfaaGreatDoorGrpK2
import Derived.Test.YtjodlngbiikgfaaGreatDoorGrpK7
import Derived.Test.YtjodlngbiikgfaaGreatDoorGrpK8
import Derived.Maps.OwnSet
import Derived.StringKeys
import Derived.SizedLaws
import Derived.Deep.Fields
import Derived.Test.YtjodlngbiikgfaaGreatDoorGrpK5
set_option linter.unusedSimpArgs false
set_option linter.unusedVariables false
namespace Go.Proofs.YtjodlngbiikgfaaGreatDoor
open Go.RowKit Go.Maps
structure Turned (F:Nat→Prop) (w w':World):Prop where
 os:w'.os=w.os
 tape:w'.tape=w.tape
 output:w'.output=w.output
 size:w.heap.size≤w'.heap.size
 same: ∀k,k<w.heap.size→ ¬F k→w'.heap[k]?=w.heap[k]?
theorem Turned.refl (F:Nat→Prop)(w:World):Turned F w w:=⟨rfl,rfl,rfl,Nat.le_refl _,fun _ _ _=>rfl⟩
theorem Turned.trans {F:Nat→Prop}{a b c:World}(h:Turned F a b)(k:Turned F b c):Turned F a c:=
 ⟨k.os.trans h.os,k.tape.trans h.tape,k.output.trans h.output,Nat.le_trans h.size k.size,fun i hi hf=>(k.same i (Nat.lt_of_lt_of_le hi h.size) hf).trans (h.same i hi hf)⟩
theorem Turned.imp {F G:Nat→Prop}{w w':World}(h:Turned F w w')(hi: ∀k,k<w.heap.size→F k→G k):Turned G w w':=⟨h.os,h.tape,h.output,h.size,fun k hk hg=>h.same k hk fun hf=>hg (hi k hk hf)⟩
theorem Turned.transN {F G:Nat→Prop}{a b c:World}(h:Turned F a b)(k:Turned G b c)(hi: ∀i,i<a.heap.size→G i→F i):Turned F a c:=
 ⟨k.os.trans h.os,k.tape.trans h.tape,k.output.trans h.output,Nat.le_trans h.size k.size,fun i hl hf=>(k.same i (Nat.lt_of_lt_of_le hl h.size) fun hg=>hf (hi i hl hg)).trans (h.same i hl hf)⟩
theorem turned_grown {w w':World}{row:Option Nat}(h:w.grownBy w' row):Turned (fun k=>row=some k) w w':=⟨h.os,h.tape,h.output,h.size,fun k hk hf=>h.block k hk (fun e=>hf e.symm)⟩
theorem turned_below {F:Nat→Prop}{w w':World}(h:Below w.heap.size w w'):Turned F w w':=⟨h.os,h.tape,h.output,h.size,fun k hk _=>h.block k hk⟩
theorem turned_set (w:World)(p:Addr)(u:Value):Turned (fun k=>k=p.block) w (w.setCell p u):=⟨rfl,rfl,rfl,by rw[World.size_setCell];exact Nat.le_refl _,fun k _ hf=>Below.heap_setCell w p u k hf⟩
theorem Turned.below {F:Nat→Prop}{w w':World}{base:Nat}(h:Turned F w w')(hb:base≤w.heap.size)(hf: ∀k,F k→base≤k):Below base w w':=⟨h.os,h.tape,h.output,h.size,fun k hk=>h.same k (by omega) fun e=>by have:=hf k e;omega⟩
theorem below_turned {F:Nat→Prop}{a w w':World}(hb:Below a.heap.size a w)(h:Turned F w w')(hf: ∀k,F k→a.heap.size≤k):Below a.heap.size a w':=hb.trans (h.below hb.size hf)
theorem blk_turned {F:Nat→Prop}{w w':World}{g:Nat}{t:TypeId}{cs:Array Value}(h:Blk w g t cs)(ht:Turned F w w')(hg: ¬F g):Blk w' g t cs:=(ht.same g h.lt hg).trans h
end Go.Proofs.YtjodlngbiikgfaaGreatDoor
namespace Go.Proofs.YtjodlngbiikgfaaGreatDoor
open Go.RowKit
structure Cnt where
 v:Value
 r:List Val
 n:Int
def Cnt.cells (c:Cnt):List Value:=[c.v,.int .i64 c.n]
theorem Cnt.cells_len (c:Cnt):c.cells.length=2:=rfl
def cntCells (l:List Cnt):List Value:=l.flatMap Cnt.cells
structure View (w:World) (v:Value) (l:List Cnt):Prop where
 sl:Sl w v l.length (cntCells l)
 rows: ∀c∈l,Sl w c.v c.r.length (rowCells c.r)
theorem View.below {w w':World}{v:Value}{l:List Cnt}(h:View w v l)(hb:Below w.heap.size w w'):View w' v l:=⟨h.sl.below hb,fun c hc=>(h.rows c hc).below hb⟩
theorem View.drew {w:World}{v:Value}{l:List Cnt}(h:View w v l):View w.drew v l:=⟨h.sl,h.rows⟩
structure FineV (l:List Cnt):Prop where
 rows: ∀c∈l,Fine c.r
 nums: ∀c∈l,-9223372036854775808≤c.n∧c.n≤9223372036854775807
def av (l:List Cnt):AV:=l.map fun c=>(c.r,c.n)
theorem cnt_at {w:World}{l:List Cnt}{v:Value}(h:Sl w v l.length (cntCells l)){A:Option Addr}{n c:Nat}(hv:v= .slice A n c){k:Nat}{x:Cnt}(hk:l[k]?=some x):
 ∃b off,A=some ⟨b,off,none⟩∧b<w.heap.size∧ ∀w',Below w.heap.size w w'→
  w'.cell? ⟨b,off+k*2,none⟩=some x.v∧w'.cell? ⟨b,off+k*2+1,none⟩=some (.int .i64 x.n):=by
 obtain⟨A',c',hv',h1,h2,-,h3⟩:=h;rw[hv]at hv';injection hv' with e1 e2 e3;subst e1;have a1:=flat_at Cnt.cells_len l k 0 (by omega);have a2:=flat_at Cnt.cells_len l k 1 (by omega);rw[hk]at a1 a2;simp only[Option.bind_some,Nat.add_zero]at a1 a2;obtain⟨b,off,hA,hc⟩:=h3 (by intro h0;rw[show l.flatMap Cnt.cells=cntCells l from rfl,h0]at a1;simp[Cnt.cells]at a1);have c1:=hc _ _ a1;have c2:=hc _ _ a2;exact⟨b,off,hA,World.block_lt_of_cell? w _ c1,fun w' hb=>⟨cell_below hb c1,cell_below hb c2⟩⟩
def okC (c:Cnt):Bool:=(keyErr c.r==0)&&btw c.n 1 1073741824
def okAt (l:List Cnt) (k:Nat):Bool:=
 match l[k]? with
 |none=>true
 |some c=>okC c&&(if k=0 then true else match l[k-1]? with
  |none=>true
  |some d=>decide (rowsF d.r c.r<0))
def chkV (l:List Cnt):Int:=if 4096<l.length then 2 else if allB (okAt l) (List.range l.length)then 0 else 1
theorem okAt_zero {l:List Cnt}{c:Cnt}(h:l[0]?=some c):okAt l 0=okC c:=by simp[okAt,h]
theorem okAt_succ {l:List Cnt}{k:Nat}{c d:Cnt}(h:l[k+1]?=some c)(hd:l[k]?=some d):okAt l (k+1)=(okC c&&decide (rowsF d.r c.r<0)):=by simp[okAt,h,hd]
theorem range_at {n k:Nat}(h:k<n):(List.range n)[k]?=some k:=by simp[h]
theorem chk_bad {l:List Cnt}{k:Nat}(h0: ¬4096<l.length)(hk:k<l.length)(h:okAt l k=false):chkV l=1:=by
 unfold chkV;rw[if_neg h0,all_no (range_at hk) h];rfl
theorem chk_good {l:List Cnt}(h0: ¬4096<l.length)(h: ∀j∈(List.range l.length).take l.length,okAt l j=true):chkV l=0:=by
 unfold chkV;rw[if_neg h0,all_yes (f:=okAt l) (by rwa[List.length_range])];rfl
structure GoodV (l:List Cnt):Prop where
 few:l.length≤4096
 rises:Rises (av l)
 nums: ∀p∈av l,1≤p.2∧p.2≤1073741824
theorem chk_zero {l:List Cnt}(hf:FineV l)(h:chkV l=0):GoodV l:=by
 unfold chkV at h;by_cases h0:4096<l.length
 ·rw[if_pos h0]at h;omega
 ·rw[if_neg h0]at h
  have hall:allB (okAt l) (List.range l.length)=true:=by
   cases hb:allB (okAt l) (List.range l.length)
   ·rw[hb]at h;simp at h
   ·rfl
  rw[allB,List.all_eq_true]at hall
  have hok: ∀k c,l[k]?=some c→okC c=true∧(k≠0→ ∀d,l[k-1]?=some d→rowsF d.r c.r<0):=by
   intro k c hc;have hk:=(List.getElem?_eq_some_iff.1 hc).1;have:=hall k (List.mem_range.2 hk);unfold okAt at this;rw[hc]at this;simp only[Bool.and_eq_true]at this;refine⟨this.1,fun hk0 d hd=> ?_⟩;have h2:=this.2;rw[if_neg hk0,hd]at h2;simpa using h2
  have hgood: ∀c∈l,GoodR c.r∧1≤c.n∧c.n≤1073741824:=by
   intro c hc;obtain⟨k,hk⟩:=List.getElem?_of_mem hc;have:=(hok k c hk).1;unfold okC at this;rw[Bool.and_eq_true,beq_iff_eq]at this;have hb:=btw_of this.2;exact⟨goodR_of (hf.rows c hc) this.1,hb.1,hb.2⟩
  refine⟨by omega,⟨fun p hp=> ?_,?_⟩,fun p hp=> ?_⟩
  ·obtain⟨c,hc,rfl⟩:=List.mem_map.1 hp
   exact(hgood c hc).1
  ·unfold av
   rw[List.pairwise_map,List.pairwise_iff_getElem];intro i j hi hj hij
   have step: ∀n i (hi:i<l.length) (hj:i+n+1<l.length),rowsF (l[i]).r (l[i+n+1]).r<0:=by
    intro n
    induction n with
    |zero=>
     intro i hi hj;exact(hok (i+1) _ (List.getElem?_eq_getElem hj)).2 (by omega) _ (List.getElem?_eq_getElem hi)
    |succ n ih=>
     intro i hi hj;have h1:=ih i hi (by omega);have h2:=(hok (i+(n+1)+1) _ (List.getElem?_eq_getElem hj)).2 (by omega) _ (List.getElem?_eq_getElem (show i+n+1<l.length by omega));exact rowsF_trans (hgood _ (List.getElem_mem _)).1 (hgood _ (List.getElem_mem _)).1 (hgood _ (List.getElem_mem _)).1 h1 h2
   have:=step (j-i-1) i hi (by omega);simpa[show i+(j-i-1)+1=j by omega]using this
  ·obtain⟨c,hc,rfl⟩:=List.mem_map.1 hp
   exact(hgood c hc).2
theorem str_less {a b:List Val}(ha:GoodR a)(hb:GoodR b):Op.bytesLess (str (keyRow a)).toList (str (keyRow b)).toList=decide (rowsF a b<0):=by rw[str_toList,str_toList];exact key_less ha.good hb.good
theorem str_same {a b:List Val}(ha:GoodR a)(hb:GoodR b):((str (keyRow a)).toList==(str (keyRow b)).toList)=decide (rowsF a b=0):=by rw[str_toList,str_toList];exact key_same ha.good hb.good
def lastKey (l:List Cnt) (k:Nat):ByteArray:=if k=0 then⟨#[]⟩else match l[k-1]? with|none=>⟨#[]⟩|some c=>str (keyRow c.r)
end Go.Proofs.YtjodlngbiikgfaaGreatDoor
namespace Go.Proofs.YtjodlngbiikgfaaGreatDoor
open Go.RowKit
structure Chn where
 v:Value
 r:List Val
 k:Int
def Chn.cells (c:Chn):List Value:=[.int .i64 c.k,c.v]
theorem Chn.cells_len (c:Chn):c.cells.length=2:=rfl
def chnCells (l:List Chn):List Value:=l.flatMap Chn.cells
structure Chs (w:World) (v:Value) (l:List Chn):Prop where
 sl:Sl w v l.length (chnCells l)
 rows: ∀c∈l,Sl w c.v c.r.length (rowCells c.r)
theorem Chs.below {w w':World}{v:Value}{l:List Chn}(h:Chs w v l)(hb:Below w.heap.size w w'):Chs w' v l:=⟨h.sl.below hb,fun c hc=>(h.rows c hc).below hb⟩
theorem Chs.drew {w:World}{v:Value}{l:List Chn}(h:Chs w v l):Chs w.drew v l:=⟨h.sl,h.rows⟩
theorem Chs.nil (w:World):Chs w (.slice none 0 0) []:=⟨Sl.nil_ w,nofun⟩
structure FineC (l:List Chn):Prop where
 rows: ∀c∈l,Fine c.r
 nums: ∀c∈l,-9223372036854775808≤c.k∧c.k≤9223372036854775807
def ac (l:List Chn):List (Int×List Val):=l.map fun c=>(c.k,c.r)
theorem chn_at {w:World}{l:List Chn}{v:Value}(h:Sl w v l.length (chnCells l)){A:Option Addr}{n c:Nat}(hv:v= .slice A n c){k:Nat}{x:Chn}(hk:l[k]?=some x):
 ∃b off,A=some ⟨b,off,none⟩∧b<w.heap.size∧ ∀w',Below w.heap.size w w'→
  w'.cell? ⟨b,off+k*2,none⟩=some (.int .i64 x.k)∧w'.cell? ⟨b,off+k*2+1,none⟩=some x.v:=by
 obtain⟨A',c',hv',h1,h2,-,h3⟩:=h;rw[hv]at hv';injection hv' with e1 e2 e3;subst e1;have a1:=flat_at Chn.cells_len l k 0 (by omega);have a2:=flat_at Chn.cells_len l k 1 (by omega);rw[hk]at a1 a2;simp only[Option.bind_some,Nat.add_zero]at a1 a2;obtain⟨b,off,hA,hc⟩:=h3 (by intro h0;rw[show l.flatMap Chn.cells=chnCells l from rfl,h0]at a1;simp[Chn.cells]at a1);have c1:=hc _ _ a1;have c2:=hc _ _ a2;exact⟨b,off,hA,World.block_lt_of_cell? w _ c1,fun w' hb=>⟨cell_below hb c1,cell_below hb c2⟩⟩
def kAt (l:List Chn) (i:Nat):Int:=match l[i]? with|some c=>c.k|none=>0
def errAt (l:List Chn) (i:Nat):Int:=match l[i]? with
 |none=>0
 |some c=>if btw c.k 1 4=false then 4 else if keyErr c.r≠0 then keyErr c.r else if(c.k=3∧kAt l (i+1)≠4)∨(c.k=4∧(i=0∨kAt l (i-1)≠3))then 6 else 0
def formC (l:List Chn):Int:=if 4096<l.length then 2 else firstNZ ((List.range l.length).map (errAt l))
theorem form_bad {l:List Chn}{k:Nat}{e:Int}(h0: ¬4096<l.length)(hk:k<l.length)(hpre: ∀j,j<k→errAt l j=0)(he:errAt l k=e)(hne:e≠0):formC l=e:=by
 unfold formC;rw[if_neg h0];refine firstNZ_hit (k:=k) (fun x hx=> ?_) (by simp[hk,he]) hne;rw[←List.map_take,List.mem_map]at hx;obtain⟨j,hj,rfl⟩:=hx;rw[List.take_range,List.mem_range]at hj;exact hpre j (by omega)
theorem form_good {l:List Chn}(h0: ¬4096<l.length)(hpre: ∀j,j<l.length→errAt l j=0):formC l=0:=by
 unfold formC;rw[if_neg h0];refine firstNZ_none (fun x hx=> ?_);obtain⟨j,hj,rfl⟩:=List.mem_map.1 hx;exact hpre j (List.mem_range.1 hj)
theorem kAt_some {l:List Chn}{i:Nat}{x:Chn}(h:l[i]?=some x):kAt l i=x.k:=by simp[kAt,h]
theorem kAt_none {l:List Chn}{i:Nat}(h:l.length≤i):kAt l i=0:=by simp[kAt,List.getElem?_eq_none h]
def openAt (l:List Chn):Nat→Bool
 |0=>false
 |k+1=>decide (kAt l k=3)
theorem open_next {l:List Chn}{k:Nat}(hpre: ∀j,j<k→errAt l j=0)(ho:openAt l k=true):k≠0∧kAt l (k-1)=3∧kAt l k=4:=by
 cases k with
 |zero=>simp[openAt]at ho
 |succ k=>
  have h3:kAt l k=3:=of_decide_eq_true ho;refine⟨by omega,h3,?_⟩;have he:=hpre k (by omega);unfold errAt at he;cases hx:l[k]? with
  |none=>simp[kAt,hx]at h3
  |some c=>
   have hc:c.k=3:=by rw[←kAt_some hx];exact h3
   rw[hx]at he;simp only[hc]at he;have:btw 3 1 4=true:=by decide
   rw[this]at he;by_cases hk:keyErr c.r=0
   ·by_cases h4:kAt l (k+1)=4
    ·exact h4
    ·simp[hk,h4]at he
   ·simp[hk]at he
theorem open_not {l:List Chn}{k:Nat}(ho:openAt l k=false):k=0∨kAt l (k-1)≠3:=by
 cases k with
 |zero=>exact .inl rfl
 |succ k=>exact .inr (of_decide_eq_false ho)
theorem err_one {l:List Chn}{i:Nat}{c:Chn}(h:l[i]?=some c)(hk:c.k<1∨4<c.k):errAt l i=4:=by
 unfold errAt;rw[h];simp only[btw_no hk,if_true]
theorem err_two {l:List Chn}{i:Nat}{c:Chn}(h:l[i]?=some c)(h1:1≤c.k)(h2:c.k≤4)(hy:keyErr c.r≠0):errAt l i=keyErr c.r:=by
 unfold errAt;rw[h];simp[btw_yes h1 h2,hy]
theorem err_six {l:List Chn}{i:Nat}{c:Chn}(h:l[i]?=some c)(h1:1≤c.k)(h2:c.k≤4)(hy:keyErr c.r=0)(h6:(c.k=3∧kAt l (i+1)≠4)∨(c.k=4∧(i=0∨kAt l (i-1)≠3))):errAt l i=6:=by
 unfold errAt;rw[h];simp only[btw_yes h1 h2,hy];rw[if_neg (by simp),if_neg (by simp),if_pos h6]
theorem err_no {l:List Chn}{i:Nat}{c:Chn}(h:l[i]?=some c)(h1:1≤c.k)(h2:c.k≤4)(hy:keyErr c.r=0)(h6: ¬((c.k=3∧kAt l (i+1)≠4)∨(c.k=4∧(i=0∨kAt l (i-1)≠3)))):errAt l i=0:=by
 unfold errAt;rw[h];simp only[btw_yes h1 h2,hy];rw[if_neg (by simp),if_neg (by simp),if_neg h6]
theorem pre_more {l:List Chn}{k:Nat}(h: ∀j,j<k→errAt l j=0)(hk:errAt l k=0): ∀j,j<k+1→errAt l j=0:=by
 intro j hj;by_cases e:j=k
 ·rw[e];exact hk
 ·exact h j (by omega)
theorem keyErr_ok {r:List Val}(h:keyErr r=0):keyR r=(str (keyRow r),0):=if_neg (by rw[h];simp)
theorem keyErr_bad {r:List Val}(h:keyErr r≠0):keyR r=(⟨#[]⟩,keyErr r):=if_pos h
set_option maxHeartbeats 4000000 in
set_option maxRecDepth 10000 in
theorem cform_any (v:Value)(l:List Chn)(w:World)(h:Chs w v l)(hf:FineC l)(hm:Mx w):
 Calls Tryz.prog 63 #[v] w fun e w'=>e= .returned (.int .i64 (formC l))∧Below w.heap.size w w':=by
 have HV:=Lib.hid h;have HF:=Lib.hid hf;have HM:=Lib.hid hm;obtain⟨A,c,rfl,h1,h2,-⟩:=h.sl;clear h hf hm;unfold maxLen at h2;by_cases hn:4096<l.length
 ·have e1:=Lib.hid (show formC l=2 from if_pos hn)
  go_enter Tryz.func63,Tryz.ntmps63
  go_wp2;go_ret;exact⟨ret_int (by rw[e1.out]),Below.refl _ _⟩
 ·have HBAD:=Lib.hid (fun k e=>form_bad (l:=l) (k:=k) (e:=e) hn)
  have HGOOD:=Lib.hid (form_good (l:=l) hn);generalize formC l=R at HBAD HGOOD⊢;go_enter Tryz.func63,Tryz.ntmps63
  go_wp2_with fail
  go_loopw[3,4,5,6,7,13] (fun op _ _ _ _ i wr=> ∃k:Nat,k≤l.length∧i= .int .i64 k∧op= .bool (openAt l k)∧Hid (∀j,j<k→errAt l j=0)∧Below w.heap.size w wr) (fun _ _ _ _ _ i _=>l.length-(intOf i).toNat)
  case atStart=>exact⟨0,by omega,rfl,rfl,Lib.hid (fun j hj=>by omega),Below.refl _ _⟩
  case round=>
   obtain⟨k,hk,rfl,rfl,H,hbw⟩:=hrel;by_cases hlt:k<l.length
   ·have hx:=List.getElem?_eq_getElem (l:=l) hlt
    generalize l[k]=x at hx;obtain⟨g,off,rfl,-,hc⟩:=chn_at HV.out.sl rfl hx;obtain⟨d1,d2⟩:=hc _ hbw;have hmem:=List.mem_of_getElem? hx;have HRW:=Lib.hid (HV.out.rows x hmem);have HFX:=Lib.hid (HF.out.rows x hmem);have hxn:=HF.out.nums x hmem;have HX:=Lib.hid hx;have HO:=Lib.hid (fun ho=>open_next (l:=l) (k:=k) H.out ho);have HO':=Lib.hid (fun ho=>open_not (l:=l) (k:=k) ho);have HON:Hid (openAt l (k+1)=decide (x.k=3)):=Lib.hid (by show decide (kAt l k=3)=_;rw[kAt_some hx]);generalize openAt l k=o at HO HO'⊢;clear hx hc hmem;obtain⟨xv,xr,xk⟩:=x;simp only at d1 d2 HRW HFX hxn HON;obtain⟨Ax,cx,rfl,-⟩:=id HRW.out;have hbw2:=hbw.alloc hbw.size (.cells #[.int .i64 xk,.slice Ax xr.length cx] 55);have HSX:=Lib.hid (HRW.out.below hbw2);have kb:=(Blk.new wr 55 #[.int .i64 xk,.slice Ax xr.length cx]);by_cases q1:xk<1
    ·have EE:=Lib.hid (HBAD.out k 4 hlt H.out (err_one HX.out (.inl q1)) (by omega))
     clear HO HO' HON;go_wp2;go_ret;exact⟨ret_int (by rw[EE.out]),hbw2⟩
    ·by_cases q2:4<xk
     ·have EE:=Lib.hid (HBAD.out k 4 hlt H.out (err_one HX.out (.inr q2)) (by omega))
      clear HO HO' HON;go_wp2;go_ret;exact⟨ret_int (by rw[EE.out]),hbw2⟩
     ·by_cases hy:keyErr xr=0
      ·have HKE:=Lib.hid (keyErr_ok hy)
       have HY:=Lib.hid hy;clear hy
       go_wp2_with fail
       refine(key_any _ xr _ HSX.out HFX.out (HM.out.below hbw2)).mono ?_;rw[HKE.out];rintro e w2 ⟨rfl,hb2⟩;have y0:=(kb.below hb2).cell 0 _ rfl;have hbw3:=below_trans hbw2 hb2;have hq:xk=1∨xk=2∨xk=3∨xk=4:=by omega
       clear q1 q2 hxn;rcases hq with rfl|rfl|rfl|rfl
       ·cases o
        ·have HZ:=Lib.hid (err_no HX.out (by simp) (by simp) HY.out (by simp))
         clear HO HO';go_wp2;go_roundw
         case rel=>exact⟨k+1,by omega,by go_num,by rw[HON.out];rfl,Lib.hid (pre_more H.out HZ.out),hbw3⟩
         case measure=>simp[intOf];omega
        ·exact absurd (HO.out rfl).2.2 (by rw[kAt_some HX.out];simp)
       ·cases o
        ·have HZ:=Lib.hid (err_no HX.out (by simp) (by simp) HY.out (by simp))
         clear HO HO';go_wp2;go_roundw
         case rel=>exact⟨k+1,by omega,by go_num,by rw[HON.out];rfl,Lib.hid (pre_more H.out HZ.out),hbw3⟩
         case measure=>simp[intOf];omega
        ·exact absurd (HO.out rfl).2.2 (by rw[kAt_some HX.out];simp)
       ·cases o
        ·clear HO HO'
         by_cases hl2:k+1<l.length
         ·have hx2:=List.getElem?_eq_getElem (l:=l) hl2
          generalize l[k+1]=x2 at hx2;obtain⟨g2,off2,hg2,-,hc2⟩:=chn_at HV.out.sl rfl hx2;injection hg2 with hg2;injection hg2 with hg2 hg3;subst hg2;subst hg3;have d3:=(hc2 _ hbw3).1;rw[show off+(k+1)*2=off+(k+1)*2 from rfl]at d3;have HK2:=Lib.hid (kAt_some hx2);clear hx2 hc2;generalize x2.k=y2 at d3 HK2;have hw:IntKind.i64.wrap ((k:Int)+1)=(k:Int)+1:=by rw[IntKind.wrap_i64];omega
          have hw1:((k:Int)+1).toNat=k+1:=by omega
          have i1:(0:Int)≤(k:Int)+1:=by omega
          have i2:(k:Int)+1<(l.length:Int):=by omega
          have i3:((k:Int)+1==(l.length:Int))=false:=beqF (by omega);by_cases q4:y2=4
          ·have HZ:=Lib.hid (err_no HX.out (by simp) (by simp) HY.out (by rintro(⟨-,h⟩|⟨h,-⟩);exact h (by rw[HK2.out];exact q4);exact absurd h (by simp)))
           subst q4;go_wp2;go_roundw
           case rel=>exact⟨k+1,by omega,by go_num,by rw[HON.out];rfl,Lib.hid (pre_more H.out HZ.out),hbw3⟩
           case measure=>simp[intOf];omega
          ·have EE:=Lib.hid (HBAD.out k 6 hlt H.out (err_six HX.out (by simp) (by simp) HY.out (.inl ⟨rfl,by rw[HK2.out];exact q4⟩)) (by decide))
           have q4':=beqF q4;go_wp2;go_ret;exact⟨ret_int (by rw[EE.out]),hbw3⟩
         ·have hke:l.length=k+1:=by omega
          have HKE2:=Lib.hid hke;have EE:=Lib.hid (HBAD.out k 6 hlt H.out (err_six HX.out (by simp) (by simp) HY.out (.inl ⟨rfl,by rw[kAt_none (by omega)];decide⟩)) (by decide));have hw:IntKind.i64.wrap ((k:Int)+1)=(k:Int)+1:=by rw[IntKind.wrap_i64];omega
          have i3:((k:Int)+1==(l.length:Int))=true:=beqT (by omega);clear hke;go_wp2;go_ret;exact⟨ret_int (by rw[EE.out]),hbw3⟩
        ·exact absurd (HO.out rfl).2.2 (by rw[kAt_some HX.out];simp)
       ·cases o
        ·have EE:=Lib.hid (HBAD.out k 6 hlt H.out (err_six HX.out (by simp) (by simp) HY.out (.inr ⟨rfl,HO'.out rfl⟩)) (by decide))
         clear HO HO';go_wp2;go_ret;exact⟨ret_int (by rw[EE.out]),hbw3⟩
        ·have HZ:=Lib.hid (err_no HX.out (by simp) (by simp) HY.out (by rintro(⟨h,-⟩|⟨-,h|h⟩);exact absurd h (by simp);exact absurd h (HO.out rfl).1;exact h (HO.out rfl).2.1))
         clear HO HO';go_wp2;go_roundw
         case rel=>exact⟨k+1,by omega,by go_num,by rw[HON.out];rfl,Lib.hid (pre_more H.out HZ.out),hbw3⟩
         case measure=>simp[intOf];omega
      ·have EE:=Lib.hid (HBAD.out k _ hlt H.out (err_two HX.out (show(1:Int)≤xk by omega) (show xk≤4 by omega) hy) hy)
       have HKE:=Lib.hid (keyErr_bad hy);have hy':=beqF hy;simp only at EE;generalize keyErr xr=y at EE HKE hy';clear HO HO' HON hy
       go_wp2_with fail
       refine(key_any _ xr _ HSX.out HFX.out (HM.out.below hbw2)).mono ?_;rw[HKE.out];rintro e w2 ⟨rfl,hb2⟩;have hbw3:=below_trans hbw2 hb2;go_wp2;go_ret;exact⟨ret_int (by rw[EE.out]),hbw3⟩
   ·obtain rfl:k=l.length:=by omega
    have EE:=Lib.hid (HGOOD.out H.out);go_wp2;go_ret;exact⟨ret_int (by rw[EE.out]),hbw⟩
end Go.Proofs.YtjodlngbiikgfaaGreatDoor
namespace Go.Proofs.YtjodlngbiikgfaaGreatDoor
open Go.RowKit
end Go.Proofs.YtjodlngbiikgfaaGreatDoor
namespace Go.Proofs.YtjodlngbiikgfaaGreatDoor
open Go.RowKit Go.Maps
def stepI (k:Int):Int:=if k=1∨k=4 then 1 else-1
theorem stepI_two (k:Int):stepI k=1∨stepI k= -1:=by unfold stepI;split<;>simp
set_option maxHeartbeats 1000000 in
theorem cstep_any (k:Int)(v:Value)(w:World)(h1:1≤k)(h4:k≤4):
 Calls Tryz.prog 67 #[.agg #[.int .i64 k,v]] w fun e w'=>e= .returned (.int .i64 (stepI k))∧Below w.heap.size w w':=by
 have hq:k=1∨k=2∨k=3∨k=4:=by omega
 have hB:=below_alloc w (.cells #[.int .i64 k,v] 55);rcases hq with rfl|rfl|rfl|rfl<;>
 ·go_enter Tryz.func67,Tryz.ntmps67
  go_wp2;go_ret;exact⟨rfl,hB⟩
structure GoodC (l:List Chn):Prop where
 few:l.length≤4096
 good: ∀c∈l,GoodR c.r∧1≤c.k∧c.k≤4
theorem err_zero {l:List Chn}{i:Nat}{c:Chn}(h:l[i]?=some c)(he:errAt l i=0):keyErr c.r=0∧1≤c.k∧c.k≤4:=by
 by_cases h1:c.k<1∨4<c.k
 ·rw[err_one h h1]at he;omega
 ·by_cases hy:keyErr c.r=0
  ·exact⟨hy,by omega,by omega⟩
  ·rw[err_two h (by omega) (by omega) hy]at he;exact absurd he hy
theorem form_errs {l:List Chn}(h:formC l=0):l.length≤4096∧ ∀i,i<l.length→errAt l i=0:=by
 have h0: ¬4096<l.length:=by
  intro h0;unfold formC at h;rw[if_pos h0]at h;omega
 refine⟨by omega,fun i=> ?_⟩
 induction i using Nat.strongRecOn with
 |ind i ih=>
  intro hi;by_cases e:errAt l i=0
  ·exact e
  ·have:=form_bad h0 hi (fun j hj=>ih j hj (by omega)) rfl e
   rw[h]at this;exact absurd this.symm e
theorem form_zero {l:List Chn}(hf:FineC l)(h:formC l=0):GoodC l:=by
 obtain⟨h1,h2⟩:=form_errs h;refine⟨h1,fun c hc=> ?_⟩;obtain⟨i,hi,rfl⟩:=List.mem_iff_getElem.1 hc;have:=err_zero (List.getElem?_eq_getElem hi) (h2 i hi);exact⟨goodR_of (hf.rows _ hc) this.1,this.2⟩
end Go.Proofs.YtjodlngbiikgfaaGreatDoor
namespace Go.Proofs.YtjodlngbiikgfaaGreatDoor
open Go.RowKit Go.Maps
theorem lawS:Keyed Tryz.prog 9:=string_keyed Tryz.underlying9
theorem keyRow_short {l:List Val}(h:GoodR l):(keyRow l).length≤1048:=by
 have h8:=h.few;have hg:=h.good;clear h
 have:(keyRow l).length≤131*l.length:=by
  clear h8
  induction l with
  |nil=>simp[keyRow]
  |cons x l ih=>
   have h1:=keyCell_len x (good_size (hg x (by simp)).1);have h2:=ih fun y hy=>hg y (by simp[hy]);rw[show keyRow (x::l)=keyCell x++keyRow l from List.flatMap_cons,List.length_append,List.length_cons];omega
 omega
theorem keyS {r:List Val}(h:GoodR r):keyOf Tryz.prog 9 (.string (str (keyRow r)))=some (kOf r):=by
 have hl:=keyRow_short h;have:=WideMaps.keyOf_string_mk (P:=Tryz.prog) (k:=9) Tryz.underlying9 (s:=str (keyRow r)) (by rw[str_size];unfold maxLen;omega);rw[this];rfl
theorem zeroS (w:World):(zeroValue 3).run Tryz.prog w= .ok (.int .i64 0) w:=by kernel_rfl
def Pile (w:World) (M N:Nat) (A:AV):Prop:= ∃n,n≤N∧w.ownsMap Tryz.prog 9 (plainElem (H:=Unit) Tryz.prog 3) M n (mkD A)
def addR (A:AV) (r:List Val) (n:Int):AV×Int:=
 if lookA A r+n<0 then(A,9)
 else if 1073741824<lookA A r+n∨(hasA A r=false∧0<lookA A r+n∧A.length=4096)then(A,2)
 else if lookA A r+n=0 then(delA A r,0)else(putA A r (lookA A r+n),0)
theorem del_put {A:AV}{r:List Val}{n:Int}(h:Rises A)(hr:GoodR r):delA (putA A r n) r=delA A r:=by
 induction A with
 |nil=>simp[putA,delA,rowsF_self hr]
 |cons x t ih=>
  obtain⟨x,m⟩:=x;have hx:GoodR x:=h.good (x,m) (by simp);obtain⟨h1,h2⟩:=List.pairwise_cons.1 h.rise;have h1: ∀p∈t,rowsF x p.1<0:=h1;unfold putA;by_cases e:rowsF x r=0
  ·rw[if_pos e];simp[delA,e]
  ·rw[if_neg e]
   by_cases l:rowsF x r<0
   ·rw[if_pos l];simp[delA,e,ih h.tail]
   ·rw[if_neg l]
    simp[delA,rowsF_self hr,e];have hlt:rowsF r x<0:=by rw[rowsF_flip hx hr];omega
    have: ∀q:AV,(∀p∈q,GoodR p.1)→(∀p∈q,rowsF r p.1<0)→delA q r=q:=by
     intro q
     induction q with
     |nil=>intros;rfl
     |cons y q ih2=>
      obtain⟨y,c⟩:=y;intro hq hq2;have hy:GoodR y:=hq (y,c) (by simp);have:=hq2 (y,c) (by simp);simp only at this;unfold delA;rw[if_neg (by rw[rowsF_flip hr hy];omega),ih2 (fun p hp=>hq p (by simp[hp])) (fun p hp=>hq2 p (by simp[hp]))]
    exact(this t (fun p hp=>h.good p (by simp[hp])) fun p hp=>rowsF_trans hr hx (h.good p (by simp[hp])) hlt (h1 p hp)).symm
set_option maxHeartbeats 4000000 in
set_option maxRecDepth 100000 in
theorem add_any {M N:Nat}{A:AV}{r:List Val}{n:Int}(w:World)(hp:Pile w M N A)(hN:N≤1000000)(hA:Rises A)(hr:GoodR r)(hb: -1099511627776≤lookA A r∧lookA A r≤1099511627776)(hn: -1099511627776≤n∧n≤1099511627776):
 Calls Tryz.prog 66 #[.map (some M),.string (str (keyRow r)),.int .i64 n] w fun e w'=>e= .returned (.int .i64 (addR A r n).2)∧Pile w' M (N+1) (addR A r n).1∧w.grownBy w' (some M):=by
 obtain⟨k,hk,hown⟩:=hp;have HK:=Lib.hid (keyS hr);have hat0:=mkD_at hA.good hr;have hhas:=mkD_has hA.good hr;have hput:=fun m=>mkD_put (n:=m) hA hr
 have HPD:=Lib.hid (fun m=>show((mkD A).put (kOf r) (.lit (.int .i64 m))).del (kOf r)=mkD (delA A r)from by
  rw[hput m,mkD_del (rises_put hA hr) hr,del_put hA hr])
 have HPUT:=Lib.hid hput;have HH:=Lib.hid hhas;have HSZ:=Lib.hid (mkD_size A);have HR:Hid (addR A r n=if lookA A r+n<0 then(A,9)else if 1073741824<lookA A r+n∨(hasA A r=false∧0<lookA A r+n∧A.length=4096)then(A,2)else if lookA A r+n=0 then(delA A r,0)else(putA A r (lookA A r+n),0)):=Lib.hid rfl;generalize addR A r n=R at HR⊢;obtain⟨c,hrun,hat,-⟩:=hown.lookup_int (t:=123) lawS Tryz.underlying123 Tryz.underlying3 (zeroS _) HK.out;obtain rfl:=lit_inj (hat.symm.trans hat0);generalize lookA A r=c at hrun hb HR HPUT;generalize hasA A r=b at HH HR
 have hlen: ∀ty,(Builtin.len_ #[123] ty #[.map (some M)]).run Tryz.prog w= .ok (.int .i64 A.length) w:=fun ty=>by
  have:=hown.len (t:=123) (e:=3) Tryz.underlying123 ty;rw[HSZ.out]at this;exact this
 have HWN:=Lib.hid (show(Lit.int .i64 (c+n)).wf=true from wf_of (by omega));have hkk:k<maxLen:=by unfold maxLen;omega
 have HKK:=Lib.hid hkk;clear hat hat0 hhas hput hA hr hkk;generalize str (keyRow r)=s at HK hrun⊢;by_cases h1:c+n<0
 ·have EE:=Lib.hid (HR.out.trans (if_pos h1))
  go_enter Tryz.func66,Tryz.ntmps66
  go_wp2;go_ret;exact⟨ret_int (by rw[EE.out]),⟨k,by omega,by rw[EE.out];exact hown⟩,World.grownBy.refl w _⟩
 ·have HR2:=Lib.hid (HR.out.trans (if_neg h1))
  clear HR;by_cases h2:1073741824<c+n
  ·have EE:=Lib.hid (HR2.out.trans (if_pos (.inl h2)))
   clear HR2;go_enter Tryz.func66,Tryz.ntmps66
   go_wp2_with (at_lookup;refine wpList_lookup_own_ok_int _ rfl _ _ 123 rfl 9 3 .i64 lawS Tryz.underlying123 Tryz.underlying3 (zeroS _) M k _ rfl hown _ _ rfl HK.out ?_;intro c2 hat2 hwc2;rw[HH.out];clear hat2 hwc2)
   go_ret;exact⟨ret_int (by rw[EE.out]),⟨k,by omega,by rw[EE.out];exact hown⟩,World.grownBy.refl w _⟩
  ·cases b
   ·by_cases h3:0<c+n
    ·by_cases h4:A.length=4096
     ·have EE:=Lib.hid (HR2.out.trans (if_pos (.inr ⟨rfl,h3,h4⟩)))
      have hb4:((A.length:Int)==4096)=true:=by simp[h4]
      clear HR2 h4;go_enter Tryz.func66,Tryz.ntmps66
      go_wp2_with (first
       |(at_lookup;refine wpList_lookup_own_ok_int _ rfl _ _ 123 rfl 9 3 .i64 lawS Tryz.underlying123 Tryz.underlying3 (zeroS _) M k _ rfl hown _ _ rfl HK.out ?_;intro c2 hat2 hwc2;rw[HH.out];clear hat2 hwc2))
      go_ret;exact⟨ret_int (by rw[EE.out]),⟨k,by omega,by rw[EE.out];exact hown⟩,World.grownBy.refl w _⟩
     ·have hz: ¬c+n=0:=by omega
      have EE:=Lib.hid (HR2.out.trans ((if_neg (by rintro(h|⟨-,-,h⟩);exact h2 h;exact h4 h)).trans (if_neg hz)));have hb4:((A.length:Int)==4096)=false:=by simp;omega
      have hbz:=beqF hz;clear HR2 h4 hz;go_enter Tryz.func66,Tryz.ntmps66
      go_wp2_with (first
       |(at_lookup;refine wpList_lookup_own_ok_int _ rfl _ _ 123 rfl 9 3 .i64 lawS Tryz.underlying123 Tryz.underlying3 (zeroS _) M k _ rfl hown _ _ rfl HK.out ?_;intro c2 hat2 hwc2;rw[HH.out];clear hat2 hwc2)
       |(at_mapUpdate;refine wpList_mapUpdate_own _ rfl _ _ _ 123 rfl 9 3 lawS Tryz.underlying123 _ M k _ rfl hown HKK.out _ _ _ rfl rfl HK.out _ [] (plainElem_int Tryz.underlying3 HWN.out) ?_;intro w1 hown1 hgrow1;clear hrun))
      go_ret;exact⟨ret_int (by rw[EE.out]),⟨k+1,by omega,by rw[EE.out];have h:=hown1;rw[HPUT.out]at h;exact h⟩,hgrow1⟩
    ·have hz:c+n=0:=by omega
     have EE:=Lib.hid (HR2.out.trans ((if_neg (by rintro(h|⟨-,h,-⟩);exact h2 h;exact h3 h)).trans (if_pos hz)));have hbz:=beqT hz;clear HR2 hz;go_enter Tryz.func66,Tryz.ntmps66
     go_wp2_with (first
      |(at_lookup;refine wpList_lookup_own_ok_int _ rfl _ _ 123 rfl 9 3 .i64 lawS Tryz.underlying123 Tryz.underlying3 (zeroS _) M k _ rfl hown _ _ rfl HK.out ?_;intro c2 hat2 hwc2;rw[HH.out];clear hat2 hwc2)
      |(at_mapUpdate;refine wpList_mapUpdate_own _ rfl _ _ _ 123 rfl 9 3 lawS Tryz.underlying123 _ M k _ rfl hown HKK.out _ _ _ rfl rfl HK.out _ [] (plainElem_int Tryz.underlying3 HWN.out) ?_;intro w1 hown1 hgrow1;clear hrun)
      |(at_delete;refine wpList_delete_own _ rfl _ _ 123 9 rfl 3 lawS Tryz.underlying123 _ M (k+1) _ rfl hown1 _ _ rfl HK.out ?_;intro w2 hown2 hturn2))
     go_ret;exact⟨ret_int (by rw[EE.out]),⟨k+1,by omega,by rw[EE.out];have h:=hown2;rw[HPD.out]at h;exact h⟩,hgrow1.andThen hturn2.grown (fun j hj=> .inr hj)⟩
   ·by_cases hz:c+n=0
    ·have EE:=Lib.hid (HR2.out.trans ((if_neg (by rintro(h|⟨h,-⟩);exact h2 h;exact absurd h (by decide))).trans (if_pos hz)))
     have hbz:=beqT hz;clear HR2 hz;go_enter Tryz.func66,Tryz.ntmps66
     go_wp2_with (first
      |(at_lookup;refine wpList_lookup_own_ok_int _ rfl _ _ 123 rfl 9 3 .i64 lawS Tryz.underlying123 Tryz.underlying3 (zeroS _) M k _ rfl hown _ _ rfl HK.out ?_;intro c2 hat2 hwc2;rw[HH.out];clear hat2 hwc2)
      |(at_mapUpdate;refine wpList_mapUpdate_own _ rfl _ _ _ 123 rfl 9 3 lawS Tryz.underlying123 _ M k _ rfl hown HKK.out _ _ _ rfl rfl HK.out _ [] (plainElem_int Tryz.underlying3 HWN.out) ?_;intro w1 hown1 hgrow1;clear hrun)
      |(at_delete;refine wpList_delete_own _ rfl _ _ 123 9 rfl 3 lawS Tryz.underlying123 _ M (k+1) _ rfl hown1 _ _ rfl HK.out ?_;intro w2 hown2 hturn2))
     go_ret;exact⟨ret_int (by rw[EE.out]),⟨k+1,by omega,by rw[EE.out];have h:=hown2;rw[HPD.out]at h;exact h⟩,hgrow1.andThen hturn2.grown (fun j hj=> .inr hj)⟩
    ·have EE:=Lib.hid (HR2.out.trans ((if_neg (by rintro(h|⟨h,-⟩);exact h2 h;exact absurd h (by decide))).trans (if_neg hz)))
     have hbz:=beqF hz;clear HR2 hz;go_enter Tryz.func66,Tryz.ntmps66
     go_wp2_with (first
      |(at_lookup;refine wpList_lookup_own_ok_int _ rfl _ _ 123 rfl 9 3 .i64 lawS Tryz.underlying123 Tryz.underlying3 (zeroS _) M k _ rfl hown _ _ rfl HK.out ?_;intro c2 hat2 hwc2;rw[HH.out];clear hat2 hwc2)
      |(at_mapUpdate;refine wpList_mapUpdate_own _ rfl _ _ _ 123 rfl 9 3 lawS Tryz.underlying123 _ M k _ rfl hown HKK.out _ _ _ rfl rfl HK.out _ [] (plainElem_int Tryz.underlying3 HWN.out) ?_;intro w1 hown1 hgrow1;clear hrun))
     go_ret;exact⟨ret_int (by rw[EE.out]),⟨k+1,by omega,by rw[EE.out];have h:=hown1;rw[HPUT.out]at h;exact h⟩,hgrow1⟩
end Go.Proofs.YtjodlngbiikgfaaGreatDoor
namespace Go.Proofs.YtjodlngbiikgfaaGreatDoor
open Go.RowKit Go.Maps
theorem map_below {w w':World}{M n:Nat}{D:DataW Unit}(h:w.ownsMap Tryz.prog 9 (plainElem (H:=Unit) Tryz.prog 3) M n D)(hb:Below w.heap.size w w'):w'.ownsMap Tryz.prog 9 (plainElem (H:=Unit) Tryz.prog 3) M n D:=by
 have hl:=h.lt;obtain⟨es,clock,h1,r⟩:=h;exact⟨es,clock,(hb.block M hl).trans h1,r⟩
theorem Pile.below {w w':World}{M N:Nat}{A:AV}(h:Pile w M N A)(hb:Below w.heap.size w w'):Pile w' M N A:=by
 obtain⟨n,hn,ho⟩:=h;exact⟨n,hn,map_below ho hb⟩
theorem Pile.lt {w:World}{M N:Nat}{A:AV}(h:Pile w M N A):M<w.heap.size:=by
 obtain⟨n,hn,ho⟩:=h;exact ho.lt
theorem put_last {A:AV}{r:List Val}{n:Int}(h:Rises (A++[(r,n)])):putA A r n=A++[(r,n)]:=by
 induction A with
 |nil=>rfl
 |cons x t ih=>
  obtain⟨x,m⟩:=x;obtain⟨h1,-⟩:=List.pairwise_cons.1 h.rise;have:=h1 (r,n) (by simp);simp only at this;unfold putA;rw[if_neg (by omega),if_pos this,ih h.tail];rfl
theorem rises_take {A:AV}(h:Rises A)(k:Nat):Rises (A.take k):=⟨fun p hp=>h.good p (List.mem_of_mem_take hp),h.rise.sublist (List.take_sublist k A)⟩
set_option maxHeartbeats 4000000 in
set_option maxRecDepth 100000 in
theorem of_any (v:Value)(l:List Cnt)(w:World)(h:View w v l)(hf:FineV l)(hg:GoodV l)(hm:Mx w):
 Calls Tryz.prog 64 #[v] w fun e w'=> ∃M,e= .returned (.map (some M))∧w.heap.size≤M∧Pile w' M 4096 (av l)∧Below w.heap.size w w':=by
 have hmm:= @run_makeMap Tryz.prog;have HV:=Lib.hid h;have HF:=Lib.hid hf;have HM:=Lib.hid hm;have HG:=Lib.hid hg;have hl:=hg.few;have HR:=Lib.hid hg.rises;have HN:=Lib.hid hg.nums;obtain⟨A,c,rfl,h1,h2,-⟩:=h.sl;clear h hf hm hg;unfold maxLen at h2;have hB:=below_alloc w (.map #[] 0);have HO:=Lib.hid (World.ownsMap_made w Tryz.prog 9 (plainElem (H:=Unit) Tryz.prog 3));go_enter Tryz.func64,Tryz.ntmps64
 go_wp2_with fail
 go_loopw[5,6,7,11] (fun _ _ _ i wr=> ∃k n:Nat,k≤l.length∧n≤k∧i= .int .i64 k∧wr.ownsMap Tryz.prog 9 (plainElem (H:=Unit) Tryz.prog 3) w.heap.size n (mkD ((av l).take k))∧Below w.heap.size w wr) (fun _ _ _ i _=>l.length-(intOf i).toNat)
 case atStart=>exact⟨0,0,by omega,by omega,rfl,HO.out,hB⟩
 case round=>
  obtain⟨k,n,hk,hnk,rfl,hown,hbw⟩:=hrel;by_cases hlt:k<l.length
  ·have hx:=List.getElem?_eq_getElem (l:=l) hlt
   generalize l[k]=x at hx;obtain⟨g,off,rfl,-,hc⟩:=cnt_at HV.out.sl rfl hx;obtain⟨d1,d2⟩:=hc _ hbw;have hmem:=List.mem_of_getElem? hx;have HRW:=Lib.hid (HV.out.rows x hmem);have HFX:=Lib.hid (HF.out.rows x hmem);have hxa:(av l)[k]?=some (x.r,x.n):=by unfold av;rw[List.getElem?_map,hx];rfl
   have HGX:=Lib.hid (HR.out.good _ (List.mem_of_getElem? hxa));have hxn:=HN.out _ (List.mem_of_getElem? hxa);have HT:=Lib.hid (show(av l).take (k+1)=(av l).take k++[(x.r,x.n)]from by rw[List.take_add_one,hxa];rfl);clear hx hc hmem hxa;obtain⟨xv,xr,xn⟩:=x;simp only at d1 d2 HRW HFX hxn HGX HT;obtain⟨Ax,cx,rfl,-⟩:=id HRW.out;have hbw2:=hbw.alloc hbw.size (.cells #[.slice Ax xr.length cx,.int .i64 xn] 138);have HSX:=Lib.hid (HRW.out.below hbw2);have kb:=(Blk.new wr 138 #[.slice Ax xr.length cx,.int .i64 xn]);have hown2:=hown.alloc (.cells #[.slice Ax xr.length cx,.int .i64 xn] 138)
   have HKE:Hid (keyR xr=(str (keyRow xr),0)):=by
    have h8:=HGX.out.few
    have:keyErr xr=0:=by
     have hz:firstNZ (xr.map checkV)=0:=firstNZ_none (by intro y hy;obtain⟨z,hz,rfl⟩:=List.mem_map.1 hy;exact(HGX.out.good z hz).1);unfold keyErr;rw[if_neg (by omega),hz]
    exact Lib.hid (if_neg (by rw[this];simp))
   have HK:=Lib.hid (keyS HGX.out);have HRT:=Lib.hid (rises_take HR.out k)
   have HPUT:=Lib.hid (show(mkD ((av l).take k)).put (kOf xr) (.lit (.int .i64 xn))=mkD ((av l).take (k+1))from by
    rw[mkD_put HRT.out HGX.out,put_last (by rw[←HT.out];exact rises_take HR.out (k+1)),←HT.out])
   have HWN:=Lib.hid (show(Lit.int .i64 xn).wf=true from wf_of (by omega));have HKK:=Lib.hid (show n<maxLen from by unfold maxLen;omega);generalize str (keyRow xr)=s at HKE HK;clear hown
   go_wp2_with fail
   refine(key_any _ xr _ HSX.out HFX.out (HM.out.below hbw2)).mono ?_;rw[HKE.out];rintro e w2 ⟨rfl,hb2⟩;have y1:=(kb.below hb2).cell 1 _ rfl;have hbw3:=below_trans hbw2 hb2;have hown3:=map_below hown2 hb2;clear hown2 hb2 kb hbw2
   go_wp2_with (at_mapUpdate;refine wpList_mapUpdate_own _ rfl _ _ _ 123 rfl 9 3 lawS Tryz.underlying123 _ w.heap.size n _ rfl hown3 HKK.out _ _ _ rfl rfl HK.out _ [] (plainElem_int Tryz.underlying3 HWN.out) ?_;intro w4 hown4 hgrow4)
   have hown5:w4.ownsMap Tryz.prog 9 (plainElem (H:=Unit) Tryz.prog 3) w.heap.size (n+1) (mkD ((av l).take (k+1))):=by rw[←HPUT.out];exact hown4
   have HO5:=Lib.hid hown5;have hbw4:=hbw3.grown hgrow4 hbw3.size (fun j hj=>by cases hj;exact Nat.le_refl _);clear hown4 hown5 hgrow4 hown3;go_roundw
   case rel=>exact⟨k+1,n+1,by omega,by omega,by go_num,HO5.out,hbw4⟩
   case measure=>simp[intOf];omega
  ·obtain rfl:k=l.length:=by omega
   have HO2:=Lib.hid hown;clear hown;go_wp2;go_ret;refine⟨_,rfl,Nat.le_refl _,⟨n,by omega,?_⟩,hbw⟩;have:=HO2.out;rwa[List.take_of_length_le (by unfold av;rw[List.length_map];omega)]at this
end Go.Proofs.YtjodlngbiikgfaaGreatDoor
namespace Go.Proofs.YtjodlngbiikgfaaGreatDoor
open Go.RowKit Go.Maps
set_option maxHeartbeats 400000 in
set_option maxRecDepth 10000 in
theorem num_any (n:Int)(w:World):Calls Tryz.prog 134 #[.int .i64 n] w fun e w'=>e= .returned (.agg #[.int .i64 2,.int .i64 n,.string ⟨#[]⟩])∧Below w.heap.size w w':=by
 go_enter Tryz.func134,Tryz.ntmps134
 go_wp2;exact bodyPost_ret (v:= .agg #[.int .i64 2,.int .i64 n,.string ⟨#[]⟩]) (by simp[results,Tryz.results134,go_sem]) rfl ⟨rfl,below_alloc _ _⟩
def numV (n:Int):Val:=⟨2,n,⟨#[]⟩⟩
theorem nums_fine (a b:Int)(ha: -9223372036854775808≤a∧a≤9223372036854775807)(hb: -9223372036854775808≤b∧b≤9223372036854775807):Fine [numV a,numV b]:=by
 refine⟨fun x hx=> ?_,fun x hx=> ?_⟩
 ·simp only[List.mem_cons,List.mem_nil_iff,or_false]at hx
  have:(⟨#[]⟩:ByteArray).size=0:=rfl;rcases hx with rfl|rfl<;>simp[numV,this]
 ·simp only[List.mem_cons,List.mem_nil_iff,or_false]at hx
  rcases hx with rfl|rfl
  ·exact ha
  ·exact hb
end Go.Proofs.YtjodlngbiikgfaaGreatDoor
namespace Go.Proofs.YtjodlngbiikgfaaGreatDoor
section
open Go.ChangeShapes Go.WideShapes Go.RowKit Go.Deep
section
variable {H:Type} {enc:TypeId×Value→H} {P:Program} {w:World} {base:Nat} {spare:Nat→Bool} {held:Bool}
theorem open_flatQ {t e:TypeId}{fuel:Nat}{cs:List Value}{x:DataW H×List MemPlace}{α:Type}{f:α→List Value}{Q:α→Prop}{size:Nat}(hf: ∀a,(f a).length=size)(h0:0<size)
 (ht:P.underlying t=some (.slice e)) (hC:P.cellsOf e=size) (hel: ∀fuel cs x,DataW.trod enc P w base spare held fuel e cs=some x→ ∃a,cs=f a∧Q a)
 (h:DataW.trod enc P w base spare held fuel t cs=some x): ∃(v:Value) (l:List α),cs=[v]∧Sl w v l.length (l.flatMap f)∧ ∀a∈l,Q a:=by
 obtain⟨v,l,e1,hs⟩:=open_flat (f:=fun a: {a// Q a}=>f a.1) (fun a=>hf a.1) h0 ht hC (fun fuel cs x h=>by obtain⟨a,e,q⟩:=hel fuel cs x h;exact⟨⟨a,q⟩,e⟩) h;refine⟨v,l.map Subtype.val,e1,?_,?_⟩
 ·rw[List.length_map,List.flatMap_map];exact hs
 ·intro a ha
  obtain⟨b,-,rfl⟩:=List.mem_map.1 ha;exact b.2
end
theorem wf_i64 {n:Int}(h:(Lit.int .i64 n).wf=true): -9223372036854775808≤n∧n≤9223372036854775807:=by
 have h':IntKind.i64.min≤n∧n≤9223372036854775807:=by simpa[Lit.wf]using h
 have e:IntKind.i64.min= -9223372036854775808:=by decide
 rw[e]at h';exact h'
section
variable {H:Type} {enc:TypeId×Value→H} {w:World} {base:Nat} {spare:Nat→Bool} {held:Bool}
set_option maxRecDepth 100000 in
theorem val_trod (fuel:Nat)(cs:List Value)(x:DataW H×List MemPlace)(h:DataW.trod enc Tryz.prog w base spare held fuel 114 cs=some x): ∃v:Val,cs=v.cells∧v.ok:=by
 have hC:Tryz.prog.cellsOf 114=3:=by kernel_rfl
 have hi:Tryz.prog.cellsOf 3=1:=by kernel_rfl
 have hs:Tryz.prog.cellsOf 9=1:=by kernel_rfl
 obtain⟨y0,y1,y2,n,-,hl,h0,h1,h2⟩:=Go.Deep.trod_struct3 Tryz.underlying114 h;rw[hC]at hl;simp only[hs,hi]at h0 h1 h2;obtain⟨s0,e0,-,q0⟩:=DataW.trod_int Tryz.underlying3 h0;obtain⟨s1,e1,-,q1⟩:=DataW.trod_int Tryz.underlying3 h1;obtain⟨s2,e2,-,q2⟩:=DataW.trod_string Tryz.underlying9 h2
 match cs,hl with
 |[a,b,c],_=>
  simp at e0 e1 e2;subst e0 e1 e2;have b0:=wf_i64 q0;have b1:=wf_i64 q1;unfold maxLen at q2;exact⟨⟨s0,s1,s2⟩,rfl,b0.1,b0.2,b1.1,b1.2,q2⟩
end
section
variable {H:Type} {enc:TypeId×Value→H} {P:Program} {w:World} {base:Nat} {spare:Nat→Bool} {held:Bool}
theorem struct_one {ts:TypeId}{fs:Array Field}{fuel:Nat}{cs:List Value}{x:DataW H×List MemPlace}(hs:P.underlying ts=some (.struct fs))
 (hone: ∀(i:Nat) (f:Field),fs[i]?=some f→f.offset=i∧P.cellsOf f.type=1) (hC:P.cellsOf ts=fs.size) (h:DataW.trod enc P w base spare held fuel ts cs=some x):
 ∃n,cs.length=fs.size∧ ∀(i:Nat) (f:Field),fs[i]?=some f→ ∃y,DataW.trod enc P w base spare held n f.type [cs.getD i undef]=some y:=by
 obtain⟨xs,n,_,rfl,hl,hxl,hf⟩:=DataW.trod_struct hs h;rw[hC]at hl;refine⟨n,hl,fun i f hi=> ?_⟩;have hlt:i<fs.size:=(Array.getElem?_eq_some_iff.1 hi).1;obtain⟨ho,hc1⟩:=hone i f hi;have g:=hf i f hi;rw[ho,hc1,take1_drop cs i undef (by omega),List.getElem?_eq_getElem (by omega)]at g;exact⟨_,g⟩
end
end
end Go.Proofs.YtjodlngbiikgfaaGreatDoor
namespace Go.Proofs.YtjodlngbiikgfaaGreatDoor
end Go.Proofs.YtjodlngbiikgfaaGreatDoor
namespace Go.Proofs.YtjodlngbiikgfaaGreatDoor
open Go.RowKit
theorem cntI:EInfo Tryz.prog 138 2 32:=by
 have h:(Tryz.prog.info? 138).map (fun i=>(i.zero,i.size,i.bytes))=some (some (.agg #[.slice none 0 0,.int .i64 0]),2,32):=by kernel_rfl
 obtain⟨i,hi,h1,h2,h3⟩:=info_parts h;exact⟨i,_,hi,h1,h2,h3,rfl,by omega⟩
structure OwnV (w:World) (base:Nat) (v:Value) (l:List Cnt):Prop where
 own:w.ownsRow base 138 2 v l.length (cntCells l)
 rows: ∀c∈l,Sl w c.v c.r.length (rowCells c.r)
 far: ∀c∈l,∀k,c.v.ownBlock=some k→k<w.heap.size∧v.ownBlock≠some k
theorem OwnV.view {w:World}{base:Nat}{v:Value}{l:List Cnt}(h:OwnV w base v l):View w v l:=⟨Sl.of_own h.own,h.rows⟩
theorem OwnV.below {w w':World}{base:Nat}{v:Value}{l:List Cnt}(h:OwnV w base v l)(hb:Below w.heap.size w w'):OwnV w' base v l:=
 ⟨own_below h.own hb,fun c hc=>(h.rows c hc).below hb,fun c hc k hk=>⟨Nat.lt_of_lt_of_le (h.far c hc k hk).1 hb.size,(h.far c hc k hk).2⟩⟩
theorem OwnV.nil (w:World)(base:Nat):OwnV w base (.slice none 0 0) []:=⟨⟨rfl,.inl ⟨rfl,rfl⟩⟩,nofun,nofun⟩
theorem cntCells_app (a b:List Cnt):cntCells (a++b)=cntCells a++cntCells b:=List.flatMap_append
theorem OwnV.snoc {w w':World}{base:Nat}{v v':Value}{l:List Cnt}{c:Cnt}(h:OwnV w base v l)(hown:w'.ownsRow base 138 2 v' (l.length+1) (cntCells l++c.cells))(hg:w.grownBy w' v.ownBlock)(hat:v'.ownBlock=v.ownBlock∨v'.ownBlock=some w.heap.size)
 (hc:Sl w c.v c.r.length (rowCells c.r)) (hf: ∀k,c.v.ownBlock=some k→k<w.heap.size∧v.ownBlock≠some k):OwnV w' base v' (l++[c]):=by
 have hfar: ∀d∈l++[c],Sl w d.v d.r.length (rowCells d.r)∧ ∀k,d.v.ownBlock=some k→k<w.heap.size∧v.ownBlock≠some k:=by
  intro d hd;rcases List.mem_append.1 hd with hd|hd
  ·exact⟨h.rows d hd,h.far d hd⟩
  ·simp only[List.mem_singleton]at hd;subst hd;exact⟨hc,hf⟩
 refine⟨?_,fun d hd=>sl_grown (hfar d hd).1 hg (fun k hk=>((hfar d hd).2 k hk).2),fun d hd k hk=> ?_⟩
 ·rw[cntCells_app,List.length_append]
  simpa[cntCells]using hown
 ·obtain⟨h1,h2⟩:=(hfar d hd).2 k hk
  refine⟨Nat.lt_of_lt_of_le h1 hg.size,?_⟩;rcases hat with hat|hat
  ·rw[hat];exact h2
  ·rw[hat];intro e;injection e with e;omega
end Go.Proofs.YtjodlngbiikgfaaGreatDoor
