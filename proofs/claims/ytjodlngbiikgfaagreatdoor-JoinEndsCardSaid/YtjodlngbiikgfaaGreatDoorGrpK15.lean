/-Small words for insertions: builtins by their run, slices kept. slices.Insert of one entry. -/
import Derived.Test.YtjodlngbiikgfaaGreatDoorGrpK5
import Derived.Test.YtjodlngbiikgfaaGreatDoorGrpK6
import Derived.Lib.AppendZerosOnto
import Derived.Lib.Overlaps
set_option linter.unusedSimpArgs false
set_option linter.unusedVariables false
namespace Go.Proofs.YtjodlngbiikgfaaGreatDoor
open Go.RowKit
theorem wpList_append_run {P:Program}{w w':World}{ops:Array Oper}{rest:List Oper}{o:Oper}{a:Act}{Q:Exit→Act→World→Prop}{v':Value}(hgd:o.guard=none)(s x:Operand)(t tn:TypeId)
 (ho:o.op= .call {callee:= .builtin .append,args:= #[s,x],argTypes:= #[t,tn]}) (sv xv:Value) (hs:a.eval s=sv) (hx:a.eval x=xv)
 (hrun:(Builtin.append_ #[t,tn] o.type #[sv,xv]).run P w= .ok v' w') (h:wpList P ops Q rest (a.put o.dst v') w'):wpList P ops Q (o::rest) a w:=
 wpList_plain hgd fun _ hK=>by
  unfold Oper.wp execOp;simp only[ho,resolve,invoke,builtin,Sem.run_bind,Sem.run_pure,Result.andThen_ok,List.map_toArray,List.map_cons,List.map_nil,hs,hx,hrun];exact hK _ _ h
theorem Sl.grown_ {w w':World}{v:Value}{n:Nat}{cs:List Value}{row:Option Nat}(h:Sl w v n cs)(hg:w.grownBy w' row)(hr: ∀k,v.ownBlock=some k→row≠some k):Sl w' v n cs:=sl_grown h hg hr
theorem Sl.drew_ {w:World}{v:Value}{n:Nat}{cs:List Value}(h:Sl w v n cs):Sl w.drew v n cs:=h
theorem own_drew {w:World}{base:Nat}{e:TypeId}{size:Nat}{v:Value}{n:Nat}{xs:List Value}(h:w.ownsRow base e size v n xs):w.drew.ownsRow base e size v n xs:=h
theorem grown_none {w w':World}(h:w.grownBy w' none)(row:Option Nat):w.grownBy w' row:=⟨h.os,h.tape,h.output,h.size,fun k hk _=>h.block k hk (by simp)⟩
theorem sl_cells {w:World}{g n c:Nat}{cs:List Value}(h:Sl w (.slice (some ⟨g,0,none⟩) n c) n cs): ∀j v,cs[j]?=some v→w.cell? ((⟨g,0,none⟩:Addr).add j)=some v:=by
 intro j v hj;obtain⟨X,c',hv,-,-,-,h3⟩:=h;injection hv with e1 e2 e3;obtain⟨b,off,hX,hc⟩:=h3 (by rintro rfl;simp at hj);rw[hX]at e1;injection e1 with e1;injection e1 with e1 e2;subst e1 e2;have:=hc j v hj;unfold Addr.add;split
 ·rename_i h0;subst h0;exact this
 ·exact this
theorem own_block {w:World}{base g n cap size:Nat}{e:TypeId}{xs:List Value}(h:w.ownsRow base e size (.slice (some ⟨g,0,none⟩) n cap) n xs): ∃cur:Array Value,w.heap[g]?=some (.cells cur e (0,0))∧cur.size=cap*size:=by
 rcases h.2 with⟨h',-⟩|⟨g',cap',cur,h',hb,hg,hn,hc,hsz,ht⟩
 ·cases h'
 ·injection h' with e1 e2 e3
  injection e1 with e1;injection e1 with e1;subst e1 e3;exact⟨cur,hg,hsz⟩
theorem shape_blk' {w:World}{g:Nat}{cs:Array Value}{t:TypeId}(h:w.heap[g]?=some (.cells cs t (0,0))):w.shape? g=some (t,cs.size):=by simp[World.shape?,h]
theorem shape_blk {w:World}{g:Nat}{cs:Array Value}{t:TypeId}(h:Blk w g t cs):w.shape? g=some (t,cs.size):=shape_blk' h
end Go.Proofs.YtjodlngbiikgfaaGreatDoor
namespace Go.Proofs.YtjodlngbiikgfaaGreatDoor
open Go.RowKit
theorem own_copyE {w:World}{base g m cap o k dl sl c1 c2:Nat}{xs cs:List Value}{a:Addr}(h:w.ownsRow base 63 5 (.slice (some ⟨g,0,none⟩) m cap) m xs)(hok:o+k≤m)(hmin:Nat.min sl dl=k)(hcs:cs.length=k*5)
 (hsrc: ∀j v,cs[j]?=some v→w.cell? (a.add j)=some v) (h1: ∀v∈cs,v.oneCell'=true):
 ∃w',(∀ty,(Builtin.copy_ #[26,26] ty #[.slice (some ⟨g,o*5,none⟩) dl c1,.slice (some a) sl c2]).run Tryz.prog w= .ok (goInt (k:Nat)) w')∧
  w'.ownsRow base 63 5 (.slice (some ⟨g,0,none⟩) m cap) m (xs.take (o*5)++cs++xs.drop ((o+k)*5))∧w.grownBy w' (some g):=by
 have hx:=h.1;rcases h.2 with⟨h',-⟩|⟨g',cap',cur,h',hb,hg,hn,hc,hsz,ht⟩
 ·cases h'
 ·injection h' with e1 e2 e3
  injection e1 with e1;injection e1 with e1;subst e1 e3;have hcur:m*5≤cur.size:=by rw[hsz];exact Nat.mul_le_mul_right _ hn
  have hrun:=fun ty=>run_copy_wide (P:=Tryz.prog) w 26 26 ty 63 g (o*5) dl c1 a sl c2 5 cur 63 cs Tryz.underlying26 entSize hg (by rw[hcs,hmin]) hsrc (by rw[hcs];omega) h1;simp only[hmin]at hrun;have hcl:(cur.toList).length=cap*5:=by rw[Array.length_toList,hsz]
  refine⟨_,hrun,⟨?_,.inr ⟨g,cap,_,rfl,hb,setRow_heap w g cur _ 63 _ hg,hn,hc,?_,?_⟩⟩,⟨rfl,rfl,rfl,by simp[World.setRow],fun k hk hne=>setRow_other w g k _ (fun e=>hne (by rw[e]))⟩⟩
  ·rw[List.length_append,List.length_append,List.length_take,List.length_drop,hcs,hx];omega
  ·simp only[List.size_toArray,List.length_append,List.length_take,List.length_drop,hcl,hcs];omega
  ·have e1:cur.toList.take (o*5)=xs.take (o*5):=by rw[←ht,List.take_take,Nat.min_eq_left (by omega)]
   have e2:(cur.toList.drop (o*5+cs.length)).take (m*5-(o+k)*5)=xs.drop ((o+k)*5):=by
    rw[←ht,List.drop_take,hcs]
    congr 2
    omega
   have l1:(xs.take (o*5)++cs).length=(o+k)*5:=by rw[List.length_append,List.length_take,hcs,hx];omega
   show(cur.toList.take (o*5)++cs++cur.toList.drop (o*5+cs.length)).take (m*5)=_;rw[e1,List.take_append,l1,e2,List.take_of_length_le (by rw[l1];omega)]
theorem own_more {w:World}{base g n cap:Nat}{xs:List Value}(h:w.ownsRow base 63 5 (.slice (some ⟨g,0,none⟩) n cap) n xs)(hr:n+1≤cap): ∃ys,ys.length=5∧w.ownsRow base 63 5 (.slice (some ⟨g,0,none⟩) (n+1) cap) (n+1) (xs++ys):=by
 have hx:=h.1;rcases h.2 with⟨h',-⟩|⟨g',cap',cur,h',hb,hg,hn,hc,hsz,ht⟩
 ·cases h'
 ·injection h' with e1 e2 e3
  injection e1 with e1;injection e1 with e1;subst e1 e3;have hcl:(cur.toList).length=cap*5:=by rw[Array.length_toList,hsz]
  refine⟨(cur.toList.drop (n*5)).take 5,by rw[List.length_take,List.length_drop,hcl];omega,⟨by rw[List.length_append,List.length_take,List.length_drop,hcl,hx];omega,.inr ⟨g,cap,cur,rfl,hb,hg,hr,hc,hsz,?_⟩⟩⟩;rw[show(n+1)*5=n*5+5 by omega,List.take_add,ht]
theorem own_cells {w:World}{base g n cap i:Nat}{l:List Ent}(h:w.ownsRow base 63 5 (.slice (some ⟨g,0,none⟩) n cap) n (entCells l)): ∀j v,(entCells (l.drop i))[j]?=some v→w.cell? ((⟨g,i*5,none⟩:Addr).add j)=some v:=by
 intro j v hj;rw[←ent_drop,List.getElem?_drop]at hj;have:=h.cellAt (i*5+j) (by have:=(List.getElem?_eq_some_iff.1 hj).1;have h2:=h.1;omega);rw[hj]at this;unfold Addr.add;split
 ·rename_i h0;subst h0;simpa using this
 ·exact this
theorem grow_zeros {w:World}{base g cap n i:Nat}{l:List Ent}(h:w.ownsRow base 63 5 (.slice (some ⟨g,0,none⟩) n cap) n (entCells l))(hn:n=l.length)(hi:i<n)(hroom:cap<n+1)(hl:n≤1000000)(hbase:base≤w.heap.size):
 ∃G ys W',(∀ty,(Builtin.append_ #[26,3] ty #[.slice (some ⟨g,0,none⟩) i cap,.int .i64 ((n:Int)+1-(i:Int))]).run Tryz.prog w= .ok (.slice (some ⟨w.heap.size,0,none⟩) (n+1) G) W')∧ys.length=(n+1-i)*5∧
  W'.ownsRow base 63 5 (.slice (some ⟨w.heap.size,0,none⟩) (n+1) G) (n+1) (entCells (l.take i)++ys)∧w.grownBy W' none∧n+1≤G∧G≤maxLen:=by
 obtain⟨i0,z0,hi0,hz0,hzs,hzb,hz5,-⟩:=entI
 have hold:(Builtin.firstCells i0.size i (.slice (some ⟨g,0,none⟩) i cap)).run Tryz.prog w.drew= .ok (entCells (l.take i)).toArray w.drew:=by
  rw[hzs];refine run_firstCells_some w.drew 5 i ⟨g,0,none⟩ i cap (entCells (l.take i)) (by rw[entCells_len,List.length_take];omega) fun j v hj=> ?_;rw[←ent_take,List.getElem?_take]at hj;split at hj
  ·have:=h.cellAt j (by have:=(List.getElem?_eq_some_iff.1 hj).1;rw[entCells_len]at this;omega)
   rw[hj]at this;unfold Addr.add;split
   ·rename_i h0;subst h0;simpa using this
   ·simpa using this
  ·cases hj
 have hik:i+(n+1-i)=n+1:=by omega
 have hkk:(n:Int)+1-(i:Int)=((n+1-i:Nat):Int):=by omega
 have hrun:=fun ty=>Go.Lib.run_append_grow_zeros (P:=Tryz.prog) w 26 3 ty 63 i0 z0 .i64 .i64 Tryz.underlying26 Tryz.underlying3 hi0 hz0 (some ⟨g,0,none⟩) i cap (entCells (l.take i)) hold (n+1-i) (by omega) (by omega) (by omega) (by omega) (by rw[hzb];omega) (by
  rw[hzb,hik];have:=nextslicecap_le hroom;have h2:Builtin.nextslicecap (n+1) cap*64≤(2*(n+1))*64:=Nat.mul_le_mul_right _ this;omega)
 rw[hik]at hrun;have hG1:=grownCap_ge w (n+1) cap 63;have hG2:=grownCap_le_maxLen w (n+1) cap 63 (by unfold maxLen;omega);generalize grownCap w (n+1) cap 63=G at hrun hG1 hG2;have hzl: ∀k,(Builtin.zeroCells z0.cells k).size=k*5:=fun k=>by simp[Builtin.zeroCells,hz5]
 have hl1:(entCells (l.take i)).length=i*5:=by rw[entCells_len,List.length_take];omega
 refine⟨G,(Builtin.zeroCells z0.cells (n+1-i)).toList,_,fun ty=>by rw[hkk];exact hrun ty,by rw[Array.length_toList,hzl],⟨by rw[List.length_append,hl1,Array.length_toList,hzl];omega,.inr ⟨w.heap.size,G,_,rfl,hbase,heap_alloc_new w.drew _,hG1,hG2,?_,?_⟩⟩,?_,hG1,hG2⟩
 ·simp only[Array.size_append,List.size_toArray,hl1,hzl];omega
 ·have hl2:(entCells (l.take i)++(Builtin.zeroCells z0.cells (n+1-i)).toList).length=(n+1)*5:=by rw[List.length_append,hl1,Array.length_toList,hzl];omega
  rw[Array.toList_append,Array.toList_append];exact List.take_left' hl2
 ·exact drew_grown (World.grownBy_alloc w.drew _ none)
theorem OwnE.laid {w w':World}{base i:Nat}{v v':Value}{l:List Ent}{c:Ent}(h:OwnE w base v l)(hi:i≤l.length)(hown:w'.ownsRow base 63 5 v' (l.length+1) (entCells (l.take i)++(c.cells++entCells (l.drop i))))(hg:w.grownBy w' v.ownBlock)(hat:v'.ownBlock=v.ownBlock∨ ∀k,v'.ownBlock=some k→w.heap.size≤k)
 (hc:Sl w c.v c.e.r.length (rowCells c.e.r)) (hf: ∀k,c.v.ownBlock=some k→base≤k∧k<w.heap.size∧v.ownBlock≠some k):OwnE w' base v' (l.take i++c::l.drop i):=by
 have hd: ∀d∈l.take i++c::l.drop i,Sl w d.v d.e.r.length (rowCells d.e.r)∧ ∀k,d.v.ownBlock=some k→base≤k∧k<w.heap.size∧v.ownBlock≠some k:=by
  intro d hd;rcases List.mem_append.1 hd with hd|hd
  ·exact⟨h.rows d (List.mem_of_mem_take hd),h.far d (List.mem_of_mem_take hd)⟩
  ·rcases List.mem_cons.1 hd with rfl|hd
   ·exact⟨hc,hf⟩
   ·exact⟨h.rows d (List.mem_of_mem_drop hd),h.far d (List.mem_of_mem_drop hd)⟩
 refine⟨?_,fun d hd'=>sl_grown (hd d hd').1 hg (fun k hk=>((hd d hd').2 k hk).2.2),fun d hd' k hk=> ?_⟩
 ·rw[show(l.take i++c::l.drop i).length=l.length+1 by simp;omega,entCells_app,show entCells (c::l.drop i)=c.cells++entCells (l.drop i)from rfl]
  exact hown
 ·obtain⟨z,p,q⟩:=(hd d hd').2 k hk
  refine⟨z,Nat.lt_of_lt_of_le p hg.size,fun e=> ?_⟩;rcases hat with hat|hat
  ·exact q (hat▸e)
  ·have:=hat k e;omega
set_option maxHeartbeats 8000000 in
set_option maxRecDepth 100000 in
theorem insert_any (v:Value)(l:List Ent)(c:Ent)(base gs i:Nat)(w:World)(h:OwnE w base v l)(hbase:base≤w.heap.size)(hl:l.length≤1000000)(hi:i≤l.length)
 (hgb:Blk w gs 63 c.cells.toArray) (hgs:v.ownBlock≠some gs) (hc:Sl w c.v c.e.r.length (rowCells c.e.r)) (hf: ∀k,c.v.ownBlock=some k→base≤k∧k<w.heap.size∧v.ownBlock≠some k):
 Calls Tryz.prog 147 #[v,.int .i64 i,.slice (some ⟨gs,0,none⟩) 1 1] w fun e w'=> ∃v',e= .returned v'∧OwnE w' base v' (l.take i++c::l.drop i)∧w.grownBy w' v.ownBlock∧(v'.ownBlock=v.ownBlock∨ ∀k,v'.ownBlock=some k→w.heap.size≤k):=by
 have HO:=Lib.hid h;have HGB:=Lib.hid hgb;have HS:=Lib.hid (Sl.block hgb 1 1 (Nat.le_refl _) (by decide));rw[show c.cells.toArray.toList=c.cells from rfl]at HS;have HC:=Lib.hid hc;have HF:=Lib.hid hf;have HONE:=Lib.hid (ent_one hc);obtain⟨A0,c0,rfl,hc1,hc2,-⟩:=Sl.of_own h.own;unfold maxLen at hc2;have i0:(0:Int)≤(i:Int):=by omega
 have i1:(i:Int)≤(l.length:Int):=by omega
 clear h hgb hc hf;by_cases hin:i=l.length
 ·subst hin
  have hz:((l.length:Int)==(l.length:Int))=true:=beq_self_eq_true _;have hcc:c0=l.length∨ ¬c0=l.length:=Decidable.em _;rcases hcc with hcc|hcc
  ·subst hcc
   go_enter Tryz.func147,Tryz.ntmps147
   go_wp2_with (at_builtin;refine wpList_app rfl (.tmp 23) (.tmp 24) 26 rfl base 63 5 64 Tryz.underlying26 entI _ l.length _ rfl HO.out.own _ 1 c.cells rfl HS.out rfl HONE.out ?_ ?_ hbase ?_)
   ·unfold maxLen;omega
   ·omega
   ·intro v7 w7 hown7 hg7 hat7
    have H7:=Lib.hid (HO.out.snoc hown7 hg7 hat7 HC.out HF.out);have HG7:=Lib.hid hg7;have HT7:=Lib.hid hat7;clear hown7 hg7 hat7;go_wp2;go_ret;refine⟨v7,rfl,?_,HG7.out,?_⟩
    ·rw[List.take_length,List.drop_length];exact H7.out
    ·rcases HT7.out with e|e
     ·exact .inl e
     ·exact .inr fun k hk=>by rw[e]at hk;injection hk with hk;omega
  ·skip
   go_enter Tryz.func147,Tryz.ntmps147
   go_wp2_with (at_builtin;refine wpList_app rfl (.tmp 23) (.tmp 24) 26 rfl base 63 5 64 Tryz.underlying26 entI _ l.length _ rfl HO.out.own _ 1 c.cells rfl HS.out rfl HONE.out ?_ ?_ hbase ?_)
   ·unfold maxLen;omega
   ·omega
   ·intro v7 w7 hown7 hg7 hat7
    have H7:=Lib.hid (HO.out.snoc hown7 hg7 hat7 HC.out HF.out);have HG7:=Lib.hid hg7;have HT7:=Lib.hid hat7;clear hown7 hg7 hat7;go_wp2;go_ret;refine⟨v7,rfl,?_,HG7.out,?_⟩
    ·rw[List.take_length,List.drop_length];exact H7.out
    ·rcases HT7.out with e|e
     ·exact .inl e
     ·exact .inr fun k hk=>by rw[e]at hk;injection hk with hk;omega
 ·have hz:((i:Int)==(l.length:Int))=false:=beqF (by omega)
  obtain⟨g,cap,hform,hg3b,hg3l⟩:=HO.out.own.form (by omega);injection hform with e1 e2 e3;subst e1 e3;have HI:Hid (i<l.length):=Lib.hid (by omega);have hci: ¬c0=i:=by omega
  have hw1:IntKind.i64.wrap ((i:Int)+1)=(i:Int)+1:=by rw[IntKind.wrap_i64];omega
  have hw2:IntKind.i64.wrap ((l.length:Int)+1)=(l.length:Int)+1:=by rw[IntKind.wrap_i64];omega
  have hw3:IntKind.i64.wrap ((l.length:Int)+1-(i:Int))=(l.length:Int)+1-(i:Int):=by rw[IntKind.wrap_i64];omega
  have hb1:(0:Int)≤(i:Int)+1:=by omega
  have hb3:(i:Int)≤(l.length:Int)+1:=by omega
  have htn:((i:Int)+1).toNat=i+1:=by omega
  have htm:((l.length:Int)+1).toNat=l.length+1:=by omega
  by_cases hroom:c0<l.length+1
  ·have hz3:(c0:Int)<(l.length:Int)+1:=by omega
   obtain⟨G,ys,W1,hrun1,hys,hown1,hg1,hG1,hG2⟩:=grow_zeros HO.out.own rfl HI.out hroom hl hbase;have HR1:=Lib.hid hrun1;have hGi: ¬G=i:=by have:=HI.out;omega
   have hGj: ¬G=i+1:=by have:=HI.out;omega
   have hG9:G≤9223372036854775807:=by unfold maxLen at hG2;exact hG2
   have S1:=HS.out.grown_ hg1 (fun _ _=>by simp);obtain⟨W2,hrun2,hown2,hg2⟩:=own_copyE (o:=i) (k:=1) (dl:=l.length+1-i) (sl:=1) (c1:=G-i) (c2:=1) (a:=⟨gs,0,none⟩) (cs:=c.cells) hown1 (by have:=HI.out;omega) (by show min _ _=_;have:=HI.out;omega) rfl (sl_cells S1) HONE.out;have hg12:w.grownBy W2 none:=grown_new hg1 hg2 (fun j hj=> .inr (by injection hj with hj;omega));have S2:=own_drew (HO.out.own.kept hg12 (.inr (by simp[Value.ownBlock])))
   obtain⟨W3,hrun3,hown3,hg3⟩:=own_copyE (w:=W2.drew) (o:=i+1) (k:=l.length-i) (dl:=l.length-i) (sl:=l.length-i) (c1:=G-(i+1)) (c2:=c0-i) (a:=⟨g,i*5,none⟩) (cs:=entCells (l.drop i)) hown2 (by have:=HI.out;omega) (by show min _ _=_;have:=HI.out;omega) (by rw[entCells_len,List.length_drop]) (own_cells S2) (fun u hu=>by
    obtain⟨d,hd,hu⟩:=List.mem_flatMap.1 hu;exact ent_one (HO.out.rows d (List.mem_of_mem_drop hd)) u hu)
   have hg13:w.grownBy W3 none:=grown_new (grown_drew hg12) hg3 (fun j hj=> .inr (by injection hj with hj;omega));have HL1:(entCells (l.take i)).length=i*5:=by rw[entCells_len,List.length_take];have:=HI.out;omega
   have HX:Hid (OwnE W3 base (.slice (some ⟨w.heap.size,0,none⟩) (l.length+1) G) (l.take i++c::l.drop i)):=Lib.hid (by
    refine HO.out.laid (i:=i) (by have:=HI.out;omega) ?_ (grown_none hg13 _) (.inr (fun k hk=>by simp[Value.ownBlock]at hk;omega)) HC.out HF.out;have e1:(entCells (l.take i)++ys).take (i*5)=entCells (l.take i):=by rw[List.take_append_of_le_length (by omega),List.take_of_length_le (by omega)]
    rw[e1]at hown3;have e2:(entCells (l.take i)++c.cells).length=(i+1)*5:=by rw[List.length_append,HL1,Ent.cells_len];omega
    have e3:(entCells (l.take i)++c.cells++(entCells (l.take i)++ys).drop ((i+1)*5)).drop ((i+1+(l.length-i))*5)=[]:=List.drop_eq_nil_of_le (by rw[List.length_append,List.length_append,List.length_drop,List.length_append,HL1,hys,Ent.cells_len];have:=HI.out;omega);rw[e3,List.take_append_of_le_length (by rw[e2];exact Nat.le_refl _),List.take_of_length_le (by rw[e2];exact Nat.le_refl _),List.append_nil,List.append_assoc]at hown3;exact hown3)
   have HG:=Lib.hid (grown_none hg13 (Value.slice (some ⟨g,0,none⟩) l.length c0).ownBlock);have HR2:=Lib.hid hrun2;have HR3:=Lib.hid hrun3;clear hrun1 hrun2 hrun3 hown1 hown2 hown3 hg1 hg2 hg3 hg12 hg13 S1 S2 HL1 hG2;go_enter Tryz.func147,Tryz.ntmps147
   have hr2:=HR2.out
   go_wp2_with (at_builtin;refine wpList_append_run rfl (.tmp 34) (.tmp 39) 26 3 rfl _ _ rfl rfl (HR1.out _) ?_)
   refine wp_region_held_drew (S:=(fun _=>True)) (by kernel_rfl) trivial (fun hHeld=> ?_);refine tk 0 ?_;refine tk 1 ?_;refine tk 2 ?_;refine tk 3 ?_;refine tk 4 ?_;refine tk 5 ?_;refine tk 6 ?_;refine tk 7 ?_;refine tc 8 ?_;intro K hK;refine step_copy_run (by rfl) (.tmp 50) (.tmp 53) 26 26 (by rfl) _ _ (by rfl) (by rfl) (HR3.out _) ?_;refine hK.out _ _ trivial (fun hHeld8=> ?_);clear hK K;refine td ?_;go_wp2;go_ret;exact⟨_,rfl,HX.out,HG.out,.inr (fun k hk=>by simp[Value.ownBlock]at hk;omega)⟩
  ·have hz3: ¬(c0:Int)<(l.length:Int)+1:=by omega
   have hci2: ¬c0=i+1:=by have:=HI.out;omega
   obtain⟨ys,hys,hown1⟩:=own_more HO.out.own (by omega);have hgw:g<w.heap.size:=(HO.out.own.lt g rfl).2
   have hov: ∀lb cb,(callFunc 172 #[.slice (some ⟨gs,0,none⟩) 1 1,.slice (some ⟨g,(i+1)*5,none⟩) lb cb]).run Tryz.prog w= .ok (.value (.bool false)) w:=fun lb cb=>by
    have hgs':gs≠g:=fun e=>hgs (by rw[e];rfl);obtain⟨cur,hcur,hcs⟩:=own_block HO.out.own
    rw[run_callFunc_extern Tryz.func172 (by kernel_rfl) (by kernel_rfl) (by kernel_rfl) (e:=Extern.SlicesOverlaps.overlaps #[26,26] #[4]) (by kernel_rfl),
     Go.Lib.run_overlaps_apart w 26 4 63 Tryz.underlying26 5 (fun _=>by kernel_rfl) ⟨gs,0,none⟩ ⟨g,(i+1)*5,none⟩ 1 1 lb cb hgs' _ _ _ _ (shape_blk HGB.out) (shape_blk' hcur) (by rw[hcs];have:=HI.out;omega) (HGB.out.free 0) (HGB.out.free _)]
    rfl
   obtain⟨W2,hrun2,hown2,hg2⟩:=own_copyE (w:=w.drew) (o:=i+1) (k:=l.length-i) (dl:=l.length-i) (sl:=l.length+1-i) (c1:=c0-(i+1)) (c2:=c0-i) (a:=⟨g,i*5,none⟩) (cs:=entCells (l.drop i)) (own_drew hown1) (by have:=HI.out;omega) (by show min _ _=_;have:=HI.out;omega) (by rw[entCells_len,List.length_drop]) (own_cells (own_drew HO.out.own)) (fun u hu=>by
    obtain⟨d,hd,hu⟩:=List.mem_flatMap.1 hu;exact ent_one (HO.out.rows d (List.mem_of_mem_drop hd)) u hu)
   have S2:=sl_grown (HS.out.drew_) hg2 (fun k hk e=>hgs (by
    have h1:gs=k:=by simpa[Value.ownBlock]using hk
    have h2:g=k:=by simpa using e
    rw[h1,←h2];rfl))
   obtain⟨W3,hrun3,hown3,hg3⟩:=own_copyE (o:=i) (k:=1) (dl:=l.length+1-i) (sl:=1) (c1:=c0-i) (c2:=1) (a:=⟨gs,0,none⟩) (cs:=c.cells) hown2 (by have:=HI.out;omega) (by show min _ _=_;have:=HI.out;omega) rfl (sl_cells S2) HONE.out;have hg13:w.grownBy W3 (some g):=grown_trans (drew_grown hg2) hg3;have HL1:(entCells (l.take i)).length=i*5:=by rw[entCells_len,List.length_take];have:=HI.out;omega
   have HX:Hid (OwnE W3 base (.slice (some ⟨g,0,none⟩) (l.length+1) c0) (l.take i++c::l.drop i)):=Lib.hid (by
    refine HO.out.laid (i:=i) (by have:=HI.out;omega) ?_ hg13 (.inl rfl) HC.out HF.out;have e0:(entCells l).length=l.length*5:=entCells_len l
    have e1:(entCells l++ys).take ((i+1)*5)=(entCells (l.take i))++((entCells l).drop (i*5)).take 5:=by
     rw[List.take_append_of_le_length (by rw[e0];have:=HI.out;omega),show(i+1)*5=i*5+5 by omega,List.take_add,ent_take]
    have e2:(entCells l++ys).drop ((i+1+(l.length-i))*5)=[]:=List.drop_eq_nil_of_le (by rw[List.length_append,e0,hys];have:=HI.out;omega);have e3:(((entCells l).drop (i*5)).take 5).length=5:=by rw[List.length_take,List.length_drop,e0];have:=HI.out;omega
    have e6:(entCells l++ys).take ((i+1)*5)++entCells (l.drop i)++(entCells l++ys).drop ((i+1+(l.length-i))*5)=entCells (l.take i)++(((entCells l).drop (i*5)).take 5++entCells (l.drop i)):=by rw[e1,e2,List.append_nil,List.append_assoc]
    rw[e6]at hown3;have e4:(entCells (l.take i)++(((entCells l).drop (i*5)).take 5++entCells (l.drop i))).take (i*5)=entCells (l.take i):=by rw[List.take_append_of_le_length (by omega),List.take_of_length_le (by omega)]
    have e5:(entCells (l.take i)++(((entCells l).drop (i*5)).take 5++entCells (l.drop i))).drop ((i+1)*5)=entCells (l.drop i):=by
     rw[←List.append_assoc];exact List.drop_left' (by rw[List.length_append,HL1,e3];omega)
    rw[e4,e5,List.append_assoc]at hown3;exact hown3)
   have HG:=Lib.hid hg13;have HR2:=Lib.hid hrun2;have HR3:=Lib.hid hrun3;clear hrun2 hrun3 hown1 hown2 hown3 hg2 hg3 hg13 S2 HL1;go_enter Tryz.func147,Tryz.ntmps147
   go_wp2_with (simp only[hov])
   refine wp_region_held_drew (S:=(fun _=>True)) (by kernel_rfl) trivial (fun hHeld=> ?_);refine tk 0 ?_;refine tk 1 ?_;refine tk 2 ?_;refine tk 3 ?_;refine tk 4 ?_;refine tk 5 ?_;refine tk 6 ?_;refine tk 7 ?_;refine tc 8 ?_;intro K hK;refine step_copy_run (by rfl) (.tmp 73) (.tmp 76) 26 26 (by rfl) _ _ (by rfl) (by rfl) (HR2.out _) ?_;refine hK.out _ _ trivial (fun hHeld8=> ?_);clear hK K;refine td ?_;have hr3:=HR3.out;go_wp2;go_ret;exact⟨_,rfl,HX.out,HG.out,.inl rfl⟩
end Go.Proofs.YtjodlngbiikgfaaGreatDoor
