/-Groups: cells, and the reference's groupOf. Small words for insertions: builtins by their run, slices kept. slices.Insert of one tally (the text of th -/
import Derived.Test.YtjhbeecmdgglgaaGreatDoorGrpV20
import Derived.Test.YtjhbeecmdgglgaaGreatDoorGrpV6
import Derived.Test.YtjhbeecmdgglgaaGreatDoorGrpV9
import Derived.Lib.AppendZerosOnto
import Derived.Lib.Overlaps
import Derived.WalkSmall
set_option linter.unusedSimpArgs false
set_option linter.unusedVariables false
namespace Go.Proofs.YtjhbeecmdgglgaaGreatDoor
open Go.RowKit
def cellsL (l:List Int) (r:List Val):List Val:=l.map fun c=>r.getD c.toNat nullG
set_option maxHeartbeats 4000000 in
set_option maxRecDepth 10000 in
theorem cells_any (p:Pl)(vr:Value)(r:List Val)(w:World)(hg:Sl w p.vg p.group.length (intCells p.group))(hr:Sl w vr r.length (rowCells r))(hx: ∀c∈p.group,0≤c∧c<(r.length:Nat))(h8:p.group.length≤8):
 Calls Tryz.prog 113 #[.agg #[.int .i64 p.kind,.int .i64 p.mode,.int .i64 p.low,.int .i64 p.high,.int .i64 p.size,.int .i64 p.limit,p.vl,p.vr,p.vk,p.vq,.bool p.grouped,p.vg,p.va],vr] w fun e w'=> ∃v',e= .returned v'∧w'.ownsRow (w.heap.size+1) 68 3 v' (cellsG p r).length (rowCells (cellsG p r))∧Below w.heap.size w w':=by
 have HG:=Lib.hid hg;have HR:=Lib.hid hr;have HX:=Lib.hid hx;obtain⟨A4,c4,h4,n4,m4,-⟩:=id hg;obtain⟨Ar,cr,rfl,nr,mr,-⟩:=id hr;unfold maxLen at m4 mr;rw[h4]at HG⊢;have HLC:Hid ((cellsG p r).length=p.group.length):=Lib.hid (by simp[cellsG]);have HCG:Hid (∀_:Nat,cellsG p r=cellsL p.group r):=Lib.hid (fun _=>rfl);have hB:=below_alloc w (.cells #[.int .i64 p.kind,.int .i64 p.mode,.int .i64 p.low,.int .i64 p.high,.int .i64 p.size,.int .i64 p.limit,p.vl,p.vr,p.vk,p.vq,.bool p.grouped,.slice A4 p.group.length c4,p.va] 25);have K0:=Blk.new w 25 #[.int .i64 p.kind,.int .i64 p.mode,.int .i64 p.low,.int .i64 p.high,.int .i64 p.size,.int .i64 p.limit,p.vl,p.vr,p.vk,p.vq,.bool p.grouped,.slice A4 p.group.length c4,p.va];have HK0:=Lib.hid K0;have y11:=K0.cell 11 _ rfl;clear h4 hg hr hx K0;go_enter Tryz.func113,Tryz.ntmps113
 go_wp2_with fail
 go_loopw[5,7,11] (fun ov _ i wr=> ∃k:Nat,k≤p.group.length∧i= .int .i64 k∧Hid (wr.ownsRow (w.heap.size+1) 68 3 ov k (rowCells (cellsL (p.group.take k) r)))∧Hid (Blk wr w.heap.size 25 #[.int .i64 p.kind,.int .i64 p.mode,.int .i64 p.low,.int .i64 p.high,.int .i64 p.size,.int .i64 p.limit,p.vl,p.vr,p.vk,p.vq,.bool p.grouped,.slice A4 p.group.length c4,p.va])∧w.heap.size+1≤wr.heap.size∧Below w.heap.size w wr) (fun _ _ i _=>p.group.length-(intOf i).toNat)
 case atStart=>exact⟨0,by omega,rfl,Lib.hid ⟨rfl,.inl ⟨rfl,rfl⟩⟩,HK0,by simp,hB⟩
 case round=>
  clear y11;obtain⟨k,hk,rfl,HO,HK,hsr,hbr⟩:=hrel;have y11:=HK.out.cell 11 _ rfl;by_cases hlt:k<p.group.length
  ·obtain⟨bg,og,rfl,-,hcg⟩:=int_at HG.out rfl hlt
   have d1:=hcg _ hbr;have gk:p.group[k]?=some (p.group.getD k 0):=by simp[hlt]
   generalize p.group.getD k 0=c at d1 gk;have rx:=HX.out c (List.mem_of_getElem? gk);obtain⟨m,rfl⟩: ∃m:Nat,c=m:=⟨c.toNat,by omega⟩;have hm:m<r.length:=by omega
   have hz:=List.getElem?_eq_getElem (l:=r) hm;generalize r[m]=z at hz;have hst:cellsL (p.group.take (k+1)) r=cellsL (p.group.take k) r++[r.getD ((m:Int)).toNat nullG]:=map_step (f:=fun c:Int=>r.getD c.toNat nullG) gk;have hmn:r.getD ((m:Int)).toNat nullG=z:=by simp[List.getD,hz]
   rw[hmn]at hst;have HST:=Lib.hid hst;clear hst;obtain⟨bz,oz,rfl,-,hcz⟩:=val_at HR.out rfl hz;obtain⟨z0,z1,z2⟩:=hcz _ hbr;obtain⟨zk,zn,zs⟩:=z;simp only at z0 z1 z2 HST;have HO1:=Lib.hid (HO.out.alloc (.cells #[.int .i64 zk,.int .i64 zn,.string zs] 68));have HV1:=Lib.hid (Sl.block (Blk.new wr 68 #[.int .i64 zk,.int .i64 zn,.string zs]) 1 1 (Nat.le_refl _) (by decide));have HB1:=Lib.hid (hbr.alloc hbr.size (.cells #[.int .i64 zk,.int .i64 zn,.string zs] 68));have HGE:=Lib.hid (own_ge HO.out);have HK1:=Lib.hid (HK.out.alloc (.cells #[.int .i64 zk,.int .i64 zn,.string zs] 68));have m0':(0:Int)≤(m:Int):=by omega
   have m1':(m:Int)<(r.length:Int):=by omega
   have HSR:=Lib.hid hsr;clear hz hcz hcg hmn gk rx HK hsr HO
   go_wp2_with (at_builtin;refine wpList_app rfl (.tmp 15) (.tmp 20) 43 rfl (w.heap.size+1) 68 3 32 Tryz.underlying43 valJ _ k _ rfl HO1.out _ 1 [.int .i64 zk,.int .i64 zn,.string zs] rfl HV1.out rfl (by simp[Value.oneCell']) ?_ ?_ ?_ ?_)
   ·unfold maxLen;omega
   ·omega
   ·have:=HSR.out;simp;omega
   ·intro v3 w3 hown3 hg3 hat3
    have hb3:=below_grown HB1.out hg3 (fun j hj=>by have:=HGE.out j hj;omega)
    have H3:Hid (w3.ownsRow (w.heap.size+1) 68 3 v3 (k+1) (rowCells (cellsL (p.group.take (k+1)) r))):=Lib.hid (by
     rw[HST.out,rcApp,rowCells_one1];exact hown3)
    have HK3:=Lib.hid (HK1.out.grown hg3 (fun e=>by have:=HGE.out _ e;omega));have hs3:w.heap.size+1≤w3.heap.size:=by have h1:=hg3.size;have:=HSR.out;simp at h1;omega
    clear hown3 hg3 hat3;go_wp2;go_roundw
    case rel=>exact⟨k+1,by omega,by go_num,H3,HK3,hs3,hb3⟩
    case measure=>simp[intOf];omega
  ·obtain rfl:k=p.group.length:=by omega
   rw[List.take_length,←HCG.out 0]at HO;have HO2:=Lib.hid (show wr.ownsRow (w.heap.size+1) 68 3 u5 (cellsG p r).length (rowCells (cellsG p r))from by rw[HLC.out];exact HO.out);clear HO HK;go_wp2;go_ret;exact⟨_,rfl,HO2.out,hbr⟩
end Go.Proofs.YtjhbeecmdgglgaaGreatDoor
namespace Go.Proofs.YtjhbeecmdgglgaaGreatDoor
open Go.RowKit
theorem wpList_append_run {P:Program}{w w':World}{ops:Array Oper}{rest:List Oper}{o:Oper}{a:Act}{Q:Exit→Act→World→Prop}{v':Value}(hgd:o.guard=none)(s x:Operand)(t tn:TypeId)
 (ho:o.op= .call {callee:= .builtin .append,args:= #[s,x],argTypes:= #[t,tn]}) (sv xv:Value) (hs:a.eval s=sv) (hx:a.eval x=xv)
 (hrun:(Builtin.append_ #[t,tn] o.type #[sv,xv]).run P w= .ok v' w') (h:wpList P ops Q rest (a.put o.dst v') w'):wpList P ops Q (o::rest) a w:=
 wpList_plain hgd fun _ hK=>by
  unfold Oper.wp execOp;simp only[ho,resolve,invoke,builtin,Sem.run_bind,Sem.run_pure,Result.andThen_ok,List.map_toArray,List.map_cons,List.map_nil,hs,hx,hrun];exact hK _ _ h
theorem Sl.grown_ {w w':World}{v:Value}{n:Nat}{cs:List Value}{row:Option Nat}(h:Sl w v n cs)(hg:w.grownBy w' row)(hr: ∀k,v.ownBlock=some k→row≠some k):Sl w' v n cs:=sl_grown h hg hr
theorem Sl.drew_ {w:World}{v:Value}{n:Nat}{cs:List Value}(h:Sl w v n cs):Sl w.drew v n cs:=h
theorem own_drew {w:World}{base:Nat}{e:TypeId}{size:Nat}{v:Value}{n:Nat}{xs:List Value}(h:w.ownsRow base e size v n xs):w.drew.ownsRow base e size v n xs:=h
theorem grown_none {w w':World}(h:w.grownBy w' none)(row:Option Nat):w.grownBy w' row:=⟨h.os,h.tape,h.output,h.size,fun k hk _=>h.block k hk (by simp)⟩
theorem sl_cells {w:World}{g n c:Nat}{cs:List Value}(h:Sl w (.slice (some ⟨g,0,none⟩) n c) n cs): ∀j v,cs[j]?=some v→w.cell? ((⟨g,0,none⟩:Addr).add j)=some v:=by
 intro j v hj;obtain⟨X,c',hv,-,-,-,h3⟩:=h;injection hv with e1 e2 e3;obtain⟨b,off,hX,hc⟩:=h3 (by rintro rfl;simp at hj);rw[hX]at e1;injection e1 with e1;injection e1 with e1 e2;subst e1 e2;have:=hc j v hj;unfold Addr.add;split
 ·rename_i h0;subst h0;exact this
 ·exact this
theorem own_block {w:World}{base g n cap size:Nat}{e:TypeId}{xs:List Value}(h:w.ownsRow base e size (.slice (some ⟨g,0,none⟩) n cap) n xs): ∃cur:Array Value,w.heap[g]?=some (.cells cur e (0,0))∧cur.size=cap*size:=by
 rcases h.2 with⟨h',-⟩|⟨g',cap',cur,h',hb,hg,hn,hc,hsz,ht⟩
 ·cases h'
 ·injection h' with e1 e2 e3
  injection e1 with e1;injection e1 with e1;subst e1 e3;exact⟨cur,hg,hsz⟩
theorem shape_blk' {w:World}{g:Nat}{cs:Array Value}{t:TypeId}(h:w.heap[g]?=some (.cells cs t (0,0))):w.shape? g=some (t,cs.size):=by simp[World.shape?,h]
theorem shape_blk {w:World}{g:Nat}{cs:Array Value}{t:TypeId}(h:Blk w g t cs):w.shape? g=some (t,cs.size):=shape_blk' h
end Go.Proofs.YtjhbeecmdgglgaaGreatDoor
namespace Go.Proofs.YtjhbeecmdgglgaaGreatDoor
open Go.RowKit
structure OwnT (w:World) (base:Nat) (v:Value) (l:List Tl):Prop where
 own:w.ownsRow base 181 4 v l.length (tlCells l)
theorem OwnT.snoc {w w':World}{base:Nat}{v v':Value}{l:List Tl}{c:Tl}(h:OwnT w base v l)(hown:w'.ownsRow base 181 4 v' (l.length+1) (tlCells l++c.cells))(hg:w.grownBy w' v.ownBlock)(hat:v'.ownBlock=v.ownBlock∨v'.ownBlock=some w.heap.size)
 (hc:True) (hf:True):OwnT w' base v' (l++[c]):=⟨by rw[tlCells_app,List.length_append];simpa[tlCells]using hown⟩
theorem OwnT.laid {w w':World}{base i:Nat}{v v':Value}{l:List Tl}{c:Tl}(h:OwnT w base v l)(hi:i≤l.length)(hown:w'.ownsRow base 181 4 v' (l.length+1) (tlCells (l.take i)++(c.cells++tlCells (l.drop i))))(hg:w.grownBy w' v.ownBlock)(hat:v'.ownBlock=v.ownBlock∨ ∀k,v'.ownBlock=some k→w.heap.size≤k)
 (hc:True) (hf:True):OwnT w' base v' (l.take i++c::l.drop i):=⟨by
 rw[show(l.take i++c::l.drop i).length=l.length+1 by simp;omega,tlCells_app,show tlCells (c::l.drop i)=c.cells++tlCells (l.drop i)from rfl];exact hown⟩
theorem tlSize:(Tryz.prog.info? 181).map (·.size)=some 4:=by kernel_rfl
theorem tl_take (l:List Tl)(k:Nat):(tlCells l).take (k*4)=tlCells (l.take k):=flat_take Tl.cells_len l k
theorem tl_drop (l:List Tl)(k:Nat):(tlCells l).drop (k*4)=tlCells (l.drop k):=flat_drop Tl.cells_len l k
theorem own_copyT {w:World}{base g m cap o k dl sl c1 c2:Nat}{xs cs:List Value}{a:Addr}(h:w.ownsRow base 181 4 (.slice (some ⟨g,0,none⟩) m cap) m xs)(hok:o+k≤m)(hmin:Nat.min sl dl=k)(hcs:cs.length=k*4)
 (hsrc: ∀j v,cs[j]?=some v→w.cell? (a.add j)=some v) (h1: ∀v∈cs,v.oneCell'=true):
 ∃w',(∀ty,(Builtin.copy_ #[155,155] ty #[.slice (some ⟨g,o*4,none⟩) dl c1,.slice (some a) sl c2]).run Tryz.prog w= .ok (goInt (k:Nat)) w')∧
  w'.ownsRow base 181 4 (.slice (some ⟨g,0,none⟩) m cap) m (xs.take (o*4)++cs++xs.drop ((o+k)*4))∧w.grownBy w' (some g):=by
 have hx:=h.1;rcases h.2 with⟨h',-⟩|⟨g',cap',cur,h',hb,hg,hn,hc,hsz,ht⟩
 ·cases h'
 ·injection h' with e1 e2 e3
  injection e1 with e1;injection e1 with e1;subst e1 e3;have hcur:m*4≤cur.size:=by rw[hsz];exact Nat.mul_le_mul_right _ hn
  have hrun:=fun ty=>run_copy_wide (P:=Tryz.prog) w 155 155 ty 181 g (o*4) dl c1 a sl c2 4 cur 181 cs Tryz.underlying155 tlSize hg (by rw[hcs,hmin]) hsrc (by rw[hcs];omega) h1;simp only[hmin]at hrun;have hcl:(cur.toList).length=cap*4:=by rw[Array.length_toList,hsz]
  refine⟨_,hrun,⟨?_,.inr ⟨g,cap,_,rfl,hb,setRow_heap w g cur _ 181 _ hg,hn,hc,?_,?_⟩⟩,⟨rfl,rfl,rfl,by simp[World.setRow],fun k hk hne=>setRow_other w g k _ (fun e=>hne (by rw[e]))⟩⟩
  ·rw[List.length_append,List.length_append,List.length_take,List.length_drop,hcs,hx];omega
  ·simp only[List.size_toArray,List.length_append,List.length_take,List.length_drop,hcl,hcs];omega
  ·have e1:cur.toList.take (o*4)=xs.take (o*4):=by rw[←ht,List.take_take,Nat.min_eq_left (by omega)]
   have e2:(cur.toList.drop (o*4+cs.length)).take (m*4-(o+k)*4)=xs.drop ((o+k)*4):=by
    rw[←ht,List.drop_take,hcs]
    congr 2
    omega
   have l1:(xs.take (o*4)++cs).length=(o+k)*4:=by rw[List.length_append,List.length_take,hcs,hx];omega
   show(cur.toList.take (o*4)++cs++cur.toList.drop (o*4+cs.length)).take (m*4)=_;rw[e1,List.take_append,l1,e2,List.take_of_length_le (by rw[l1];omega)]
theorem own_moreT {w:World}{base g n cap:Nat}{xs:List Value}(h:w.ownsRow base 181 4 (.slice (some ⟨g,0,none⟩) n cap) n xs)(hr:n+1≤cap): ∃ys,ys.length=4∧w.ownsRow base 181 4 (.slice (some ⟨g,0,none⟩) (n+1) cap) (n+1) (xs++ys):=by
 have hx:=h.1;rcases h.2 with⟨h',-⟩|⟨g',cap',cur,h',hb,hg,hn,hc,hsz,ht⟩
 ·cases h'
 ·injection h' with e1 e2 e3
  injection e1 with e1;injection e1 with e1;subst e1 e3;have hcl:(cur.toList).length=cap*4:=by rw[Array.length_toList,hsz]
  refine⟨(cur.toList.drop (n*4)).take 4,by rw[List.length_take,List.length_drop,hcl];omega,⟨by rw[List.length_append,List.length_take,List.length_drop,hcl,hx];omega,.inr ⟨g,cap,cur,rfl,hb,hg,hr,hc,hsz,?_⟩⟩⟩;rw[show(n+1)*4=n*4+4 by omega,List.take_add,ht]
theorem own_cellsT {w:World}{base g n cap i:Nat}{l:List Tl}(h:w.ownsRow base 181 4 (.slice (some ⟨g,0,none⟩) n cap) n (tlCells l)): ∀j v,(tlCells (l.drop i))[j]?=some v→w.cell? ((⟨g,i*4,none⟩:Addr).add j)=some v:=by
 intro j v hj;rw[←tl_drop,List.getElem?_drop]at hj;have:=h.cellAt (i*4+j) (by have:=(List.getElem?_eq_some_iff.1 hj).1;have h2:=h.1;omega);rw[hj]at this;unfold Addr.add;split
 ·rename_i h0;subst h0;simpa using this
 ·exact this
theorem grow_zerosT {w:World}{base g cap n i:Nat}{l:List Tl}(h:w.ownsRow base 181 4 (.slice (some ⟨g,0,none⟩) n cap) n (tlCells l))(hn:n=l.length)(hi:i<n)(hroom:cap<n+1)(hl:n≤1099511627776)(hbase:base≤w.heap.size):
 ∃G ys W',(∀ty,(Builtin.append_ #[155,3] ty #[.slice (some ⟨g,0,none⟩) i cap,.int .i64 ((n:Int)+1-(i:Int))]).run Tryz.prog w= .ok (.slice (some ⟨w.heap.size,0,none⟩) (n+1) G) W')∧ys.length=(n+1-i)*4∧
  W'.ownsRow base 181 4 (.slice (some ⟨w.heap.size,0,none⟩) (n+1) G) (n+1) (tlCells (l.take i)++ys)∧w.grownBy W' none∧n+1≤G∧G≤maxLen:=by
 obtain⟨i0,z0,hi0,hz0,hzs,hzb,hz5,-⟩:=tlI
 have hold:(Builtin.firstCells i0.size i (.slice (some ⟨g,0,none⟩) i cap)).run Tryz.prog w.drew= .ok (tlCells (l.take i)).toArray w.drew:=by
  rw[hzs];refine run_firstCells_some w.drew 4 i ⟨g,0,none⟩ i cap (tlCells (l.take i)) (by rw[tlCells_len,List.length_take];omega) fun j v hj=> ?_;rw[←tl_take,List.getElem?_take]at hj;split at hj
  ·have:=h.cellAt j (by have:=(List.getElem?_eq_some_iff.1 hj).1;rw[tlCells_len]at this;omega)
   rw[hj]at this;unfold Addr.add;split
   ·rename_i h0;subst h0;simpa using this
   ·simpa using this
  ·cases hj
 have hik:i+(n+1-i)=n+1:=by omega
 have hkk:(n:Int)+1-(i:Int)=((n+1-i:Nat):Int):=by omega
 have hrun:=fun ty=>Go.Lib.run_append_grow_zeros (P:=Tryz.prog) w 155 3 ty 181 i0 z0 .i64 .i64 Tryz.underlying155 Tryz.underlying3 hi0 hz0 (some ⟨g,0,none⟩) i cap (tlCells (l.take i)) hold (n+1-i) (by omega) (by omega) (by omega) (by omega) (by rw[hzb];omega) (by
  rw[hzb,hik];have:=nextslicecap_le hroom;have h2:Builtin.nextslicecap (n+1) cap*40≤(2*(n+1))*40:=Nat.mul_le_mul_right _ this;omega)
 rw[hik]at hrun;have hG1:=grownCap_ge w (n+1) cap 181;have hG2:=grownCap_le_maxLen w (n+1) cap 181 (by unfold maxLen;omega);generalize grownCap w (n+1) cap 181=G at hrun hG1 hG2;have hzl: ∀k,(Builtin.zeroCells z0.cells k).size=k*4:=fun k=>by simp[Builtin.zeroCells,hz5]
 have hl1:(tlCells (l.take i)).length=i*4:=by rw[tlCells_len,List.length_take];omega
 refine⟨G,(Builtin.zeroCells z0.cells (n+1-i)).toList,_,fun ty=>by rw[hkk];exact hrun ty,by rw[Array.length_toList,hzl],⟨by rw[List.length_append,hl1,Array.length_toList,hzl];omega,.inr ⟨w.heap.size,G,_,rfl,hbase,heap_alloc_new w.drew _,hG1,hG2,?_,?_⟩⟩,?_,hG1,hG2⟩
 ·simp only[Array.size_append,List.size_toArray,hl1,hzl];omega
 ·have hl2:(tlCells (l.take i)++(Builtin.zeroCells z0.cells (n+1-i)).toList).length=(n+1)*4:=by rw[List.length_append,hl1,Array.length_toList,hzl];omega
  rw[Array.toList_append,Array.toList_append];exact List.take_left' hl2
 ·exact drew_grown (World.grownBy_alloc w.drew _ none)
set_option maxHeartbeats 8000000 in
set_option maxRecDepth 100000 in
theorem insertT_any (v:Value)(l:List Tl)(c:Tl)(base gs i:Nat)(w:World)(h:OwnT w base v l)(hbase:base≤w.heap.size)(hl:l.length≤1099511627776)(hi:i≤l.length)
 (hgb:Blk w gs 181 c.cells.toArray) (hgs:v.ownBlock≠some gs) (hc:True) (hf:True):
 Calls Tryz.prog 143 #[v,.int .i64 i,.slice (some ⟨gs,0,none⟩) 1 1] w fun e w'=> ∃v',e= .returned v'∧OwnT w' base v' (l.take i++c::l.drop i)∧w.grownBy w' v.ownBlock∧(v'.ownBlock=v.ownBlock∨ ∀k,v'.ownBlock=some k→w.heap.size≤k):=by
 have HO:=Lib.hid h;have HGB:=Lib.hid hgb;have HS:=Lib.hid (Sl.block hgb 1 1 (Nat.le_refl _) (by decide));rw[show c.cells.toArray.toList=c.cells from rfl]at HS;have HC:=Lib.hid hc;have HF:=Lib.hid hf;have HONE:=Lib.hid (tl_one c);obtain⟨A0,c0,rfl,hc1,hc2,-⟩:=Sl.of_own h.own;unfold maxLen at hc2;have i0:(0:Int)≤(i:Int):=by omega
 have i1:(i:Int)≤(l.length:Int):=by omega
 clear h hgb hc hf;by_cases hin:i=l.length
 ·subst hin
  have hz:((l.length:Int)==(l.length:Int))=true:=beq_self_eq_true _;have hcc:c0=l.length∨ ¬c0=l.length:=Decidable.em _;rcases hcc with hcc|hcc
  ·subst hcc
   go_enter Tryz.func143,Tryz.ntmps143
   go_wp2_with (at_builtin;refine wpList_app rfl (.tmp 23) (.tmp 24) 155 rfl base 181 4 40 Tryz.underlying155 tlI _ l.length _ rfl HO.out.own _ 1 c.cells rfl HS.out rfl HONE.out ?_ ?_ hbase ?_)
   ·unfold maxLen;omega
   ·omega
   ·intro v7 w7 hown7 hg7 hat7
    have H7:=Lib.hid (HO.out.snoc hown7 hg7 hat7 HC.out HF.out);have HG7:=Lib.hid hg7;have HT7:=Lib.hid hat7;clear hown7 hg7 hat7;go_wp2;go_ret;refine⟨v7,rfl,?_,HG7.out,?_⟩
    ·rw[List.take_length,List.drop_length];exact H7.out
    ·rcases HT7.out with e|e
     ·exact .inl e
     ·exact .inr fun k hk=>by rw[e]at hk;injection hk with hk;omega
  ·skip
   go_enter Tryz.func143,Tryz.ntmps143
   go_wp2_with (at_builtin;refine wpList_app rfl (.tmp 23) (.tmp 24) 155 rfl base 181 4 40 Tryz.underlying155 tlI _ l.length _ rfl HO.out.own _ 1 c.cells rfl HS.out rfl HONE.out ?_ ?_ hbase ?_)
   ·unfold maxLen;omega
   ·omega
   ·intro v7 w7 hown7 hg7 hat7
    have H7:=Lib.hid (HO.out.snoc hown7 hg7 hat7 HC.out HF.out);have HG7:=Lib.hid hg7;have HT7:=Lib.hid hat7;clear hown7 hg7 hat7;go_wp2;go_ret;refine⟨v7,rfl,?_,HG7.out,?_⟩
    ·rw[List.take_length,List.drop_length];exact H7.out
    ·rcases HT7.out with e|e
     ·exact .inl e
     ·exact .inr fun k hk=>by rw[e]at hk;injection hk with hk;omega
 ·have hz:((i:Int)==(l.length:Int))=false:=beqF (by omega)
  obtain⟨g,cap,hform,hg3b,hg3l⟩:=HO.out.own.form (by omega);injection hform with e1 e2 e3;subst e1 e3;have HI:Hid (i<l.length):=Lib.hid (by omega);have hci: ¬c0=i:=by omega
  have hw1:IntKind.i64.wrap ((i:Int)+1)=(i:Int)+1:=by rw[IntKind.wrap_i64];omega
  have hw2:IntKind.i64.wrap ((l.length:Int)+1)=(l.length:Int)+1:=by rw[IntKind.wrap_i64];omega
  have hw3:IntKind.i64.wrap ((l.length:Int)+1-(i:Int))=(l.length:Int)+1-(i:Int):=by rw[IntKind.wrap_i64];omega
  have hb1:(0:Int)≤(i:Int)+1:=by omega
  have hb3:(i:Int)≤(l.length:Int)+1:=by omega
  have htn:((i:Int)+1).toNat=i+1:=by omega
  have htm:((l.length:Int)+1).toNat=l.length+1:=by omega
  by_cases hroom:c0<l.length+1
  ·have hz3:(c0:Int)<(l.length:Int)+1:=by omega
   obtain⟨G,ys,W1,hrun1,hys,hown1,hg1,hG1,hG2⟩:=grow_zerosT HO.out.own rfl HI.out hroom hl hbase;have HR1:=Lib.hid hrun1;have hGi: ¬G=i:=by have:=HI.out;omega
   have hGj: ¬G=i+1:=by have:=HI.out;omega
   have hG9:G≤9223372036854775807:=by unfold maxLen at hG2;exact hG2
   have S1:=HS.out.grown_ hg1 (fun _ _=>by simp);obtain⟨W2,hrun2,hown2,hg2⟩:=own_copyT (o:=i) (k:=1) (dl:=l.length+1-i) (sl:=1) (c1:=G-i) (c2:=1) (a:=⟨gs,0,none⟩) (cs:=c.cells) hown1 (by have:=HI.out;omega) (by show min _ _=_;have:=HI.out;omega) rfl (sl_cells S1) HONE.out;have hg12:w.grownBy W2 none:=grown_new hg1 hg2 (fun j hj=> .inr (by injection hj with hj;omega));have S2:=own_drew (HO.out.own.kept hg12 (.inr (by simp[Value.ownBlock])))
   obtain⟨W3,hrun3,hown3,hg3⟩:=own_copyT (w:=W2.drew) (o:=i+1) (k:=l.length-i) (dl:=l.length-i) (sl:=l.length-i) (c1:=G-(i+1)) (c2:=c0-i) (a:=⟨g,i*4,none⟩) (cs:=tlCells (l.drop i)) hown2 (by have:=HI.out;omega) (by show min _ _=_;have:=HI.out;omega) (by rw[tlCells_len,List.length_drop]) (own_cellsT S2) (fun u hu=>by
    obtain⟨d,hd,hu⟩:=List.mem_flatMap.1 hu;exact tl_one d u hu)
   have hg13:w.grownBy W3 none:=grown_new (grown_drew hg12) hg3 (fun j hj=> .inr (by injection hj with hj;omega));have HL1:(tlCells (l.take i)).length=i*4:=by rw[tlCells_len,List.length_take];have:=HI.out;omega
   have HX:Hid (OwnT W3 base (.slice (some ⟨w.heap.size,0,none⟩) (l.length+1) G) (l.take i++c::l.drop i)):=Lib.hid (by
    refine HO.out.laid (i:=i) (by have:=HI.out;omega) ?_ (grown_none hg13 _) (.inr (fun k hk=>by simp[Value.ownBlock]at hk;omega)) HC.out HF.out;have e1:(tlCells (l.take i)++ys).take (i*4)=tlCells (l.take i):=by rw[List.take_append_of_le_length (by omega),List.take_of_length_le (by omega)]
    rw[e1]at hown3;have e2:(tlCells (l.take i)++c.cells).length=(i+1)*4:=by rw[List.length_append,HL1,Tl.cells_len];omega
    have e3:(tlCells (l.take i)++c.cells++(tlCells (l.take i)++ys).drop ((i+1)*4)).drop ((i+1+(l.length-i))*4)=[]:=List.drop_eq_nil_of_le (by rw[List.length_append,List.length_append,List.length_drop,List.length_append,HL1,hys,Tl.cells_len];have:=HI.out;omega);rw[e3,List.take_append_of_le_length (by rw[e2];exact Nat.le_refl _),List.take_of_length_le (by rw[e2];exact Nat.le_refl _),List.append_nil,List.append_assoc]at hown3;exact hown3)
   have HG:=Lib.hid (grown_none hg13 (Value.slice (some ⟨g,0,none⟩) l.length c0).ownBlock);have HR2:=Lib.hid hrun2;have HR3:=Lib.hid hrun3;clear hrun1 hrun2 hrun3 hown1 hown2 hown3 hg1 hg2 hg3 hg12 hg13 S1 S2 HL1 hG2;go_enter Tryz.func143,Tryz.ntmps143
   have hr2:=HR2.out
   go_wp2_with (at_builtin;refine wpList_append_run rfl (.tmp 34) (.tmp 39) 155 3 rfl _ _ rfl rfl (HR1.out _) ?_)
   refine wp_region_held_drew (S:=(fun _=>True)) (by kernel_rfl) trivial (fun hHeld=> ?_);refine tk 0 ?_;refine tk 1 ?_;refine tk 2 ?_;refine tk 3 ?_;refine tk 4 ?_;refine tk 5 ?_;refine tk 6 ?_;refine tk 7 ?_;refine tc 8 ?_;intro K hK;refine step_copy_run (by rfl) (.tmp 50) (.tmp 53) 155 155 (by rfl) _ _ (by rfl) (by rfl) (HR3.out _) ?_;refine hK.out _ _ trivial (fun hHeld8=> ?_);clear hK K;refine td ?_;go_wp2;go_ret;exact⟨_,rfl,HX.out,HG.out,.inr (fun k hk=>by simp[Value.ownBlock]at hk;omega)⟩
  ·have hz3: ¬(c0:Int)<(l.length:Int)+1:=by omega
   have hci2: ¬c0=i+1:=by have:=HI.out;omega
   obtain⟨ys,hys,hown1⟩:=own_moreT HO.out.own (by omega);have hgw:g<w.heap.size:=(HO.out.own.lt g rfl).2
   have hov: ∀lb cb,(callFunc 168 #[.slice (some ⟨gs,0,none⟩) 1 1,.slice (some ⟨g,(i+1)*4,none⟩) lb cb]).run Tryz.prog w= .ok (.value (.bool false)) w:=fun lb cb=>by
    have hgs':gs≠g:=fun e=>hgs (by rw[e];rfl);obtain⟨cur,hcur,hcs⟩:=own_block HO.out.own
    rw[run_callFunc_extern Tryz.func168 (by kernel_rfl) (by kernel_rfl) (by kernel_rfl) (e:=Extern.SlicesOverlaps.overlaps #[155,155] #[4]) (by kernel_rfl),
     Go.Lib.run_overlaps_apart w 155 4 181 Tryz.underlying155 4 (fun _=>by kernel_rfl) ⟨gs,0,none⟩ ⟨g,(i+1)*4,none⟩ 1 1 lb cb hgs' _ _ _ _ (shape_blk HGB.out) (shape_blk' hcur) (by rw[hcs];have:=HI.out;omega) (HGB.out.free 0) (HGB.out.free _)]
    rfl
   obtain⟨W2,hrun2,hown2,hg2⟩:=own_copyT (w:=w.drew) (o:=i+1) (k:=l.length-i) (dl:=l.length-i) (sl:=l.length+1-i) (c1:=c0-(i+1)) (c2:=c0-i) (a:=⟨g,i*4,none⟩) (cs:=tlCells (l.drop i)) (own_drew hown1) (by have:=HI.out;omega) (by show min _ _=_;have:=HI.out;omega) (by rw[tlCells_len,List.length_drop]) (own_cellsT (own_drew HO.out.own)) (fun u hu=>by
    obtain⟨d,hd,hu⟩:=List.mem_flatMap.1 hu;exact tl_one d u hu)
   have S2:=sl_grown (HS.out.drew_) hg2 (fun k hk e=>hgs (by
    have h1:gs=k:=by simpa[Value.ownBlock]using hk
    have h2:g=k:=by simpa using e
    rw[h1,←h2];rfl))
   obtain⟨W3,hrun3,hown3,hg3⟩:=own_copyT (o:=i) (k:=1) (dl:=l.length+1-i) (sl:=1) (c1:=c0-i) (c2:=1) (a:=⟨gs,0,none⟩) (cs:=c.cells) hown2 (by have:=HI.out;omega) (by show min _ _=_;have:=HI.out;omega) rfl (sl_cells S2) HONE.out;have hg13:w.grownBy W3 (some g):=grown_trans (drew_grown hg2) hg3;have HL1:(tlCells (l.take i)).length=i*4:=by rw[tlCells_len,List.length_take];have:=HI.out;omega
   have HX:Hid (OwnT W3 base (.slice (some ⟨g,0,none⟩) (l.length+1) c0) (l.take i++c::l.drop i)):=Lib.hid (by
    refine HO.out.laid (i:=i) (by have:=HI.out;omega) ?_ hg13 (.inl rfl) HC.out HF.out;have e0:(tlCells l).length=l.length*4:=tlCells_len l
    have e1:(tlCells l++ys).take ((i+1)*4)=(tlCells (l.take i))++((tlCells l).drop (i*4)).take 4:=by
     rw[List.take_append_of_le_length (by rw[e0];have:=HI.out;omega),show(i+1)*4=i*4+4 by omega,List.take_add,tl_take]
    have e2:(tlCells l++ys).drop ((i+1+(l.length-i))*4)=[]:=List.drop_eq_nil_of_le (by rw[List.length_append,e0,hys];have:=HI.out;omega);have e3:(((tlCells l).drop (i*4)).take 4).length=4:=by rw[List.length_take,List.length_drop,e0];have:=HI.out;omega
    have e6:(tlCells l++ys).take ((i+1)*4)++tlCells (l.drop i)++(tlCells l++ys).drop ((i+1+(l.length-i))*4)=tlCells (l.take i)++(((tlCells l).drop (i*4)).take 4++tlCells (l.drop i)):=by rw[e1,e2,List.append_nil,List.append_assoc]
    rw[e6]at hown3;have e4:(tlCells (l.take i)++(((tlCells l).drop (i*4)).take 4++tlCells (l.drop i))).take (i*4)=tlCells (l.take i):=by rw[List.take_append_of_le_length (by omega),List.take_of_length_le (by omega)]
    have e5:(tlCells (l.take i)++(((tlCells l).drop (i*4)).take 4++tlCells (l.drop i))).drop ((i+1)*4)=tlCells (l.drop i):=by
     rw[←List.append_assoc];exact List.drop_left' (by rw[List.length_append,HL1,e3];omega)
    rw[e4,e5,List.append_assoc]at hown3;exact hown3)
   have HG:=Lib.hid hg13;have HR2:=Lib.hid hrun2;have HR3:=Lib.hid hrun3;clear hrun2 hrun3 hown1 hown2 hown3 hg2 hg3 hg13 S2 HL1;go_enter Tryz.func143,Tryz.ntmps143
   go_wp2_with (simp only[hov])
   refine wp_region_held_drew (S:=(fun _=>True)) (by kernel_rfl) trivial (fun hHeld=> ?_);refine tk 0 ?_;refine tk 1 ?_;refine tk 2 ?_;refine tk 3 ?_;refine tk 4 ?_;refine tk 5 ?_;refine tk 6 ?_;refine tk 7 ?_;refine tc 8 ?_;intro K hK;refine step_copy_run (by rfl) (.tmp 73) (.tmp 76) 155 155 (by rfl) _ _ (by rfl) (by rfl) (HR2.out _) ?_;refine hK.out _ _ trivial (fun hHeld8=> ?_);clear hK K;refine td ?_;have hr3:=HR3.out;go_wp2;go_ret;exact⟨_,rfl,HX.out,HG.out,.inl rfl⟩
end Go.Proofs.YtjhbeecmdgglgaaGreatDoor
namespace Go.Proofs.YtjhbeecmdgglgaaGreatDoor
open Go.RowKit
def setsL:List Value→Nat→List Value→List Value
 |xs,_,[]=>xs
 |xs,o,v::r=>setsL (xs.set o v) (o+1) r
theorem setsL_out: ∀ {vs xs:List Value} {o:Nat},xs.length≤o→setsL xs o vs=xs
 |[],_,_,_=>rfl
 |v::r,xs,o,h=>by
  unfold setsL;rw[List.set_eq_of_length_le h];exact setsL_out (by omega)
theorem setsL_in: ∀ {vs xs:List Value} {o:Nat},o+vs.length≤xs.length→setsL xs o vs=xs.take o++vs++xs.drop (o+vs.length)
 |[],xs,o,h=>by simp[setsL]
 |v::r,xs,o,h=>by
  simp only[List.length_cons]at h;unfold setsL;rw[setsL_in (by rw[List.length_set];omega),List.take_add_one,List.take_set_of_le (Nat.le_refl _),List.getElem?_set_self (by omega),List.drop_set_of_lt (by omega),List.length_cons,show o+1+r.length=o+(r.length+1) by omega];simp
theorem own_setCells {base:Nat}{e:TypeId}{size g n cap:Nat}: ∀ {vs:List Value} {w:World} {xs:List Value} {o:Nat},w.ownsRow base e size (.slice (some ⟨g,0,none⟩) n cap) n xs→
 (w.setCells g o vs).ownsRow base e size (.slice (some ⟨g,0,none⟩) n cap) n (setsL xs o vs)∧w.grownBy (w.setCells g o vs) (some g)
 |[],w,xs,o,h=>⟨h,World.grownBy.refl w _⟩
 |v::r,w,xs,o,h=>by
  obtain⟨h1,h2⟩:=h.stored o v;obtain⟨h3,h4⟩:=own_setCells (vs:=r) (o:=o+1) h1;exact⟨h3,grown_trans h2 h4⟩
theorem run_clear_wide {P:Program}(w:World)(t e ty:TypeId)(z:Value)(zs:List Value)(ht:P.underlying t=some (.slice e))(hv: ∀w,(zeroValue e).run P w= .ok z w)(b o n c:Nat)(hn:0<n)(hz:(Builtin.zeroCells z.cells n).toList=zs)(h1: ∀v∈zs,v.oneCell'=true)
 (hc: ∀j,j<zs.length→(w.cell? ⟨b,o+j,none⟩).isSome=true) (hf: ∀j,j<zs.length→w.frozen? ⟨b,o+j,none⟩=false):
 (Builtin.clear_ #[t] ty #[.slice (some ⟨b,o,none⟩) n c]).run P w= .ok (.tuple #[]) (w.setCells b o zs):=by
 have hst:=run_storeCells_cells (P:=P) b o zs 0 w (by simpa using hc) (by simpa using hf) h1;simp only[Nat.add_zero]at hst;obtain⟨m,rfl⟩: ∃m,n=m+1:=⟨n-1,by omega⟩;simp[Builtin.clear_,run_underlying ht,hv,hz,hst]
def zT:List Value:=[.int .i64 0,.int .i64 0,.string ⟨#[]⟩,.int .i64 0]
set_option maxHeartbeats 8000000 in
set_option maxRecDepth 100000 in
theorem deleteT_any (v:Value)(l:List Tl)(base i:Nat)(w:World)(h:OwnT w base v l)(hi:i<l.length):
 Calls Tryz.prog 144 #[v,.int .i64 i,.int .i64 ((i:Int)+1)] w fun e w'=> ∃v',e= .returned v'∧OwnT w' base v' (l.take i++l.drop (i+1))∧w.grownBy w' v.ownBlock∧v'.ownBlock=v.ownBlock:=by
 obtain⟨g,c0,rfl,hgb,hgl⟩:=h.own.form (by omega);have HO:=Lib.hid h.own;have HB:=h.own;obtain⟨A,c,ev,hc1,hc2,-⟩:=Sl.of_own h.own;injection ev with e1 e2 e3;subst e1 e3;unfold maxLen at hc2;obtain⟨M,hM⟩: ∃M,l.length=M+1:=⟨l.length-1,by omega⟩;have HM:=Lib.hid hM;have hiM:i≤M:=by omega
 obtain⟨i0,z0,hi0,hz0,hz1,hz2,hz3,hz4⟩:=tlI;have hnews:Hid ((tlCells (l.drop (i+1))).length=(M-i)*4):=Lib.hid (by rw[tlCells_len,List.length_drop];omega);have hone:Hid (∀u∈tlCells (l.drop (i+1)),u.oneCell'=true):=Lib.hid (tlCells_one _)
 obtain⟨A,hA,hsrc⟩: ∃A:Addr,(if c0=i+1 then some (⟨g,0,none⟩:Addr)else some ⟨g,(i+1)*4,none⟩)=some A∧Hid (∀t u,(tlCells (l.drop (i+1)))[t]?=some u→w.drew.cell? (A.add t)=some u):=by
  by_cases hcc:c0=i+1
  ·refine⟨⟨g,0,none⟩,by simp[hcc],fun t u hu=> ?_⟩
   have h0:(tlCells (l.drop (i+1))).length=0:=by rw[hnews.out];omega
   rw[List.length_eq_zero_iff.1 h0]at hu;simp at hu
  ·refine⟨⟨g,(i+1)*4,none⟩,by simp[hcc],fun t u hu=> ?_⟩
   rw[←tl_drop,List.getElem?_drop]at hu;have hlt:(i+1)*4+t<l.length*4:=by have:=(List.getElem?_eq_some_iff.1 hu).1;rw[tlCells_len]at this;exact this
   have h1:=h.own.cellAt ((i+1)*4+t) hlt;rw[hu]at h1;rw[Addr.add_lit];exact h1
 have hspare:Hid (∀t,t<(tlCells (l.drop (i+1))).length→(w.drew.cell? ⟨g,0+i*4+t,none⟩).isSome=true∧w.drew.frozen? ⟨g,0+i*4+t,none⟩=false):=Lib.hid (fun t ht=>by
  rw[hnews.out]at ht;refine⟨?_,h.own.frozenAt _⟩;show(w.cell? _).isSome=true;rw[h.own.cellAt (0+i*4+t) (by omega),List.getElem?_eq_getElem (by rw[tlCells_len];omega)];rfl)
 obtain⟨W1,hW1⟩: ∃W1,W1=w.drew.setCells g (0+i*4) (tlCells (l.drop (i+1))):=⟨_,rfl⟩;obtain⟨o1,g1⟩:=own_setCells (vs:=tlCells (l.drop (i+1))) (o:=0+i*4) (show w.drew.ownsRow base 181 4 (.slice (some ⟨g,0,none⟩) l.length c0) l.length (tlCells l)from h.own);rw[←hW1]at o1 g1;rw[setsL_in (by rw[hnews.out,tlCells_len];omega),Nat.zero_add,tl_take,←tlCells_app,hM]at o1;have hl2:(l.take i++l.drop (i+1)).length=M:=by rw[List.length_append,List.length_take,List.length_drop];omega
 have o2:=ownsRow_pop (by rw[tlCells_len,hl2]) o1
 have hcl: ∀ty,(Builtin.clear_ #[155] ty #[.slice (some ⟨g,M*4,none⟩) 1 (c0-M)]).run Tryz.prog W1= .ok (.tuple #[]) (W1.setCells g (M*4) zT):=fun ty=>by
  refine run_clear_wide W1 155 181 ty (.agg #[.int .i64 0,.int .i64 0,.string ⟨#[]⟩,.int .i64 0]) zT Tryz.underlying155 (fun w=>by kernel_rfl) g (M*4) 1 (c0-M) (by omega) (by kernel_rfl) (by intro u hu;simp[zT]at hu;rcases hu with rfl|rfl|rfl<;>rfl) (fun j hj=> ?_) (fun j hj=>o1.frozenAt _);have hj:j<4:=hj;rw[o1.cellAt (M*4+j) (by omega),List.getElem?_eq_getElem (by rw[o1.1];omega)];rfl
 obtain⟨o3,g3⟩:=own_setCells (vs:=zT) (o:=M*4) o2;rw[setsL_out (by rw[tlCells_len,hl2];exact Nat.le_refl _)]at o3;have HW:=Lib.hid hW1;have HO3:Hid (OwnT (W1.setCells g (M*4) zT) base (.slice (some ⟨g,0,none⟩) M c0) (l.take i++l.drop (i+1))):=Lib.hid ⟨by rw[hl2];exact o3⟩;have HG3:=Lib.hid (grown_trans (drew_grown g1) g3);clear o1 o2 o3 g1 g3 hW1 hl2 HB hM h HO;have hq1:((i:Int)==(i:Int)+1)=false:=beqF (by omega);have hiL:i<l.length:=by have:=HM.out;omega
 have hiM2:i+(M-i)=M:=by omega
 have hL1:l.length-(i+1)=M-i:=by have:=HM.out;omega
 have hL2:l.length-M=1:=by have:=HM.out;omega
 have hcM: ¬c0=M:=by have:=HM.out;omega
 have hMl:M≤l.length:=by have:=HM.out;omega
 have hMc:M≤c0:=by have:=HM.out;omega
 have hlc:l.length≤c0:=by omega
 have hic:i≤c0:=by omega
 have hjc:i+1≤c0:=by omega
 have hj0:(0:Int)≤(i:Int)+1:=by omega
 have hj1:(i:Int)+1≤(c0:Int):=by omega
 have hj2:((i:Int)+1).toNat=i+1:=by omega
 have hj3:(i:Int)+1≤(l.length:Int):=by omega
 clear hi hgl hgb;go_enter Tryz.func144,Tryz.ntmps144
 go_wp2_with fail
 refine tr (S:=(fun _=>True)) trivial (fun hHeld=> ?_);refine tk 0 ?_;refine tk 1 ?_;refine tk 2 ?_;refine tk 3 ?_;refine tk 4 ?_;refine tk 5 ?_;refine tc 6 ?_;intro K hK;refine step_append_room rfl (.tmp 22) (.tmp 25) 155 rfl 181 i0 4 Tryz.underlying155 hi0 hz1 g 0 i c0 (by rfl) A (M-i) (c0-(i+1)) (tlCells (l.drop (i+1))) (by rfl) hnews.out hsrc.out hone.out (by omega) hspare.out ?_;rw[←HW.out];refine hK.out _ _ trivial (fun hHeld6=> ?_);clear hK K;refine tk 7 ?_;refine td ?_;go_wp2;go_ret;exact⟨_,rfl,HO3.out,HG3.out,rfl⟩
end Go.Proofs.YtjhbeecmdgglgaaGreatDoor
namespace Go.Proofs.YtjhbeecmdgglgaaGreatDoor
open Go.RowKit
structure PosT (l:List Tl) (v:Val) (i:Nat):Prop where
 le:i≤l.length
 low: ∀j y,j<i→l[j]?=some y→cmpV y.v v<0
 high: ∀j y,i≤j→l[j]?=some y→0≤cmpV y.v v
def isT (l:List Tl) (v:Val) (i:Nat):Bool:=match l[i]? with
 |some y=>cmpV y.v v==0
 |none=>false
structure UpT (l:List Tl):Prop where
 good: ∀x∈l,GoodR [x.v]
 rise:l.Pairwise fun a b=>cmpV a.v b.v<0
theorem GoodT.up {t:Int}{l:List Tl}(h:GoodT t l):UpT l:=⟨fun x hx=>(h.vals x hx).1,h.rise⟩
theorem up_lessT {l:List Tl}{v:Val}(h:UpT l)(hv:GoodR [v]){i j:Nat}{x y:Tl}(hi:l[i]?=some x)(hj:l[j]?=some y)(hle:i≤j)(hy:cmpV y.v v<0):cmpV x.v v<0:=by
 by_cases he:i=j
 ·subst he
  rw[hi]at hj;injection hj with hj;rw[hj];exact hy
 ·obtain⟨h1,e1⟩:=List.getElem?_eq_some_iff.1 hi
  obtain⟨h2,e2⟩:=List.getElem?_eq_some_iff.1 hj;have h3:=List.pairwise_iff_getElem.1 h.rise i j h1 h2 (by omega);rw[e1,e2]at h3;exact cmpV_trans (h.good x (List.mem_of_getElem? hi)) (h.good y (List.mem_of_getElem? hj)) hv h3 hy
theorem tally_pos {l:List Tl}{v:Val}{n:Int}: ∀ {i:Nat},PosT l v i→tallyG l v n=if isT l v i=true then(l.take i++((if(l.getD i ⟨v,0⟩).n+n=0 then[]else[⟨(l.getD i ⟨v,0⟩).v,(l.getD i ⟨v,0⟩).n+n⟩])++l.drop (i+1)),true)else(l.take i++⟨v,n⟩::l.drop i,decide (0<n)):=by
 induction l with
 |nil=>
  intro i h;have:i=0:=by have:=h.le;simp at this;exact this
  subst this;rfl
 |cons x l ih=>
  intro i h;unfold tallyG;cases i with
  |zero=>
   have h1:=h.high 0 x (Nat.le_refl _) rfl;rw[if_neg (by omega)];by_cases h2:cmpV x.v v=0
   ·rw[if_pos h2,show isT (x::l) v 0=true from by show(cmpV x.v v==0)=true;simp[h2]]
    rw[if_pos (rfl:true=true)];show(if x.n+n=0 then l else⟨x.v,x.n+n⟩::l,true)=([]++((if x.n+n=0 then[]else[⟨x.v,x.n+n⟩])++l),true);by_cases h3:x.n+n=0
    ·rw[if_pos h3,if_pos h3];rfl
    ·rw[if_neg h3,if_neg h3];rfl
   ·rw[if_neg h2,show isT (x::l) v 0=false from by show(cmpV x.v v==0)=false;simp[h2]]
    rfl
  |succ i=>
   have h1:=h.low 0 x (by omega) rfl;rw[if_pos h1];have h2:PosT l v i:=⟨by have:=h.le;simp at this;omega,fun j y hj hy=>h.low (j+1) y (by omega) (by simpa using hy),fun j y hj hy=>h.high (j+1) y (by omega) (by simpa using hy)⟩;have h3:isT (x::l) v (i+1)=isT l v i:=by unfold isT;rw[List.getElem?_cons_succ]
   rw[ih h2,h3];have h4:(x::l).getD (i+1) ⟨v,0⟩=l.getD i ⟨v,0⟩:=by simp[List.getD]
   rw[h4];split<;>simp
set_option maxHeartbeats 2000000 in
set_option maxRecDepth 10000 in
theorem addOne_any (y:Tl)(v:Val)(w:World):Calls Tryz.prog 142 #[y.agg,.agg #[.int .i64 v.k,.int .i64 v.n,.string v.s]] w fun e w'=>e= .returned (.int .i64 (cmpV y.v v))∧Below w.heap.size w w':=by
 have HC:=Lib.hid (fun W=>compare_val y.v v W);unfold Tl.agg;have hB:=below_trans (below_alloc w (.cells #[.int .i64 y.v.k,.int .i64 y.v.n,.string y.v.s,.int .i64 y.n] 181)) (below_alloc _ (.cells #[.int .i64 v.k,.int .i64 v.n,.string v.s] 68));generalize cmpV y.v v=C at HC⊢;go_enter Tryz.func142,Tryz.ntmps142
 go_wp2_with fail
 refine Calls.mono (by with_reducible exact HC.out _) ?_;rintro e w2 ⟨rfl,hb2⟩;go_wp2;go_ret;exact⟨rfl,below_trans hB hb2⟩
set_option maxHeartbeats 4000000 in
set_option maxRecDepth 10000 in
theorem bsearchT_any (u:Value)(l:List Tl)(v:Val)(w:World)(h:Sl w u l.length (tlCells l))(hl:l.length≤1099511627776)(hU:UpT l)(hv:GoodR [v]):
 Calls Tryz.prog 141 #[u,.agg #[.int .i64 v.k,.int .i64 v.n,.string v.s],.func (.func 142) #[] #[]] w fun e w'=> ∃i:Nat,e= .returned (.tuple #[.int .i64 (i:Nat),.bool (isT l v i)])∧PosT l v i∧Below w.heap.size w w':=by
 have HV:=Lib.hid h;have HU:=Lib.hid hU;have HG:=Lib.hid hv;obtain⟨A,c,rfl,h1,h2,-⟩:=id h;unfold maxLen at h2;have HOR:=Lib.hid (fun(a:Tl) (w':World)=>addOne_any a v w');have HX:=Lib.hid (Blk.new w 68 #[.int .i64 v.k,.int .i64 v.n,.string v.s]);have hB:=below_alloc w (.cells #[.int .i64 v.k,.int .i64 v.n,.string v.s] 68);clear h hU hv;unfold Tl.agg at HOR;go_enter Tryz.func141,Tryz.ntmps141
 go_wp2_with fail
 go_loopw[9,10,11] (fun lo hi _ wr=> ∃a b:Nat,lo= .int .i64 a∧hi= .int .i64 b∧a≤b∧b≤l.length∧Hid (∀j y,j<a→l[j]?=some y→cmpV y.v v<0)∧Hid (∀j y,b≤j→l[j]?=some y→0≤cmpV y.v v)∧Blk wr w.heap.size 68 #[.int .i64 v.k,.int .i64 v.n,.string v.s]∧Below w.heap.size w wr)
  (fun lo hi _ _=>(intOf hi).toNat-(intOf lo).toNat)
 case atStart=>exact⟨0,l.length,rfl,rfl,by omega,by omega,Lib.hid (fun j y h=>absurd h (by omega)),Lib.hid (fun j y h hp=>by have:=(List.getElem?_eq_some_iff.1 hp).1;omega),HX.out,hB⟩
 case round=>
  obtain⟨a,b,rfl,rfl,hab,hbl,HL,HM,hK,hbw⟩:=hrel;by_cases hlt:a<b
  ·obtain⟨m,hm⟩: ∃m,(a+b)/ 2=m:=⟨_,rfl⟩
   have hma:a≤m:=by omega
   have hmb:m<b:=by omega
   have hml:m<l.length:=by omega
   have hx:=List.getElem?_eq_getElem (l:=l) hml;generalize l[m]=y at hx;obtain⟨g,off,rfl,-,hc⟩:=tl_at HV.out rfl hx;have HC:=Lib.hid hc;have HY:=Lib.hid hx;have HO:=Lib.hid (fun w'=>HOR.out y w');clear hc hx;have hq:((a:Int)+(b:Int))/ 2=(m:Int):=by omega
   have m0:(0:Int)≤(m:Int):=by omega
   have m1:(m:Int)<(l.length:Int):=by omega
   obtain⟨d0,d1,d2,d3⟩:=HC.out _ hbw;have x0:=hK.cell 0 _ rfl;have x1:=hK.cell 1 _ rfl;have x2:=hK.cell 2 _ rfl;have HK:=Lib.hid hK;clear hm hK
   go_wp2_with fail
   go_region_held3 (fun w'=>w'.cell? ⟨g,off+m*4,none⟩=some (.int .i64 y.v.k)∧w'.cell? ⟨g,off+m*4+1,none⟩=some (.int .i64 y.v.n)∧w'.cell? ⟨g,off+m*4+2,none⟩=some (.string y.v.s)∧w'.cell? ⟨g,off+m*4+3,none⟩=some (.int .i64 y.n)∧w'.cell? ⟨w.heap.size,0,none⟩=some (.int .i64 v.k)∧w'.cell? ⟨w.heap.size,1,none⟩=some (.int .i64 v.n)∧w'.cell? ⟨w.heap.size,2,none⟩=some (.string v.s))
    (first|go_keep|exact⟨d0,d1,d2,d3,x0,x1,x2⟩|exact z)
    ((go_at_call 142;refine Calls.mono (by with_reducible exact HO.out _) ?_;rintro e w2 ⟨rfl,hb2⟩;have hbw2:=below_trans hbw.drew hb2;have K2:=HK.out.drew.below hb2;obtain⟨e0,e1,e2,e3⟩:=HC.out _ hbw2;have z:=And.intro e0 (And.intro e1 (And.intro e2 (And.intro e3 (And.intro (K2.cell 0 _ rfl) (And.intro (K2.cell 1 _ rfl) (K2.cell 2 _ rfl))))))))
   all_goals
    clear z d0 d1 d2 d3 x0 x1 x2 e0 e1 e2 e3;by_cases hz:cmpV y.v v<0
    ·have HL2:Hid (∀j u,j<m+1→l[j]?=some u→cmpV u.v v<0):=Lib.hid fun j u hj hu=>up_lessT HU.out HG.out hu HY.out (by omega) hz
     go_wp2;go_roundw
     case rel=>exact⟨m+1,b,by go_num,rfl,by omega,hbl,HL2.out,HM.out,K2,hbw2⟩
     case measure=>simp[intOf];omega
    ·have HM2:Hid (∀j u,m≤j→l[j]?=some u→0≤cmpV u.v v):=Lib.hid fun j u hj hu=>Int.not_lt.1 fun h0=>hz (up_lessT HU.out HG.out HY.out hu hj h0)
     go_wp2;go_roundw
     case rel=>exact⟨a,m,rfl,rfl,hma,by omega,HL.out,HM2.out,K2,hbw2⟩
     case measure=>simp[intOf];omega
  ·obtain rfl:a=b:=by omega
   have HP:Hid (PosT l v a):=Lib.hid ⟨hbl,HL.out,HM.out⟩;clear HL HM;have x0:=hK.cell 0 _ rfl;have x1:=hK.cell 1 _ rfl;have x2:=hK.cell 2 _ rfl;have HK:=Lib.hid hK;clear hK;by_cases hal:a<l.length
   ·have hx:=List.getElem?_eq_getElem (l:=l) hal
    generalize l[a]=y at hx;obtain⟨g,off,rfl,-,hc⟩:=tl_at HV.out rfl hx;have HC:=Lib.hid hc;have HI:Hid (isT l v a=(cmpV y.v v==0)):=Lib.hid (by unfold isT;rw[hx]);have HO:=Lib.hid (fun w'=>HOR.out y w');clear hc hx;have m0:(0:Int)≤(a:Int):=by omega
    have m1:(a:Int)<(l.length:Int):=by omega
    have hd:decide ((a:Int)<(l.length:Int))=true:=decide_eq_true m1;obtain⟨d0,d1,d2,d3⟩:=HC.out _ hbw
    go_wp2_with fail
    go_region_held3 (fun w'=>w'.cell? ⟨g,off+a*4,none⟩=some (.int .i64 y.v.k)∧w'.cell? ⟨g,off+a*4+1,none⟩=some (.int .i64 y.v.n)∧w'.cell? ⟨g,off+a*4+2,none⟩=some (.string y.v.s)∧w'.cell? ⟨g,off+a*4+3,none⟩=some (.int .i64 y.n)∧w'.cell? ⟨w.heap.size,0,none⟩=some (.int .i64 v.k)∧w'.cell? ⟨w.heap.size,1,none⟩=some (.int .i64 v.n)∧w'.cell? ⟨w.heap.size,2,none⟩=some (.string v.s))
     (first|go_keep|exact⟨d0,d1,d2,d3,x0,x1,x2⟩|exact z)
     ((go_at_call 142;refine Calls.mono (by with_reducible exact HO.out _) ?_;rintro e w2 ⟨rfl,hb2⟩;have hbw2:=below_trans hbw.drew hb2;have K2:=HK.out.drew.below hb2;obtain⟨e0,e1,e2,e3⟩:=HC.out _ hbw2;have z:=And.intro e0 (And.intro e1 (And.intro e2 (And.intro e3 (And.intro (K2.cell 0 _ rfl) (And.intro (K2.cell 1 _ rfl) (K2.cell 2 _ rfl))))))))
    all_goals
     go_wp2
     go_ret2
     exact⟨a,by rw[HI.out];rfl,HP.out,hbw2⟩
   ·have HI:Hid (isT l v a=false):=Lib.hid (by unfold isT;rw[List.getElem?_eq_none (by omega)])
    have hd:decide ((a:Int)<(l.length:Int))=false:=decide_eq_false (by omega)
    go_wp2_with fail
    go_quiet (fail)
    go_wp2
    go_ret2
    exact⟨a,by rw[HI.out];rfl,HP.out,⟨hbw.os,hbw.tape,hbw.output,hbw.size,hbw.block⟩⟩
end Go.Proofs.YtjhbeecmdgglgaaGreatDoor
namespace Go.Proofs.YtjhbeecmdgglgaaGreatDoor
open Go.RowKit
theorem OwnT.below {w w':World}{base:Nat}{v:Value}{l:List Tl}(h:OwnT w base v l)(hb:Below w.heap.size w w'):OwnT w' base v l:=⟨own_below h.own hb⟩
theorem tl_set (l:List Tl)(i:Nat)(x:Tl)(n:Int)(hi:l[i]?=some x):(tlCells l).set (i*4+3) (.int .i64 n)=tlCells (l.take i++(⟨x.v,n⟩::l.drop (i+1))):=by
 obtain⟨hl,rfl⟩:=List.getElem?_eq_some_iff.1 hi;have e:l=l.take i++(l[i]::l.drop (i+1)):=by rw[←List.drop_eq_getElem_cons hl,List.take_append_drop]
 conv=>lhs;rw[e]
 have hll:(tlCells (l.take i)).length=i*4:=by rw[tlCells_len,List.length_take];omega
 rw[tlCells_app,tlCells_app,List.set_append_right _ _ (by omega),hll,show i*4+3-i*4=3 by omega];rfl
set_option maxHeartbeats 8000000 in
set_option maxRecDepth 10000 in
theorem gadd_any (u:Value)(l:List Tl)(v:Val)(n:Int)(base:Nat)(w:World)(h:OwnT w base u l)(hbase:base≤w.heap.size)(hl:l.length≤1073741824)(hU:UpT l)(hv:GoodR [v])(hN: ∀x∈l,-1099511627776≤x.n∧x.n≤1099511627776)(hn:n=1∨n= -1):
 Calls Tryz.prog 114 #[u,.agg #[.int .i64 v.k,.int .i64 v.n,.string v.s],.int .i64 n] w fun e w'=> ∃u',e= .returned (.tuple #[u',.bool (tallyG l v n).2])∧OwnT w' base u' (tallyG l v n).1∧w.grownBy w' u.ownBlock∧(∀k,u'.ownBlock=some k→u.ownBlock=some k∨w.heap.size≤k):=by
 have HO:=Lib.hid h;have HBS:=Lib.hid (fun W (hb:Below w.heap.size w W)=>bsearchT_any u l v W ((Sl.of_own h.own).below hb) (by omega) hU hv);have HINS:=Lib.hid (fun W (hb:Below w.heap.size w W) gs i (hi:i≤l.length) hgb hgs=>insertT_any u l ⟨v,n⟩ base gs i W (h.below hb) (Nat.le_trans hbase hb.size) (by omega) hi hgb hgs trivial trivial);have HNN:=Lib.hid hN;have HTP:=Lib.hid (fun i (hp:PosT l v i)=>tally_pos (n:=n) hp);generalize tallyG l v n=TG at HTP⊢;have hB:=below_alloc w (.cells #[.int .i64 v.k,.int .i64 v.n,.string v.s] 68);have K0:=Blk.new w 68 #[.int .i64 v.k,.int .i64 v.n,.string v.s];obtain⟨A,nl,c,rfl⟩:=own_slice h.own;clear h hU hv hN;go_enter Tryz.func114,Tryz.ntmps114
 go_wp2_with fail
 refine Calls.mono (by with_reducible exact HBS.out _ hB) ?_;rintro e w1 ⟨i,rfl,hp,hb1⟩;have hbw:=below_trans hB hb1;have K1:=K0.below hb1;have x0:=K1.cell 0 _ rfl;have x1:=K1.cell 1 _ rfl;have x2:=K1.cell 2 _ rfl;have HT:=Lib.hid (HTP.out i hp);have hil:=hp.le;cases hT:isT l v i with
 |false=>
  rw[hT]at HT;have ET:=Lib.hid (HT.out.trans (if_neg (by simp)));have HI1:=Lib.hid (HINS.out (w1.alloc (.cells #[.int .i64 v.k,.int .i64 v.n,.string v.s,.int .i64 n] 181)) (hbw.alloc hbw.size _) w1.heap.size i hil (Blk.new w1 181 #[.int .i64 v.k,.int .i64 v.n,.string v.s,.int .i64 n]) (fun e=>by have h1:=(HO.out.own.lt _ e).2;have h2:=hbw.size;omega));have HBA:=Lib.hid (hbw.alloc hbw.size (.cells #[.int .i64 v.k,.int .i64 v.n,.string v.s,.int .i64 n] 181));clear HT hp HTP HBS HINS K0 K1 hb1 hB
  go_wp2_with fail
  refine Calls.mono (by with_reducible exact HI1.out) ?_;rintro e w2 ⟨u2,rfl,ho2,hg2,hat2⟩;have HO2:=Lib.hid ho2;have HG2:=Lib.hid (grown_trans (grown_of_below HBA.out _) hg2);have HAT2:=Lib.hid hat2;have HSB:=Lib.hid HBA.out.size;clear ho2 hg2 hat2 x0 x1 x2;go_wp2
  go_ret2
  exact⟨u2,by rw[ET.out];rfl,by rw[ET.out];exact HO2.out,HG2.out,fun k hk=>by
   rcases HAT2.out with e|e
   ·exact .inl (e▸hk)
   ·exact .inr (Nat.le_trans HSB.out (e k hk))⟩
 |true=>
  rw[hT]at HT;have ET:=Lib.hid (HT.out.trans (if_pos rfl))
  have hil2:i<l.length:=by
   rcases Nat.lt_or_ge i l.length with h|h
   ·exact h
   ·unfold isT at hT;rw[List.getElem?_eq_none h]at hT;cases hT
  have hx:=List.getElem?_eq_getElem (l:=l) hil2;have hgd:l.getD i ⟨v,0⟩=l[i]:=by simp[List.getD,hx]
  rw[hgd]at ET;have hxn:=HNN.out _ (List.getElem_mem hil2);generalize l[i]=y at hx ET hxn;have HO1:=HO.out.below hbw;obtain⟨g,c0,e1,hgb,hgl⟩:=HO1.own.form (by omega);injection e1 with e1 e2 e3;subst e1 e2 e3;have hIx:Hid (l[i]?=some y):=Lib.hid hx
  have d3:w1.cell? ⟨g,i*4+3,none⟩=some (.int .i64 y.n):=by
   rw[HO1.own.cellAt (i*4+3) (by omega)];have:=flat_at Tl.cells_len l i 3 (by omega);rw[hx]at this;exact this
  have f3:=HO1.own.frozenAt (i*4+3);obtain⟨s1,s2⟩:=HO1.own.stored (i*4+3) (.int .i64 (y.n+n));rw[tl_set l i y (y.n+n) hx]at s1;have hlen:(l.take i++(⟨y.v,y.n+n⟩::l.drop (i+1))).length=l.length:=by rw[List.length_append,List.length_cons,List.length_take,List.length_drop];omega
  have d4:(w1.setCell ⟨g,i*4+3,none⟩ (.int .i64 (y.n+n))).cell? ⟨g,i*4+3,none⟩=some (.int .i64 (y.n+n)):=by
   rw[s1.cellAt (i*4+3) (by omega)];have:=flat_at Tl.cells_len (l.take i++(⟨y.v,y.n+n⟩::l.drop (i+1))) i 3 (by omega);rw[List.getElem?_append_right (by rw[List.length_take];omega),show i-(l.take i).length=0 by rw[List.length_take];omega]at this;exact this
  have HS:Hid (OwnT (w1.setCell ⟨g,i*4+3,none⟩ (.int .i64 (y.n+n))) base (.slice (some ⟨g,0,none⟩) l.length c) (l.take i++(⟨y.v,y.n+n⟩::l.drop (i+1)))):=Lib.hid ⟨by rw[hlen];exact s1⟩;have HG1:=Lib.hid (grown_trans (grown_of_below hbw (Value.slice (some ⟨g,0,none⟩) l.length c).ownBlock) s2);have HD:=Lib.hid (fun(hz:y.n+n=0)=>deleteT_any _ _ base i _ HS.out (by rw[hlen];exact hil2));have i0:(0:Int)≤(i:Int):=by omega
  have i1:(i:Int)<(l.length:Int):=by omega
  have hw1:IntKind.i64.wrap (y.n+n)=y.n+n:=by rw[IntKind.wrap_i64];rcases hn with hn|hn<;>omega
  have hw2:IntKind.i64.wrap ((i:Int)+1)=(i:Int)+1:=by rw[IntKind.wrap_i64];omega
  have HTD:Hid ((l.take i++(⟨y.v,y.n+n⟩::l.drop (i+1))).take i=l.take i∧(l.take i++(⟨y.v,y.n+n⟩::l.drop (i+1))).drop (i+1)=l.drop (i+1)):=Lib.hid (by
   have hli:(l.take i).length=i:=by rw[List.length_take];omega
   exact⟨List.take_left' hli,by rw[List.drop_append,hli,List.drop_of_length_le (by omega),show i+1-i=1 by omega];rfl⟩)
  have HWS:Hid (w.heap.size≤w1.heap.size):=Lib.hid hbw.size;by_cases hz:y.n+n=0
  ·have q1:=beqT hz
   have HDD:=HD.out hz;rw[HTD.out.1,HTD.out.2]at HDD;have HDD:=Lib.hid HDD;have ET2:Hid (TG=(l.take i++l.drop (i+1),true)):=Lib.hid (by rw[ET.out,if_pos hz];rfl);clear HT hp HTP HBS HINS K0 K1 hb1 hB s1 s2 hx hlen HD hz ET hgd hxn hT hn HO1;have HGN:=Lib.hid hgl;clear hgl hgb x0 x1 x2
   go_wp2_with fail
   refine Calls.mono (by with_reducible exact HDD.out) ?_;rintro e w2 ⟨u2,rfl,ho2,hg2,hat2⟩;have HO2:=Lib.hid ho2;have HG2:=Lib.hid (grown_trans HG1.out hg2);have HAT2:=Lib.hid hat2;clear ho2 hg2 hat2 d3 d4 f3;go_wp2
   go_ret2
   exact⟨u2,by rw[ET2.out];rfl,by rw[ET2.out];exact HO2.out,HG2.out,fun k hk=> .inl (HAT2.out▸hk)⟩
  ·have q1:=beqF hz
   have ET2:Hid (TG=(l.take i++(⟨y.v,y.n+n⟩::l.drop (i+1)),true)):=Lib.hid (by rw[ET.out,if_neg hz];rfl);clear HT hp HTP HBS HINS K0 K1 hb1 hB s1 s2 hx hlen HD hz ET hgd hxn hT hn HO1;go_wp2
   go_ret2
   exact⟨_,by rw[ET2.out];rfl,by rw[ET2.out];exact HS.out,HG1.out,fun k hk=> .inl hk⟩
end Go.Proofs.YtjhbeecmdgglgaaGreatDoor
