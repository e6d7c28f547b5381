/-Small words on worlds that every later text uses: a slice whose cells are known, how that is kept, and append onto a row of the call's own. The contra -/
import Derived.Test.YtjhbeecmdgglgaaGreatDoorRows
import Derived.WalkKit
import Derived.WalkSpells
import Derived.WalkLawsBesides
import Derived.Deep.QuietTactic
import Derived.BigQuiet
import Derived.Lib.Hide
import Derived.Deep.Draws
import Derived.Deep.AppendLies
import Derived.Laws.OwnMore
import Derived.Laws.AppendOwnNone
import Derived.Deep.RegionHeld3
import Derived.Deep.RegionLaw
import Derived.Deep.LoopGhost
import Derived.Deep.DeepCutAuto
set_option linter.unusedSimpArgs false
set_option linter.unusedVariables false
namespace Go.Proofs.YtjhbeecmdgglgaaGreatDoor
open Go.RowKit
theorem ret_bool {a b:Bool}(h:a=b):Ending.returned (.bool a)= .returned (.bool b):=by rw[h]
theorem ret_int {a b:Int}(h:a=b):Ending.returned (.int .i64 a)= .returned (.int .i64 b):=by rw[h]
def Sl (w:World) (v:Value) (n:Nat) (cs:List Value):Prop:=
 ∃A c,v= .slice A n c∧n≤c∧c≤maxLen∧(A=none→c=0)∧(cs≠[]→ ∃b off,A=some ⟨b,off,none⟩∧ ∀j u,cs[j]?=some u→w.cell? ⟨b,off+j,none⟩=some u)
theorem cell_below {w w':World}(hb:Below w.heap.size w w'){p:Addr}{u:Value}(h:w.cell? p=some u):w'.cell? p=some u:=
 (hb.cell (World.block_lt_of_cell? w p h)).trans h
theorem Sl.keep {w w':World}{v:Value}{n:Nat}{cs:List Value}(h:Sl w v n cs)(hk: ∀p u,w.cell? p=some u→w'.cell? p=some u):Sl w' v n cs:=by
 obtain⟨A,c,hv,h1,h2,h0,h3⟩:=h;refine⟨A,c,hv,h1,h2,h0,fun hne=> ?_⟩;obtain⟨b,off,hA,hc⟩:=h3 hne;exact⟨b,off,hA,fun j u hj=>hk _ _ (hc j u hj)⟩
theorem Sl.below {w w':World}{v:Value}{n:Nat}{cs:List Value}(h:Sl w v n cs)(hb:Below w.heap.size w w'):Sl w' v n cs:=
 h.keep fun _ _ hp=>cell_below hb hp
theorem Sl.setCell {w:World}{v:Value}{n:Nat}{cs:List Value}(h:Sl w v n cs){p:Addr}(hp: ∀k,v.ownBlock=some k→k≠p.block)(u:Value):Sl (w.setCell p u) v n cs:=by
 obtain⟨A,c,rfl,h1,h2,h0,h3⟩:=h;refine⟨A,c,rfl,h1,h2,h0,fun hne=> ?_⟩;obtain⟨b,off,rfl,hc⟩:=h3 hne;refine⟨b,off,rfl,fun j x hj=> ?_⟩;rw[World.cell?_of_block (Below.heap_setCell w p u b (hp b rfl))];exact hc j x hj
theorem Sl.drew {w:World}{v:Value}{n:Nat}{cs:List Value}(h:Sl w v n cs):Sl w.drew v n cs:=h
theorem Sl.drewN {w:World}{v:Value}{n:Nat}{cs:List Value}(h:Sl w v n cs)(m:Nat):Sl (w.drewN m) v n cs:=h
theorem fresh_some {B g n c:Nat}(h:B≤g): ∀k,(Value.slice (some ⟨g,0,none⟩) n c).ownBlock=some k→B≤k:=by
 intro k hk;simp[Value.ownBlock]at hk;omega
theorem Sl.nil_ (w:World):Sl w (.slice none 0 0) 0 []:=⟨none,0,rfl,Nat.le_refl _,by decide,fun _=>rfl,fun h=>absurd rfl h⟩
theorem Sl.of_own {w:World}{base:Nat}{e:TypeId}{size:Nat}{v:Value}{n:Nat}{xs:List Value}(h:w.ownsRow base e size v n xs):Sl w v n xs:=by
 have hx:=h.1;rcases h.2 with⟨rfl,rfl⟩|⟨g,cap,cur,rfl,_,hh,hn,hc,_⟩
 ·have:xs=[]:=List.eq_nil_of_length_eq_zero (by simpa using hx)
  subst this;exact Sl.nil_ w
 ·refine⟨_,cap,rfl,hn,hc,(fun h=>by cases h),fun _=>⟨g,0,rfl,fun j u hj=> ?_⟩⟩
  have:=h.cells (g:=g) rfl j u hj;unfold Addr.add at this;split at this
  ·rename_i h0;subst h0;simpa using this
  ·simpa using this
theorem Sl.drop {w:World}{size:Nat}{A:Option Addr}{n c k:Nat}{cs:List Value}(h:Sl w (.slice A n c) n cs)(hl:cs.length=n*size)(hk:k≤n):
 Sl w (.slice (if c=k then A else A.map (·.add (k*size))) (n-k) (c-k)) (n-k) (cs.drop (k*size)):=by
 obtain⟨A',c',hv,h1,h2,h0,h3⟩:=h;injection hv with e1 e2 e3;subst e1 e3;refine⟨_,_,rfl,by omega,by omega,?_,fun hne=> ?_⟩
 ·intro hn
  split at hn
  ·have:=h0 hn;omega
  ·have:=h0 (by simpa using hn);omega
 ·have hlt:k<n:=by
   rcases Nat.lt_or_ge k n with h|h
   ·exact h
   ·exfalso
    apply hne;apply List.drop_eq_nil_of_le;rw[hl];exact Nat.mul_le_mul_right _ h
  obtain⟨b,off,rfl,hc⟩:=h3 (by rintro rfl;simp at hne);rw[if_neg (by omega)];refine⟨b,off+k*size,?_,fun j u hj=> ?_⟩
  ·simp only[Option.map_some,Addr.add]
   split
   ·rename_i h;rw[h];rfl
   ·rfl
  ·rw[Nat.add_assoc]
   exact hc _ u (by rw[List.getElem?_drop]at hj;exact hj)
theorem Sl.take {w:World}{size:Nat}{A:Option Addr}{n c k:Nat}{cs:List Value}(h:Sl w (.slice A n c) n cs)(hk:k≤n):
 Sl w (.slice A k c) k (cs.take (k*size)):=by
 obtain⟨A',c',hv,h1,h2,h0,h3⟩:=h;injection hv with e1 e2 e3;subst e1 e3;refine⟨_,_,rfl,by omega,h2,h0,fun hne=> ?_⟩;obtain⟨b,off,rfl,hc⟩:=h3 (by rintro rfl;simp at hne);refine⟨b,off,rfl,fun j u hj=>hc j u ?_⟩;rw[List.getElem?_take]at hj;split at hj
 ·exact hj
 ·cases hj
theorem below_alloc (w:World)(o:Obj):Below w.heap.size w (w.alloc o):=(Below.refl _ _).alloc (Nat.le_refl _) o
theorem below_drewN {B:Nat}{a w:World}(h:Below B a w)(n:Nat):Below B a (w.drewN n):=⟨h.os,h.tape,h.output,h.size,h.block⟩
theorem below_trans {a b c:World}(h:Below a.heap.size a b)(k:Below b.heap.size b c):Below a.heap.size a c:=h.trans (k.mono h.size)
theorem below_grown {a w w':World}{row:Option Nat}(h:Below a.heap.size a w)(hg:w.grownBy w' row)(hr: ∀k,row=some k→a.heap.size≤k):Below a.heap.size a w':=h.grown hg h.size hr
theorem own_ge {w:World}{base:Nat}{e:TypeId}{size:Nat}{v:Value}{n:Nat}{xs:List Value}(h:w.ownsRow base e size v n xs): ∀k,v.ownBlock=some k→base≤k:=fun k hk=>(h.lt k hk).1
def EInfo (P:Program) (e:TypeId) (size bytes:Nat):Prop:=
 ∃i z,P.info? e=some i∧i.zero=some z∧i.size=size∧i.bytes=bytes∧z.cells.size=size∧0<size
section
variable {P:Program} {w:World}
theorem run_app (base:Nat)(t ty e:TypeId)(size bytes:Nat)(ht:P.underlying t=some (.slice e))(hi:EInfo P e size bytes)
 (v:Value) (n:Nat) (xs:List Value) (hown:w.ownsRow base e size v n xs) (sv:Value) (m:Nat) (news:List Value) (hs:Sl w sv m news) (hl:news.length=m*size) (h1: ∀u∈news,u.oneCell'=true)
 (h63:n+m≤maxLen) (hbytes:(n+m)*bytes≤140737488355328) (hbase:base≤w.heap.size):
 ∃v' w',(Builtin.append_ #[t,t] ty #[v,sv]).run P w= .ok v' w'∧w'.ownsRow base e size v' (n+m) (xs++news)∧w.grownBy w' v.ownBlock∧(v'.ownBlock=v.ownBlock∨v'.ownBlock=some w.heap.size):=by
 obtain⟨i,z,hi,hz,hz1,hz2,hz3,hsz⟩:=hi;obtain⟨A,c,rfl,hmc,_,h0,h3⟩:=hs;rcases A with _|ad
 ·have hc:=h0 rfl
  subst hc;have hm:m=0:=by omega
  subst hm;have hn:news=[]:=List.eq_nil_of_length_eq_zero (by simpa using hl);subst hn;exact⟨v,w,run_append_owned_none (P:=P) (w:=w) base t ty e i size ht hi v n xs hown,by simpa using hown,World.grownBy.refl w _,.inl rfl⟩
 ·have hcells: ∀j u,news[j]?=some u→w.cell? (ad.add j)=some u:=by
   intro j u hu;obtain⟨b,off,hA,hc⟩:=h3 (by rintro rfl;simp at hu);injection hA with hA;subst hA;have:=hc j u hu;unfold Addr.add;split
   ·rename_i h;subst h;exact this
   ·exact this
  obtain⟨v',w',hrun,h2,h4,_,h5⟩:=run_append_own_at (P:=P) (w:=w) base t ty e i z size bytes ht hi hz hz1 hz2 hz3 hsz v n xs hown ad m c news hl hcells h1 h63 hbytes hbase;exact⟨v',w',hrun,h2,h4,h5⟩
theorem wp_app {o:Oper}{a:Act}{K:Act→World→Prop}{Q:Exit→Act→World→Prop}(s x:Operand)(t:TypeId)
 (ho:o.op= .call {callee:= .builtin .append,args:= #[s,x],argTypes:= #[t,t]})
 (base:Nat) (e:TypeId) (size bytes:Nat) (ht:P.underlying t=some (.slice e)) (hi:EInfo P e size bytes)
 (v:Value) (n:Nat) (xs:List Value) (hv:a.eval s=v) (hown:w.ownsRow base e size v n xs) (sv:Value) (m:Nat) (news:List Value) (hx:a.eval x=sv) (hs:Sl w sv m news) (hl:news.length=m*size) (h1: ∀u∈news,u.oneCell'=true)
 (h63:n+m≤maxLen) (hbytes:(n+m)*bytes≤140737488355328) (hbase:base≤w.heap.size)
 (h: ∀v' w',w'.ownsRow base e size v' (n+m) (xs++news)→w.grownBy w' v.ownBlock→(v'.ownBlock=v.ownBlock∨v'.ownBlock=some w.heap.size)→K (a.put o.dst v') w'):o.wp P a w K Q:=by
 obtain⟨v',w',hrun,h2,h3,h4⟩:=run_app (P:=P) (w:=w) base t o.type e size bytes ht hi v n xs hown sv m news hs hl h1 h63 hbytes hbase;unfold Oper.wp execOp;simp only[ho,resolve,invoke,builtin,Sem.run_bind,Sem.run_pure,Result.andThen_ok,List.map_toArray,List.map_cons,List.map_nil,hv,hx,hrun];exact h v' w' h2 h3 h4
theorem wpList_app {ops:Array Oper}{rest:List Oper}{o:Oper}{a:Act}{Q:Exit→Act→World→Prop}(hgd:o.guard=none)(s x:Operand)(t:TypeId)
 (ho:o.op= .call {callee:= .builtin .append,args:= #[s,x],argTypes:= #[t,t]})
 (base:Nat) (e:TypeId) (size bytes:Nat) (ht:P.underlying t=some (.slice e)) (hi:EInfo P e size bytes)
 (v:Value) (n:Nat) (xs:List Value) (hv:a.eval s=v) (hown:w.ownsRow base e size v n xs) (sv:Value) (m:Nat) (news:List Value) (hx:a.eval x=sv) (hs:Sl w sv m news) (hl:news.length=m*size) (h1: ∀u∈news,u.oneCell'=true)
 (h63:n+m≤maxLen) (hbytes:(n+m)*bytes≤140737488355328) (hbase:base≤w.heap.size)
 (h: ∀v' w',w'.ownsRow base e size v' (n+m) (xs++news)→w.grownBy w' v.ownBlock→(v'.ownBlock=v.ownBlock∨v'.ownBlock=some w.heap.size)→wpList P ops Q rest (a.put o.dst v') w'):wpList P ops Q (o::rest) a w:=
 wpList_plain hgd fun _ hK=>wp_app s x t ho base e size bytes ht hi v n xs hv hown sv m news hx hs hl h1 h63 hbytes hbase fun v' w' h2 h3 h4=>hK _ _ (h v' w' h2 h3 h4)
theorem step_app {ops:Array Oper}{o:Oper}{a:Act}{K:Act→World→Prop}{Q:Exit→Act→World→Prop}{E:Prop}(hgd:o.guard=none)(s x:Operand)(t:TypeId)
 (ho:o.op= .call {callee:= .builtin .append,args:= #[s,x],argTypes:= #[t,t]})
 (base:Nat) (e:TypeId) (size bytes:Nat) (ht:P.underlying t=some (.slice e)) (hi:EInfo P e size bytes)
 (v:Value) (n:Nat) (xs:List Value) (hv:a.eval s=v) (hown:w.ownsRow base e size v n xs) (sv:Value) (m:Nat) (news:List Value) (hx:a.eval x=sv) (hs:Sl w sv m news) (hl:news.length=m*size) (h1: ∀u∈news,u.oneCell'=true)
 (h63:n+m≤maxLen) (hbytes:(n+m)*bytes≤140737488355328) (hbase:base≤w.heap.size)
 (h: ∀v' w',w'.ownsRow base e size v' (n+m) (xs++news)→w.grownBy w' v.ownBlock→(v'.ownBlock=v.ownBlock∨v'.ownBlock=some w.heap.size)→K (a.put o.dst v') w'):
 if Region.wanted o (yielded ops a.tmps)=true then Oper.wp P o a w K Q else E:=by
 rw[if_pos (by simp[Region.wanted,hgd])];exact wp_app s x t ho base e size bytes ht hi v n xs hv hown sv m news hx hs hl h1 h63 hbytes hbase h
theorem Sl.block {w:World}{g:Nat}{cs:Array Value}{t:TypeId}(hb:w.heap[g]?=some (.cells cs t (0,0)))(n c:Nat)(hn:n≤c)(hc:c≤maxLen):Sl w (.slice (some ⟨g,0,none⟩) n c) n cs.toList:=
 ⟨_,c,rfl,hn,hc,(fun h=>by cases h),fun _=>⟨g,0,rfl,fun j u hj=>by
   have:=World.news_of_block hb j u hj;unfold Addr.add at this;split at this
   ·rename_i h0;subst h0;simpa using this
   ·simpa using this⟩⟩
end
def Blk (w:World) (g:Nat) (t:TypeId) (cs:Array Value):Prop:=w.heap[g]?=some (.cells cs t (0,0))
theorem Blk.lt {w:World}{g:Nat}{t:TypeId}{cs:Array Value}(h:Blk w g t cs):g<w.heap.size:=by
 rcases Nat.lt_or_ge g w.heap.size with hlt|hge
 ·exact hlt
 ·unfold Blk at h;rw[Array.getElem?_eq_none hge]at h;cases h
theorem Blk.cell {w:World}{g:Nat}{t:TypeId}{cs:Array Value}(h:Blk w g t cs)(i:Nat)(u:Value)(hi:cs[i]?=some u):w.cell? ⟨g,i,none⟩=some u:=by rw[cell_of_row w g i cs t (0,0) h,hi]
theorem Blk.free {w:World}{g:Nat}{t:TypeId}{cs:Array Value}(h:Blk w g t cs)(i:Nat):w.frozen? ⟨g,i,none⟩=false:=by
 unfold Blk at h;simp[World.frozen?,h]
theorem Blk.below {w w':World}{g:Nat}{t:TypeId}{cs:Array Value}(h:Blk w g t cs)(hb:Below w.heap.size w w'):Blk w' g t cs:=(hb.block g h.lt).trans h
theorem Blk.new (w:World)(t:TypeId)(cs:Array Value):Blk (w.alloc (.cells cs t)) w.heap.size t cs:=heap_alloc_new w _
theorem Blk.alloc {w:World}{g:Nat}{t:TypeId}{cs:Array Value}(h:Blk w g t cs)(o:Obj):Blk (w.alloc o) g t cs:=h.below (below_alloc w o)
theorem Blk.drewN {w:World}{g:Nat}{t:TypeId}{cs:Array Value}(h:Blk w g t cs)(n:Nat):Blk (w.drewN n) g t cs:=h
theorem Blk.drew {w:World}{g:Nat}{t:TypeId}{cs:Array Value}(h:Blk w g t cs):Blk w.drew g t cs:=h
theorem Blk.far {w:World}{g:Nat}{t:TypeId}{cs:Array Value}(h:Blk w g t cs){p:Addr}(hp:g≠p.block)(u:Value):Blk (w.setCell p u) g t cs:=(Below.heap_setCell w p u g hp).trans h
theorem Blk.set_ {w:World}{g:Nat}{t:TypeId}{cs:Array Value}(h:Blk w g t cs)(i:Nat)(u:Value):Blk (w.setCell ⟨g,i,none⟩ u) g t (cs.setIfInBounds i u):=by
 unfold Blk at h⊢;simp[World.setCell,Array.getElem?_modify,h]
theorem Blk.grown {w w':World}{g:Nat}{t:TypeId}{cs:Array Value}(h:Blk w g t cs){row:Option Nat}(hb:w.grownBy w' row)(hg:row≠some g):Blk w' g t cs:=(hb.block g h.lt (fun e=>hg e.symm)).trans h
theorem new_first (w:World)(t:TypeId)(cs:Array Value)(o:Obj):Blk ((w.alloc (.cells cs t)).alloc o) w.heap.size t cs:=(Blk.new w t cs).alloc o
theorem new_second (w:World)(t:TypeId)(cs:Array Value)(o:Obj):Blk ((w.alloc o).alloc (.cells cs t)) (w.heap.size+1) t cs:=by
 have:=Blk.new (w.alloc o) t cs;rwa[World.size_alloc]at this
def intCells (l:List Int):List Value:=l.map (.int .i64)
theorem int_at {w:World}{l:List Int}{v:Value}(h:Sl w v l.length (intCells l)){A:Option Addr}{n c:Nat}(hv:v= .slice A n c){k:Nat}(hk:k<l.length):
 ∃b off,A=some ⟨b,off,none⟩∧b<w.heap.size∧ ∀w',Below w.heap.size w w'→w'.cell? ⟨b,off+k,none⟩=some (.int .i64 (l.getD k 0)):=by
 obtain⟨A',c',hv',h1,h2,-,h3⟩:=h;rw[hv]at hv';injection hv' with e1 e2 e3;subst e1;have a1:(intCells l)[k]?=some (.int .i64 (l.getD k 0)):=by simp[intCells,hk]
 obtain⟨b,off,hA,hc⟩:=h3 (by intro h0;rw[h0]at a1;simp at a1);have c1:=hc _ _ a1;exact⟨b,off,hA,World.block_lt_of_cell? w _ c1,fun w' hb=>cell_below hb c1⟩
end Go.Proofs.YtjhbeecmdgglgaaGreatDoor
namespace Go.Proofs.YtjhbeecmdgglgaaGreatDoor.tm
open Go.RowKit
def fitsB (t:Int):Bool:=decide (-1099511627776≤t∧t≤1099511627776)
theorem fits_yes {t:Int}(h1: -1099511627776≤t)(h2:t≤1099511627776):fitsB t=true:=by simp[fitsB,h1,h2]
theorem fits_lo {t:Int}(h:t< -1099511627776):fitsB t=false:=by simp[fitsB];omega
theorem fits_hi {t:Int}(h:1099511627776<t):fitsB t=false:=by simp[fitsB];omega
theorem fits_of {t:Int}(h:fitsB t=true): -1099511627776≤t∧t≤1099511627776:=by simpa[fitsB]using h
set_option maxHeartbeats 400000 in
theorem fits_any (t:Int)(w:World):
 Calls Tryz.prog 84 #[.int .i64 t] w fun e w'=>e= .returned (.bool (fitsB t))∧w=w':=by
 by_cases h1: -1099511627776≤t
 ·by_cases h2:t≤1099511627776
  ·go_enter Tryz.func84,Tryz.ntmps84
   go_wp2;go_ret;exact⟨ret_bool (fits_yes h1 h2).symm,rfl⟩
  ·go_enter Tryz.func84,Tryz.ntmps84
   go_wp2;go_ret;exact⟨ret_bool (fits_hi (by omega)).symm,rfl⟩
 ·go_enter Tryz.func84,Tryz.ntmps84
  go_wp2;go_ret;exact⟨ret_bool (fits_lo (by omega)).symm,rfl⟩
set_option maxHeartbeats 400000 in
theorem rfits_any (t:Int)(w:World):
 Calls Tryz.prog 39 #[.int .i64 t] w fun e w'=>e= .returned (.bool (fitsB t))∧w=w':=by
 by_cases h1: -1099511627776≤t
 ·by_cases h2:t≤1099511627776
  ·go_enter Tryz.func39,Tryz.ntmps39
   go_wp2;go_ret;exact⟨ret_bool (fits_yes h1 h2).symm,rfl⟩
  ·go_enter Tryz.func39,Tryz.ntmps39
   go_wp2;go_ret;exact⟨ret_bool (fits_hi (by omega)).symm,rfl⟩
 ·go_enter Tryz.func39,Tryz.ntmps39
  go_wp2;go_ret;exact⟨ret_bool (fits_lo (by omega)).symm,rfl⟩
def winF (t size:Int):Int:=t-t%size
theorem tmod_facts (t size:Int)(hs:1≤size): -size<t.tmod size∧t.tmod size<size:=by
 have h1:=Int.tmod_lt_of_pos t (show 0<size by omega);have h2:=Int.lt_tmod_of_pos t (show 0<size by omega);omega
theorem mod_facts (t size:Int)(hs:1≤size):0≤t%size∧t%size<size:=
 ⟨Int.emod_nonneg _ (by omega),Int.emod_lt_of_pos _ (by omega)⟩
theorem tmod_mod (t size:Int)(hs:1≤size):t.tmod size%size=t%size:=by
 rw[Int.tmod_eq_emod];split
 ·simp
 ·have:(size.natAbs:Int)=size:=by omega
  rw[this,Int.sub_emod];simp
set_option maxHeartbeats 400000 in
theorem window_any (t size:Int)(w:World)(ht: -1099511627776≤t)(ht':t≤1099511627776)(hs:1≤size)(hs':size≤1099511627776):
 Calls Tryz.prog 123 #[.int .i64 t,.int .i64 size] w fun e w'=>e= .returned (.tuple #[.int .i64 (winF t size),.int .i64 (winF t size+size),.int .i64 0])∧w=w':=by
 have h1:=tmod_facts t size hs;have h2:=mod_facts (t.tmod size) size hs;have h3:=Lib.hid (tmod_mod t size hs);obtain⟨h1a,h1b⟩:=h1;obtain⟨h2a,h2b⟩:=h2;have hf:=fits_yes ht ht';go_enter Tryz.func123,Tryz.ntmps123
 go_wp2_with (go_at_call 84;refine(fits_any _ _).mono ?_;rintro e w' ⟨rfl,rfl⟩)
 go_ret3
 exact⟨by rw[h3.out];rfl,rfl⟩
theorem start_facts (t size:Int)(ht: -1099511627776≤t)(ht':t≤1099511627776)(hs:1≤size)(hs':size≤1099511627776):
 -1099511627776≤t.tdiv size∧t.tdiv size≤1099511627776∧ -2199023255552≤t.tdiv size*size∧t.tdiv size*size≤2199023255552∧
 (if t<t.tdiv size*size then t.tdiv size*size-size else t.tdiv size*size)=winF t size:=by
 have h1:=tmod_facts t size hs;have h2:=mod_facts t size hs;have e:=Int.tmod_add_mul_tdiv t size;have e2:=Int.emod_add_mul_ediv t size;have hc:size*t.tdiv size=t.tdiv size*size:=Int.mul_comm _ _
 have hb: -1099511627776≤t.tdiv size∧t.tdiv size≤1099511627776:=by
  have h:=Int.natAbs_tdiv_le_natAbs t size;omega
 refine⟨hb.1,hb.2,by omega,by omega,?_⟩;unfold winF;have ht:=Int.tmod_eq_emod (a:=t) (b:=size);split
 ·rw[←hc]
  split at ht<;>omega
 ·rw[←hc]
  split at ht<;>omega
set_option maxHeartbeats 400000 in
theorem start_any (t size:Int)(w:World)(ht: -1099511627776≤t)(ht':t≤1099511627776)(hs:1≤size)(hs':size≤1099511627776):
 Calls Tryz.prog 126 #[.int .i64 t,.int .i64 size] w fun e w'=>e= .returned (.int .i64 (winF t size))∧w=w':=by
 obtain⟨h1,h2,h3,h4,h5⟩:=start_facts t size ht ht' hs hs';by_cases hc:t<t.tdiv size*size
 ·rw[if_pos hc]at h5
  have H5:=Lib.hid h5;clear h5;go_enter Tryz.func126,Tryz.ntmps126
  go_wp2;go_ret;exact⟨ret_int H5.out,rfl⟩
 ·rw[if_neg hc]at h5
  have H5:=Lib.hid h5;clear h5;go_enter Tryz.func126,Tryz.ntmps126
  go_wp2;go_ret;exact⟨ret_int H5.out,rfl⟩
end Go.Proofs.YtjhbeecmdgglgaaGreatDoor.tm
namespace Go.Proofs.YtjhbeecmdgglgaaGreatDoor.tm
open Go.RowKit
def meetsF (l r low high:Int):Bool×Int:=
 if fitsB l&&fitsB r&&fitsB low&&fitsB high then(if high<low then(false,1)else(decide (l+low≤r)&&decide (r≤l+high),0))else(false,3)
theorem meets_l {l r low high:Int}(h:fitsB l=false):meetsF l r low high=(false,3):=by simp[meetsF,h]
theorem meets_r {l r low high:Int}(h:fitsB r=false):meetsF l r low high=(false,3):=by simp[meetsF,h]
theorem meets_low {l r low high:Int}(h:fitsB low=false):meetsF l r low high=(false,3):=by simp[meetsF,h]
theorem meets_high {l r low high:Int}(h:fitsB high=false):meetsF l r low high=(false,3):=by simp[meetsF,h]
theorem meets_form {l r low high:Int}(h1:fitsB l=true)(h2:fitsB r=true)(h3:fitsB low=true)(h4:fitsB high=true)(h:high<low):meetsF l r low high=(false,1):=by simp[meetsF,h1,h2,h3,h4,h]
theorem meets_ok {l r low high:Int}(h1:fitsB l=true)(h2:fitsB r=true)(h3:fitsB low=true)(h4:fitsB high=true)(h:low≤high):meetsF l r low high=(decide (l+low≤r)&&decide (r≤l+high),0):=by
 simp[meetsF,h1,h2,h3,h4];omega
set_option maxHeartbeats 1000000 in
set_option maxRecDepth 100000 in
theorem meets_any (l r low high:Int)(w:World):
 Calls Tryz.prog 122 #[.int .i64 l,.int .i64 r,.int .i64 low,.int .i64 high] w fun e w'=>e= .returned (.tuple #[.bool (meetsF l r low high).1,.int .i64 (meetsF l r low high).2])∧w=w':=by
 have i0: ∀w:World,(Instr.index 199 (.agg #[.int .i64 l,.int .i64 r,.int .i64 low,.int .i64 high]) (.int .i64 0)).run Tryz.prog w= .ok (.int .i64 l) w:=fun _=>by kernel_rfl
 have i1: ∀w:World,(Instr.index 199 (.agg #[.int .i64 l,.int .i64 r,.int .i64 low,.int .i64 high]) (.int .i64 1)).run Tryz.prog w= .ok (.int .i64 r) w:=fun _=>by kernel_rfl
 have i2: ∀w:World,(Instr.index 199 (.agg #[.int .i64 l,.int .i64 r,.int .i64 low,.int .i64 high]) (.int .i64 2)).run Tryz.prog w= .ok (.int .i64 low) w:=fun _=>by kernel_rfl
 have i3: ∀w:World,(Instr.index 199 (.agg #[.int .i64 l,.int .i64 r,.int .i64 low,.int .i64 high]) (.int .i64 3)).run Tryz.prog w= .ok (.int .i64 high) w:=fun _=>by kernel_rfl
 go_enter Tryz.func122,Tryz.ntmps122
 go_wp2
 go_loop [11,17] (fun _ i=> ∃k:Nat,k≤4∧i= .int .i64 k∧Hid ((0<k→fitsB l=true)∧(1<k→fitsB r=true)∧(2<k→fitsB low=true)∧(3<k→fitsB high=true))) (fun _ i=>4-(intOf i).toNat)
 case atStart=>exact⟨0,by omega,rfl,⟨fun h=>absurd h (by omega),fun h=>absurd h (by omega),fun h=>absurd h (by omega),fun h=>absurd h (by omega)⟩⟩
 case round=>
  obtain⟨k,hk,rfl,H⟩:=hrel;have hk5:k=0∨k=1∨k=2∨k=3∨k=4:=by omega
  rcases hk5 with rfl|rfl|rfl|rfl|rfl
  ·cases hf:fitsB l
   ·go_wp2_with (go_at_call 84;refine(fits_any _ _).mono ?_;rintro e w' ⟨rfl,rfl⟩)
    go_ret2
    exact⟨by rw[meets_l hf];rfl,rfl⟩
   ·go_wp2_with (go_at_call 84;refine(fits_any _ _).mono ?_;rintro e w' ⟨rfl,rfl⟩)
    go_round
    case rel=>exact⟨1,by omega,rfl,⟨fun _=>(by first|exact hf|trivial),fun h=>absurd h (by omega),fun h=>absurd h (by omega),fun h=>absurd h (by omega)⟩⟩
    case measure=>simp[intOf]
  ·cases hf:fitsB r
   ·go_wp2_with (go_at_call 84;refine(fits_any _ _).mono ?_;rintro e w' ⟨rfl,rfl⟩)
    go_ret2
    exact⟨by rw[meets_r hf];rfl,rfl⟩
   ·go_wp2_with (go_at_call 84;refine(fits_any _ _).mono ?_;rintro e w' ⟨rfl,rfl⟩)
    go_round
    case rel=>exact⟨2,by omega,rfl,⟨fun _=>H.out.1 (by omega),fun _=>(by first|exact hf|trivial),fun h=>absurd h (by omega),fun h=>absurd h (by omega)⟩⟩
    case measure=>simp[intOf]
  ·cases hf:fitsB low
   ·go_wp2_with (go_at_call 84;refine(fits_any _ _).mono ?_;rintro e w' ⟨rfl,rfl⟩)
    go_ret2
    exact⟨by rw[meets_low hf];rfl,rfl⟩
   ·go_wp2_with (go_at_call 84;refine(fits_any _ _).mono ?_;rintro e w' ⟨rfl,rfl⟩)
    go_round
    case rel=>exact⟨3,by omega,rfl,⟨fun _=>H.out.1 (by omega),fun _=>H.out.2.1 (by omega),fun _=>(by first|exact hf|trivial),fun h=>absurd h (by omega)⟩⟩
    case measure=>simp[intOf]
  ·cases hf:fitsB high
   ·go_wp2_with (go_at_call 84;refine(fits_any _ _).mono ?_;rintro e w' ⟨rfl,rfl⟩)
    go_ret2
    exact⟨by rw[meets_high hf];rfl,rfl⟩
   ·go_wp2_with (go_at_call 84;refine(fits_any _ _).mono ?_;rintro e w' ⟨rfl,rfl⟩)
    go_round
    case rel=>exact⟨4,by omega,rfl,⟨fun _=>H.out.1 (by omega),fun _=>H.out.2.1 (by omega),fun _=>H.out.2.2.1 (by omega),fun _=>(by first|exact hf|trivial)⟩⟩
    case measure=>simp[intOf]
  ·have f1:=H.out.1 (by omega)
   have f2:=H.out.2.1 (by omega);have f3:=H.out.2.2.1 (by omega);have f4:=H.out.2.2.2 (by omega);have b1:=fits_of f1;have b2:=fits_of f2;have b3:=fits_of f3;have b4:=fits_of f4;have F1:=Lib.hid f1;have F2:=Lib.hid f2;have F3:=Lib.hid f3;have F4:=Lib.hid f4;clear f1 f2 f3 f4 H i0 i1 i2 i3;by_cases hc:high<low
   ·go_wp2
    go_ret2
    exact⟨by rw[meets_form F1.out F2.out F3.out F4.out hc];rfl,rfl⟩
   ·by_cases hd:l+low≤r
    ·go_wp2
     go_ret2
     exact⟨by rw[meets_ok F1.out F2.out F3.out F4.out (by omega)];simp[hd],rfl⟩
    ·go_wp2
     go_ret2
     exact⟨by rw[meets_ok F1.out F2.out F3.out F4.out (by omega)];simp;omega,rfl⟩
def untilF (mark span:Int):Int:=if mark=1099511627776 then 1099511627776 else mark-span
end Go.Proofs.YtjhbeecmdgglgaaGreatDoor.tm
namespace Go.Proofs.YtjhbeecmdgglgaaGreatDoor
open Go.RowKit Go.Maps
structure Turned (F:Nat→Prop) (w w':World):Prop where
 os:w'.os=w.os
 tape:w'.tape=w.tape
 output:w'.output=w.output
 size:w.heap.size≤w'.heap.size
 same: ∀k,k<w.heap.size→ ¬F k→w'.heap[k]?=w.heap[k]?
theorem Turned.refl (F:Nat→Prop)(w:World):Turned F w w:=⟨rfl,rfl,rfl,Nat.le_refl _,fun _ _ _=>rfl⟩
theorem Turned.trans {F:Nat→Prop}{a b c:World}(h:Turned F a b)(k:Turned F b c):Turned F a c:=
 ⟨k.os.trans h.os,k.tape.trans h.tape,k.output.trans h.output,Nat.le_trans h.size k.size,fun i hi hf=>(k.same i (Nat.lt_of_lt_of_le hi h.size) hf).trans (h.same i hi hf)⟩
theorem Turned.imp {F G:Nat→Prop}{w w':World}(h:Turned F w w')(hi: ∀k,k<w.heap.size→F k→G k):Turned G w w':=⟨h.os,h.tape,h.output,h.size,fun k hk hg=>h.same k hk fun hf=>hg (hi k hk hf)⟩
theorem Turned.transN {F G:Nat→Prop}{a b c:World}(h:Turned F a b)(k:Turned G b c)(hi: ∀i,i<a.heap.size→G i→F i):Turned F a c:=
 ⟨k.os.trans h.os,k.tape.trans h.tape,k.output.trans h.output,Nat.le_trans h.size k.size,fun i hl hf=>(k.same i (Nat.lt_of_lt_of_le hl h.size) fun hg=>hf (hi i hl hg)).trans (h.same i hl hf)⟩
theorem turned_grown {w w':World}{row:Option Nat}(h:w.grownBy w' row):Turned (fun k=>row=some k) w w':=⟨h.os,h.tape,h.output,h.size,fun k hk hf=>h.block k hk (fun e=>hf e.symm)⟩
theorem turned_below {F:Nat→Prop}{w w':World}(h:Below w.heap.size w w'):Turned F w w':=⟨h.os,h.tape,h.output,h.size,fun k hk _=>h.block k hk⟩
theorem turned_set (w:World)(p:Addr)(u:Value):Turned (fun k=>k=p.block) w (w.setCell p u):=⟨rfl,rfl,rfl,by rw[World.size_setCell];exact Nat.le_refl _,fun k _ hf=>Below.heap_setCell w p u k hf⟩
theorem Turned.below {F:Nat→Prop}{w w':World}{base:Nat}(h:Turned F w w')(hb:base≤w.heap.size)(hf: ∀k,F k→base≤k):Below base w w':=⟨h.os,h.tape,h.output,h.size,fun k hk=>h.same k (by omega) fun e=>by have:=hf k e;omega⟩
theorem below_turned {F:Nat→Prop}{a w w':World}(hb:Below a.heap.size a w)(h:Turned F w w')(hf: ∀k,F k→a.heap.size≤k):Below a.heap.size a w':=hb.trans (h.below hb.size hf)
theorem blk_turned {F:Nat→Prop}{w w':World}{g:Nat}{t:TypeId}{cs:Array Value}(h:Blk w g t cs)(ht:Turned F w w')(hg: ¬F g):Blk w' g t cs:=(ht.same g h.lt hg).trans h
end Go.Proofs.YtjhbeecmdgglgaaGreatDoor
namespace Go.Proofs.YtjhbeecmdgglgaaGreatDoor
open Go.RowKit
section
variable {P:Program} {ops:Array Oper} {Q:Exit→Act→World→Prop} {md:Region.Mode} {S:World→Prop}
theorem tk (i:Nat){oi:Oper}{v:Value}{fuel:Nat}{listed listed':Array Bool}{a a':Act}{w:World}
 (h:wpAnyH P md ops Q S fuel listed' a' w)
 (hi:ops[i]?=some oi:=by simp only[List.getElem?_toArray,List.getElem?_cons_succ,List.getElem?_cons_zero];rfl)
 (hs:Region.noSelect ops=true:=by kernel_rfl) (hf:Region.free md ops listed i=true:=by kernel_rfl) (hr:(Region.ready md ops listed).contains i=true:=by kernel_rfl)
 (hQ: ∀c a w,Q (.panic c) (a.put oi.dst v) w→Q (.panic c) a w:=by intro _ _ _ h;exact h)
 (hw:Region.wanted oi (yielded ops a.tmps)=true:=by kernel_rfl)
 (hy: ∀w,S w→(execOp a.eval oi).run P w= .ok (.value v) w:=by(intro w hSw;(try dsimp only at hSw);go_simp;try with_reducible rfl))
 (hS:S w:=by assumption)
 (hl:listed.setIfInBounds i true=listed':=by(try simp only[List.setIfInBounds_toArray,List.set_cons_zero,List.set_cons_succ]);exact rfl)
 (ha:a.put oi.dst v=a':=by(try simp only[Act.put,List.setIfInBounds_toArray,List.set_cons_zero,List.set_cons_succ]);exact rfl):wpAnyH P md ops Q S (fuel+1) listed a w:=
 wpAnyH_take hi hs hf hr hQ (.inl ⟨hw,hy⟩) hS (hl▸ha▸h)
theorem tn (i:Nat){oi:Oper}{fuel:Nat}{listed listed':Array Bool}{a a':Act}{w:World}
 (h:wpAnyH P md ops Q S fuel listed' a' w)
 (hi:ops[i]?=some oi:=by simp only[List.getElem?_toArray,List.getElem?_cons_succ,List.getElem?_cons_zero];rfl)
 (hs:Region.noSelect ops=true:=by kernel_rfl) (hf:Region.free md ops listed i=true:=by kernel_rfl) (hr:(Region.ready md ops listed).contains i=true:=by kernel_rfl)
 (hQ: ∀c a w,Q (.panic c) (a.put oi.dst undef) w→Q (.panic c) a w:=by intro _ _ _ h;exact h)
 (hw:Region.wanted oi (yielded ops a.tmps)=false:=by kernel_rfl)
 (hS:S w:=by assumption)
 (hl:listed.setIfInBounds i true=listed':=by(try simp only[List.setIfInBounds_toArray,List.set_cons_zero,List.set_cons_succ]);exact rfl)
 (ha:a.put oi.dst undef=a':=by(try simp only[Act.put,List.setIfInBounds_toArray,List.set_cons_zero,List.set_cons_succ]);exact rfl):wpAnyH P md ops Q S (fuel+1) listed a w:=
 wpAnyH_take hi hs hf hr hQ (.inr ⟨hw,rfl⟩) hS (hl▸ha▸h)
theorem tc (i:Nat){oi:Oper}{fuel:Nat}{listed listed':Array Bool}{a:Act}{w:World}
 (h: ∀K,Hid (∀a' w',S w'→(S w'→wpAnyH P md ops Q S fuel listed' a' w')→K a' w')→(if Region.wanted oi (yielded ops a.tmps)=true then oi.wp P a w K Q else K (a.put oi.dst undef) w))
 (hi:ops[i]?=some oi:=by simp only[List.getElem?_toArray,List.getElem?_cons_succ,List.getElem?_cons_zero];rfl)
 (hr:Region.ready md ops listed=[i]:=by kernel_rfl)
 (hl:listed.setIfInBounds i true=listed':=by(try simp only[List.setIfInBounds_toArray,List.set_cons_zero,List.set_cons_succ]);exact rfl):wpAnyH P md ops Q S (fuel+1) listed a w:=by
 refine wpAnyH_ready (rs:=[i]) hr (by simp) (AllReadyH.cons hi (fun K hK=> ?_) AllReadyH.nil);exact h K (Lib.hid fun a' w' h1 h2=>hK.out _ _ h1 (fun h3=>hl▸h2 h3))
theorem tc2 (i j:Nat){oi oj:Oper}{fuel:Nat}{listed l1 l2:Array Bool}{a:Act}{w:World}
 (h1: ∀K,Hid (∀a' w',S w'→(S w'→wpAnyH P md ops Q S fuel l1 a' w')→K a' w')→(if Region.wanted oi (yielded ops a.tmps)=true then oi.wp P a w K Q else K (a.put oi.dst undef) w))
 (h2: ∀K,Hid (∀a' w',S w'→(S w'→wpAnyH P md ops Q S fuel l2 a' w')→K a' w')→(if Region.wanted oj (yielded ops a.tmps)=true then oj.wp P a w K Q else K (a.put oj.dst undef) w))
 (hi:ops[i]?=some oi:=by simp only[List.getElem?_toArray,List.getElem?_cons_succ,List.getElem?_cons_zero];rfl)
 (hj:ops[j]?=some oj:=by simp only[List.getElem?_toArray,List.getElem?_cons_succ,List.getElem?_cons_zero];rfl)
 (hr:Region.ready md ops listed=[i,j]:=by kernel_rfl)
 (e1:listed.setIfInBounds i true=l1:=by(try simp only[List.setIfInBounds_toArray,List.set_cons_zero,List.set_cons_succ]);exact rfl)
 (e2:listed.setIfInBounds j true=l2:=by(try simp only[List.setIfInBounds_toArray,List.set_cons_zero,List.set_cons_succ]);exact rfl):wpAnyH P md ops Q S (fuel+1) listed a w:=by
 refine wpAnyH_ready (rs:=[i,j]) hr (by simp) (AllReadyH.cons hi (fun K hK=> ?_) (AllReadyH.cons hj (fun K hK=> ?_) AllReadyH.nil))
 ·exact h1 K (Lib.hid fun a' w' h1 h2=>hK.out _ _ h1 (fun h3=>e1▸h2 h3))
 ·exact h2 K (Lib.hid fun a' w' h1 h2=>hK.out _ _ h1 (fun h3=>e2▸h2 h3))
theorem td {fuel:Nat}{listed:Array Bool}{a:Act}{w:World}(h:Q .normal a w)(hr:Region.ready md ops listed=[]:=by kernel_rfl):wpAnyH P md ops Q S fuel listed a w:=wpAnyH_done hr h _
end
theorem tr {P:Program}{ops:Array Oper}{Q:Exit→Act→World→Prop}(S:World→Prop){id:Nat}{a:Act}{w:World}(hS:S w.drew)(h:S w.drew→wpAnyH P .any ops Q S ops.size (Array.replicate ops.size false) a w.drew)(hm:P.follows .mixedOrders=true:=by kernel_rfl):(Code.region id ops true).wp P Q a w:=
 wp_region_held_drew hm hS h
end Go.Proofs.YtjhbeecmdgglgaaGreatDoor
namespace Go.Proofs.YtjhbeecmdgglgaaGreatDoor
open Go.RowKit
def swp (D:List Int) (a b:Nat):List Int:=(D.set a (D[b]?.getD 0)).set b (D[a]?.getD 0)
def swapK (D:List Int) (a b:Nat):Nat→List Int
 |0=>D
 |n+1=>swp (swapK D a b n) (a+n) (b+n)
theorem swp_len (D:List Int)(a b:Nat):(swp D a b).length=D.length:=by unfold swp;simp
theorem swapK_len (D:List Int)(a b:Nat): ∀n,(swapK D a b n).length=D.length
 |0=>rfl
 |n+1=>by rw[swapK,swp_len];exact swapK_len D a b n
def IRow (w:World) (g:Nat) (D:List Int) (sp:List Value):Prop:= ∃t,Blk w g t (intCells D++sp).toArray
theorem IRow.cell {w:World}{g:Nat}{D:List Int}{sp:List Value}(h:IRow w g D sp){k:Nat}{x:Int}(hk:D[k]?=some x):w.cell? ⟨g,k,none⟩=some (.int .i64 x):=by
 obtain⟨t,h⟩:=h;refine h.cell k _ ?_;have hl:=(List.getElem?_eq_some_iff.1 hk).1;rw[List.getElem?_toArray,List.getElem?_append_left (by unfold intCells;simpa using hl)];unfold intCells;rw[List.getElem?_map,hk];rfl
theorem IRow.free {w:World}{g:Nat}{D:List Int}{sp:List Value}(h:IRow w g D sp)(k:Nat):w.frozen? ⟨g,k,none⟩=false:=by
 obtain⟨t,h⟩:=h;exact h.free k
theorem IRow.set {w:World}{g:Nat}{D:List Int}{sp:List Value}(h:IRow w g D sp){k:Nat}(hk:k<D.length)(x:Int):IRow (w.setCell ⟨g,k,none⟩ (.int .i64 x)) g (D.set k x) sp:=by
 obtain⟨t,h⟩:=h;have h2:=h.set_ k (.int .i64 x);refine⟨t,?_⟩
 have e:(intCells (D.set k x)++sp).toArray=(intCells D++sp).toArray.setIfInBounds k (.int .i64 x):=by
  rw[List.setIfInBounds_toArray,List.set_append_left _ _ (by unfold intCells;simpa using hk)];unfold intCells;rw[List.map_set]
 rw[e];exact h2
theorem IRow.drew {w:World}{g:Nat}{D:List Int}{sp:List Value}(h:IRow w g D sp):IRow w.drew g D sp:=h
theorem IRow.lt {w:World}{g:Nat}{D:List Int}{sp:List Value}(h:IRow w g D sp):g<w.heap.size:=by obtain⟨t,h⟩:=h;exact h.lt
theorem turned_drew (F:Nat→Prop)(w:World):Turned F w w.drew:=⟨rfl,rfl,rfl,Nat.le_refl _,fun _ _ _=>rfl⟩
set_option maxHeartbeats 4000000 in
set_option maxRecDepth 10000 in
theorem swapRange_any (g cap a b n:Nat)(D:List Int)(sp:List Value)(cmp:Value)(w:World)(h:IRow w g D sp)(ha:a+n≤D.length)(hb:b+n≤D.length)(hl:D.length≤1073741824)(hc:D.length≤cap∧cap≤maxLen):
 Calls Tryz.prog 187 #[.slice (some ⟨g,0,none⟩) D.length cap,.int .i64 a,.int .i64 b,.int .i64 n,cmp] w fun e w'=>e= .returned (.tuple #[])∧IRow w' g (swapK D a b n) sp∧Turned (fun k=>k=g) w w':=by
 have HR:=Lib.hid h;obtain⟨hc1,hc2⟩:=hc;unfold maxLen at hc2;clear h;go_enter Tryz.func187,Tryz.ntmps187
 go_wp2_with fail
 go_loopw[10] (fun iv wr=> ∃i:Nat,i≤n∧iv= .int .i64 i∧Hid (IRow wr g (swapK D a b i) sp)∧Hid (Turned (fun k=>k=g) w wr)) (fun iv _=>n-(intOf iv).toNat)
 case atStart=>exact⟨0,by omega,rfl,HR,Lib.hid (Turned.refl _ _)⟩
 case round=>
  rename World=>wr
  obtain⟨i,hi,rfl,HI,HT⟩:=hrel;by_cases hlt:i<n
  ·have hla:a+i<(swapK D a b i).length:=by rw[swapK_len];omega
   have hlb:b+i<(swapK D a b i).length:=by rw[swapK_len];omega
   obtain⟨x,hx⟩: ∃x,(swapK D a b i)[a+i]?=some x:=⟨_,List.getElem?_eq_getElem hla⟩;obtain⟨y,hy⟩: ∃y,(swapK D a b i)[b+i]?=some y:=⟨_,List.getElem?_eq_getElem hlb⟩;have i0:(i:Int)<(n:Int):=by omega
   have j0:(0:Int)≤(a:Int)+(i:Int):=by omega
   have j1:(a:Int)+(i:Int)<(D.length:Int):=by omega
   have j2:((a:Int)+(i:Int)).toNat=a+i:=by omega
   have j3:IntKind.i64.wrap ((a:Int)+(i:Int))=(a:Int)+(i:Int):=by rw[IntKind.wrap_i64];omega
   have k3:IntKind.i64.wrap ((b:Int)+(i:Int))=(b:Int)+(i:Int):=by rw[IntKind.wrap_i64];omega
   have k0:(0:Int)≤(b:Int)+(i:Int):=by omega
   have k1:(b:Int)+(i:Int)<(D.length:Int):=by omega
   have k2:((b:Int)+(i:Int)).toNat=b+i:=by omega
   have dx:wr.drew.cell? ⟨g,a+i,none⟩=some (.int .i64 x):=HI.out.drew.cell hx;have dy:wr.drew.cell? ⟨g,b+i,none⟩=some (.int .i64 y):=HI.out.drew.cell hy;have fx:wr.drew.frozen? ⟨g,a+i,none⟩=false:=HI.out.drew.free _;have c2:=HI.out.drew.set hla y;have f2:(wr.drew.setCell ⟨g,a+i,none⟩ (.int .i64 y)).frozen? ⟨g,b+i,none⟩=false:=c2.free _;have fy:wr.drew.frozen? ⟨g,b+i,none⟩=false:=HI.out.drew.free _;have gy:wr.frozen? ⟨g,b+i,none⟩=false:=HI.out.free _;have hlb2:b+i<((swapK D a b i).set (a+i) y).length:=by rw[List.length_set];exact hlb
   obtain⟨z,hz⟩: ∃z,((swapK D a b i).set (a+i) y)[b+i]?=some z:=⟨_,List.getElem?_eq_getElem hlb2⟩;have d2:(wr.drew.setCell ⟨g,a+i,none⟩ (.int .i64 y)).cell? ⟨g,b+i,none⟩=some (.int .i64 z):=c2.cell hz;have d3:(wr.setCell ⟨g,a+i,none⟩ (.int .i64 y)).cell? ⟨g,b+i,none⟩=some (.int .i64 z):=(HI.out.set hla y).cell hz;have c3:=c2.set hlb2 x;have HC3:Hid (IRow ((wr.setCell ⟨g,a+i,none⟩ (.int .i64 y)).setCell ⟨g,b+i,none⟩ (.int .i64 x)).drew g (swapK D a b (i+1)) sp):=Lib.hid (by rw[swapK];unfold swp;rw[hx,hy];exact c3);have HT3:Hid (Turned (fun k=>k=g) w ((wr.setCell ⟨g,a+i,none⟩ (.int .i64 y)).setCell ⟨g,b+i,none⟩ (.int .i64 x)).drew):=Lib.hid (((HT.out.trans (turned_drew _ _)).trans (turned_set _ ⟨g,a+i,none⟩ _)).trans (turned_set _ ⟨g,b+i,none⟩ _));clear hla hlb hlb2 c2 c3 hx hy hz
   go_upto_region 3 with fail
   refine tr (S:=(fun _=>True)) trivial (fun hHeld=> ?_);refine tk 0 ?_;refine tk 1 ?_;refine tk 2 ?_;refine tk 3 ?_;refine tk 4 ?_;refine tk 5 ?_;refine tk 6 ?_;refine tk 7 ?_;refine tk 8 ?_;refine tk 9 ?_;refine tk 10 ?_;refine tk 11 ?_;refine tk 12 ?_;refine tk 14 ?_;refine tk 15 ?_;refine tk 16 ?_;refine tk 17 ?_;refine tk 18 ?_;refine tc2 13 19 ?_ ?_;intro K hK;go_simp;refine hK.out _ _ trivial (fun hHeld13=> ?_);clear hK K;refine tc 19 ?_;intro K hK;go_simp;refine hK.out _ _ trivial (fun hHeld19=> ?_);clear hK K;refine tk 20 ?_;rotate_left;intro K hK;go_simp;refine hK.out _ _ trivial (fun hHeld19=> ?_);clear hK K;refine tc 13 ?_;intro K hK;go_simp;refine hK.out _ _ trivial (fun hHeld13=> ?_);clear hK K;refine tk 20 ?_
   all_goals
    refine tc 21 ?_;intro K hK;go_simp;refine hK.out _ _ trivial (fun hHeld21=> ?_);clear hK K;refine tk 22 ?_;refine tc 23 ?_;intro K hK;go_simp;refine hK.out _ _ trivial (fun hHeld23=> ?_);clear hK K;refine td ?_
   all_goals
    go_wp2_with fail
    exact⟨⟨i+1,by omega,by go_num,HC3,HT3⟩,by simp[intOf];omega⟩
  ·obtain rfl:i=n:=by omega
   go_wp2
   go_end0
   exact⟨rfl,HI.out,HT.out⟩
end Go.Proofs.YtjhbeecmdgglgaaGreatDoor
namespace Go.Proofs.YtjhbeecmdgglgaaGreatDoor
open Go.RowKit
theorem swp_two (A B C:List Int)(x y:Int):swp (A++[x]++B++[y]++C) A.length (A.length+1+B.length)=A++[y]++B++[x]++C:=by
 unfold swp
 have h1:(A++[x]++B++[y]++C)[A.length]?=some x:=by
  rw[List.append_assoc,List.append_assoc,List.append_assoc,List.getElem?_append_right (Nat.le_refl _),Nat.sub_self];rfl
 have h2:(A++[x]++B++[y]++C)[A.length+1+B.length]?=some y:=by
  rw[List.append_assoc,List.getElem?_append_right (by simp;omega)];rw[show A.length+1+B.length-(A++[x]++B).length=0 by simp;omega];rfl
 rw[h1,h2];show((A++[x]++B++[y]++C).set A.length y).set (A.length+1+B.length) x=_
 have h3:(A++[x]++B++[y]++C).set A.length y=A++[y]++B++[y]++C:=by
  rw[show A++[x]++B++[y]++C=A++(x::(B++[y]++C)) by simp,List.set_append_right _ _ (Nat.le_refl _),Nat.sub_self];simp
 rw[h3,show A++[y]++B++[y]++C=(A++[y]++B)++(y::C) by simp,List.set_append_right _ _ (by simp;omega),show A.length+1+B.length-(A++[y]++B).length=0 by simp;omega];simp
theorem swapK_parts: ∀(n:Nat) (P L M R S:List Int),L.length=n→R.length=n→swapK (P++L++M++R++S) P.length (P.length+n+M.length) n=P++R++M++L++S
 |0,P,L,M,R,S,hl,hr=>by
  rw[List.length_eq_zero_iff.1 hl,List.length_eq_zero_iff.1 hr];rfl
 |n+1,P,L,M,R,S,hl,hr=>by
  obtain⟨L',x,rfl⟩: ∃L' x,L=L'++[x]:=⟨L.dropLast,L.getLast (by intro e;rw[e]at hl;cases hl),(List.dropLast_concat_getLast _).symm⟩;obtain⟨R',y,rfl⟩: ∃L' x,R=L'++[x]:=⟨R.dropLast,R.getLast (by intro e;rw[e]at hr;cases hr),(List.dropLast_concat_getLast _).symm⟩;rw[List.length_append,List.length_singleton]at hl hr;have hl:L'.length=n:=by omega
  have hr:R'.length=n:=by omega
  have ih:=swapK_parts n P L' ([x]++M) R' ([y]++S) hl hr;rw[swapK];have e1:P++(L'++[x])++M++(R'++[y])++S=P++L'++([x]++M)++R'++([y]++S):=by simp
  have e2:P.length+(n+1)+M.length=P.length+n+([x]++M).length:=by simp;omega
  rw[e1,e2,ih];have e3:P++R'++([x]++M)++L'++([y]++S)=(P++R')++[x]++(M++L')++[y]++S:=by simp
  have e4:P.length+n=(P++R').length:=by simp;omega
  have e5:P.length+n+([x]++M).length+n=(P++R').length+1+(M++L').length:=by simp;omega
  rw[e5,e4,e3,swp_two];simp
set_option maxHeartbeats 4000000 in
set_option maxRecDepth 10000 in
theorem rotate_any (g cap:Nat)(P L R S:List Int)(sp:List Value)(cmp:Value)(w:World)(h:IRow w g (P++L++R++S) sp)(h1:0<L.length)(h2:0<R.length)(hl:(P++L++R++S).length≤1073741824)(hc:(P++L++R++S).length≤cap∧cap≤maxLen):
 Calls Tryz.prog 176 #[.slice (some ⟨g,0,none⟩) (P++L++R++S).length cap,.int .i64 P.length,.int .i64 (P++L).length,.int .i64 (P++L++R).length,cmp] w fun e w'=>e= .returned (.tuple #[])∧IRow w' g (P++R++L++S) sp∧Turned (fun k=>k=g) w w':=by
 have HSW:=Lib.hid (fun(A X M Y B:List Int) (W:World) (n:Nat) (hX:X.length=n) (hY:Y.length=n) (hN:(A++X++M++Y++B).length=(P++L++R++S).length) (hI:IRow W g (A++X++M++Y++B) sp)=>by
  have h9:=swapRange_any g cap A.length (A.length+n+M.length) n (A++X++M++Y++B) sp cmp W hI (by simp;omega) (by simp;omega) (by rw[hN];exact hl) (by rw[hN];exact hc);rw[swapK_parts n A X M Y B hX hY,hN]at h9;exact h9)
 generalize hF:P++R++L++S=F;have HI:=Lib.hid h;obtain⟨N,hN⟩: ∃N,(P++L++R++S).length=N:=⟨_,rfl⟩;obtain⟨m,hm⟩: ∃m,(P++L).length=m:=⟨_,rfl⟩;obtain⟨a,ha⟩: ∃m,P.length=m:=⟨_,rfl⟩;obtain⟨b,hb⟩: ∃m,(P++L++R).length=m:=⟨_,rfl⟩;have la:L.length=m-a∧a<m:=by rw[List.length_append]at hm;omega
 have lb:R.length=b-m∧m<b:=by rw[List.length_append]at hb;omega
 have lN:b≤N:=by rw[List.length_append]at hN;omega
 rw[hN]at HSW hl hc⊢;rw[hm,hb,ha];have HST:Hid (∃A X Y B,IRow w g (A++X++Y++B) sp∧A++Y++X++B=F∧(A++X).length=m∧X.length=m-a∧Y.length=b-m∧(A++X++Y++B).length=N):=Lib.hid ⟨P,L,R,S,HI.out,hF,hm,la.1,lb.1,hN⟩;clear h h1 h2 hN hm ha hb hF HI;have wr1:IntKind.i64.wrap ((m:Int)-(a:Int))=((m-a:Nat):Int):=by rw[IntKind.wrap_i64];omega
 have wr2:IntKind.i64.wrap ((b:Int)-(m:Int))=((b-m:Nat):Int):=by rw[IntKind.wrap_i64];omega
 go_enter Tryz.func176,Tryz.ntmps176
 go_wp2_with fail
 go_loopw[10,11] (fun iv jv wr=> ∃i j:Nat,0<i∧0<j∧i≤m∧m+j≤N∧iv= .int .i64 i∧jv= .int .i64 j∧Hid (∃A X Y B,IRow wr g (A++X++Y++B) sp∧A++Y++X++B=F∧(A++X).length=m∧X.length=i∧Y.length=j∧(A++X++Y++B).length=N)∧Hid (Turned (fun k=>k=g) w wr)) (fun iv jv _=>(intOf iv).toNat+(intOf jv).toNat)
 case atStart=>exact⟨m-a,b-m,by omega,by omega,by omega,by omega,rfl,rfl,HST,Lib.hid (Turned.refl _ _)⟩
 case round=>
  rename World=>wr
  obtain⟨i,j,i0,j0,im,jn,rfl,rfl,HP,HT⟩:=hrel;obtain⟨A,X,Y,B,hI,hF,hm,hX,hY,hN⟩:=HP.out;have hAm:A.length+i=m:=by rw[List.length_append]at hm;omega
  have q1:IntKind.i64.wrap ((m:Int)-(i:Int))=(A.length:Int):=by rw[IntKind.wrap_i64];omega
  by_cases hij:i=j
  ·subst hij
   have qe:((i:Int) !=(i:Int))=false:=by simp
   have HC:=Lib.hid (HSW.out A X [] Y B wr i hX hY (by simpa using hN) (by simpa using hI));rw[show A.length+i+([]:List Int).length=m by simp;omega]at HC;have HE:Hid (A++Y++[]++X++B=F):=Lib.hid (by simpa using hF);clear hI hF hm hX hY hN HP
   go_wp2_with fail
   refine Calls.mono (by with_reducible exact HC.out) ?_;rintro e w2 ⟨rfl,h2,ht2⟩;rw[HE.out]at h2;have HT2:=HT.out.trans ht2;go_wp2
   go_end0
   exact⟨rfl,h2,HT2⟩
  ·have qe:((i:Int) !=(j:Int))=true:=by simp;omega
   by_cases hlt:j<i
   ·have hlt':(j:Int)<(i:Int):=by omega
    obtain⟨X1,X2,rfl,hx1⟩: ∃X1 X2,X=X1++X2∧X1.length=j:=⟨X.take j,X.drop j,(List.take_append_drop _ _).symm,by rw[List.length_take];omega⟩;rw[List.length_append]at hX;have HC:=Lib.hid (HSW.out A X1 X2 Y B wr j hx1 hY (by simpa using hN) (by simpa using hI));rw[show A.length+j+X2.length=m by omega]at HC;have q2:IntKind.i64.wrap ((i:Int)-(j:Int))=((i-j:Nat):Int):=by rw[IntKind.wrap_i64];omega
    have HN2:Hid (∀W,IRow W g (A++Y++X2++X1++B) sp→ ∃A X Y B,IRow W g (A++X++Y++B) sp∧A++Y++X++B=F∧(A++X).length=m∧X.length=i-j∧Y.length=j∧(A++X++Y++B).length=N):=Lib.hid (fun W hW=>⟨A++Y,X2,X1,B,hW,by rw[←hF];simp,by simp;omega,by omega,hx1,by rw[←hN];simp;omega⟩);clear hI hF hm hX hY hN HP
    go_wp2_with fail
    refine Calls.mono (by with_reducible exact HC.out) ?_;rintro e w2 ⟨rfl,h2,ht2⟩;have HP2:=Lib.hid (HN2.out _ h2);have HT2:=Lib.hid (HT.out.trans ht2);clear h2 ht2 HN2 HC
    go_wp2_with fail
    exact⟨⟨i-j,j,by omega,by omega,by omega,by omega,by go_num,rfl,HP2,HT2⟩,by simp[intOf];omega⟩
   ·have hlt': ¬(j:Int)<(i:Int):=by omega
    obtain⟨Y1,Y2,rfl,hy2⟩: ∃X1 X2,Y=X1++X2∧X2.length=i:=⟨Y.take (j-i),Y.drop (j-i),(List.take_append_drop _ _).symm,by rw[List.length_drop];omega⟩;rw[List.length_append]at hY;have HC:=Lib.hid (HSW.out A X Y1 Y2 B wr i hX hy2 (by simpa using hN) (by simpa using hI));rw[show A.length+i+Y1.length=m+j-i by omega,show((m+j-i:Nat):Int)=(m:Int)+(j:Int)-(i:Int) by omega]at HC;have q3:IntKind.i64.wrap ((m:Int)+(j:Int))=((m+j:Nat):Int):=by rw[IntKind.wrap_i64];omega
    have q4:IntKind.i64.wrap (((m+j:Nat):Int)-(i:Int))=((m+j-i:Nat):Int):=by rw[IntKind.wrap_i64];omega
    have q2:IntKind.i64.wrap ((j:Int)-(i:Int))=((j-i:Nat):Int):=by rw[IntKind.wrap_i64];omega
    have HN2:Hid (∀W,IRow W g (A++Y2++Y1++X++B) sp→ ∃A X Y B,IRow W g (A++X++Y++B) sp∧A++Y++X++B=F∧(A++X).length=m∧X.length=i∧Y.length=j-i∧(A++X++Y++B).length=N):=Lib.hid (fun W hW=>⟨A,Y2,Y1,X++B,by simpa using hW,by rw[←hF];simp,by simp;omega,hy2,by omega,by rw[←hN];simp;omega⟩);clear hI hF hm hX hY hN HP
    go_wp2_with fail
    refine Calls.mono (by with_reducible exact HC.out) ?_;rintro e w2 ⟨rfl,h2,ht2⟩;have HP2:=Lib.hid (HN2.out _ h2);have HT2:=Lib.hid (HT.out.trans ht2);clear h2 ht2 HN2 HC
    go_wp2_with fail
    exact⟨⟨i,j-i,by omega,by omega,by omega,by omega,rfl,by go_num,HP2,HT2⟩,by simp[intOf];omega⟩
end Go.Proofs.YtjhbeecmdgglgaaGreatDoor
