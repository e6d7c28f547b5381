/-Small words on worlds that every later text uses: a slice whose cells are known, how that is kept, and append onto a row of the call's own. How argume -/
import Derived.Test.YtjodlngbiikgfaaGreatDoorRows
import Derived.WalkKit
import Derived.WalkSpells
import Derived.WalkLawsBesides
import Derived.Deep.QuietTactic
import Derived.BigQuiet
import Derived.Lib.Hide
import Derived.Deep.Draws
import Derived.Deep.AppendLies
import Derived.Laws.OwnMore
import Derived.Laws.AppendOwnNone
import Derived.Deep.RegionHeld3
import Derived.Deep.RegionLaw
import Derived.Deep.LoopGhost
import Derived.Deep.DeepCutAuto
import Derived.ProofKit
import Derived.OpenShut
import Derived.Deep.Slices
import Derived.Deep.Strs
set_option linter.unusedSimpArgs false
set_option linter.unusedVariables false
namespace Go.Proofs.YtjodlngbiikgfaaGreatDoor
open Go.RowKit
theorem ret_bool {a b:Bool}(h:a=b):Ending.returned (.bool a)= .returned (.bool b):=by rw[h]
theorem ret_int {a b:Int}(h:a=b):Ending.returned (.int .i64 a)= .returned (.int .i64 b):=by rw[h]
def Sl (w:World) (v:Value) (n:Nat) (cs:List Value):Prop:=
 ∃A c,v= .slice A n c∧n≤c∧c≤maxLen∧(A=none→c=0)∧(cs≠[]→ ∃b off,A=some ⟨b,off,none⟩∧ ∀j u,cs[j]?=some u→w.cell? ⟨b,off+j,none⟩=some u)
theorem cell_below {w w':World}(hb:Below w.heap.size w w'){p:Addr}{u:Value}(h:w.cell? p=some u):w'.cell? p=some u:=
 (hb.cell (World.block_lt_of_cell? w p h)).trans h
theorem Sl.keep {w w':World}{v:Value}{n:Nat}{cs:List Value}(h:Sl w v n cs)(hk: ∀p u,w.cell? p=some u→w'.cell? p=some u):Sl w' v n cs:=by
 obtain⟨A,c,hv,h1,h2,h0,h3⟩:=h;refine⟨A,c,hv,h1,h2,h0,fun hne=> ?_⟩;obtain⟨b,off,hA,hc⟩:=h3 hne;exact⟨b,off,hA,fun j u hj=>hk _ _ (hc j u hj)⟩
theorem Sl.below {w w':World}{v:Value}{n:Nat}{cs:List Value}(h:Sl w v n cs)(hb:Below w.heap.size w w'):Sl w' v n cs:=
 h.keep fun _ _ hp=>cell_below hb hp
theorem Sl.setCell {w:World}{v:Value}{n:Nat}{cs:List Value}(h:Sl w v n cs){p:Addr}(hp: ∀k,v.ownBlock=some k→k≠p.block)(u:Value):Sl (w.setCell p u) v n cs:=by
 obtain⟨A,c,rfl,h1,h2,h0,h3⟩:=h;refine⟨A,c,rfl,h1,h2,h0,fun hne=> ?_⟩;obtain⟨b,off,rfl,hc⟩:=h3 hne;refine⟨b,off,rfl,fun j x hj=> ?_⟩;rw[World.cell?_of_block (Below.heap_setCell w p u b (hp b rfl))];exact hc j x hj
theorem Sl.drew {w:World}{v:Value}{n:Nat}{cs:List Value}(h:Sl w v n cs):Sl w.drew v n cs:=h
theorem Sl.drewN {w:World}{v:Value}{n:Nat}{cs:List Value}(h:Sl w v n cs)(m:Nat):Sl (w.drewN m) v n cs:=h
theorem fresh_some {B g n c:Nat}(h:B≤g): ∀k,(Value.slice (some ⟨g,0,none⟩) n c).ownBlock=some k→B≤k:=by
 intro k hk;simp[Value.ownBlock]at hk;omega
theorem Sl.nil_ (w:World):Sl w (.slice none 0 0) 0 []:=⟨none,0,rfl,Nat.le_refl _,by decide,fun _=>rfl,fun h=>absurd rfl h⟩
theorem Sl.of_own {w:World}{base:Nat}{e:TypeId}{size:Nat}{v:Value}{n:Nat}{xs:List Value}(h:w.ownsRow base e size v n xs):Sl w v n xs:=by
 have hx:=h.1;rcases h.2 with⟨rfl,rfl⟩|⟨g,cap,cur,rfl,_,hh,hn,hc,_⟩
 ·have:xs=[]:=List.eq_nil_of_length_eq_zero (by simpa using hx)
  subst this;exact Sl.nil_ w
 ·refine⟨_,cap,rfl,hn,hc,(fun h=>by cases h),fun _=>⟨g,0,rfl,fun j u hj=> ?_⟩⟩
  have:=h.cells (g:=g) rfl j u hj;unfold Addr.add at this;split at this
  ·rename_i h0;subst h0;simpa using this
  ·simpa using this
theorem Sl.drop {w:World}{size:Nat}{A:Option Addr}{n c k:Nat}{cs:List Value}(h:Sl w (.slice A n c) n cs)(hl:cs.length=n*size)(hk:k≤n):
 Sl w (.slice (if c=k then A else A.map (·.add (k*size))) (n-k) (c-k)) (n-k) (cs.drop (k*size)):=by
 obtain⟨A',c',hv,h1,h2,h0,h3⟩:=h;injection hv with e1 e2 e3;subst e1 e3;refine⟨_,_,rfl,by omega,by omega,?_,fun hne=> ?_⟩
 ·intro hn
  split at hn
  ·have:=h0 hn;omega
  ·have:=h0 (by simpa using hn);omega
 ·have hlt:k<n:=by
   rcases Nat.lt_or_ge k n with h|h
   ·exact h
   ·exfalso
    apply hne;apply List.drop_eq_nil_of_le;rw[hl];exact Nat.mul_le_mul_right _ h
  obtain⟨b,off,rfl,hc⟩:=h3 (by rintro rfl;simp at hne);rw[if_neg (by omega)];refine⟨b,off+k*size,?_,fun j u hj=> ?_⟩
  ·simp only[Option.map_some,Addr.add]
   split
   ·rename_i h;rw[h];rfl
   ·rfl
  ·rw[Nat.add_assoc]
   exact hc _ u (by rw[List.getElem?_drop]at hj;exact hj)
theorem Sl.take {w:World}{size:Nat}{A:Option Addr}{n c k:Nat}{cs:List Value}(h:Sl w (.slice A n c) n cs)(hk:k≤n):
 Sl w (.slice A k c) k (cs.take (k*size)):=by
 obtain⟨A',c',hv,h1,h2,h0,h3⟩:=h;injection hv with e1 e2 e3;subst e1 e3;refine⟨_,_,rfl,by omega,h2,h0,fun hne=> ?_⟩;obtain⟨b,off,rfl,hc⟩:=h3 (by rintro rfl;simp at hne);refine⟨b,off,rfl,fun j u hj=>hc j u ?_⟩;rw[List.getElem?_take]at hj;split at hj
 ·exact hj
 ·cases hj
theorem below_alloc (w:World)(o:Obj):Below w.heap.size w (w.alloc o):=(Below.refl _ _).alloc (Nat.le_refl _) o
theorem below_drewN {B:Nat}{a w:World}(h:Below B a w)(n:Nat):Below B a (w.drewN n):=⟨h.os,h.tape,h.output,h.size,h.block⟩
theorem below_trans {a b c:World}(h:Below a.heap.size a b)(k:Below b.heap.size b c):Below a.heap.size a c:=h.trans (k.mono h.size)
theorem below_grown {a w w':World}{row:Option Nat}(h:Below a.heap.size a w)(hg:w.grownBy w' row)(hr: ∀k,row=some k→a.heap.size≤k):Below a.heap.size a w':=h.grown hg h.size hr
theorem own_ge {w:World}{base:Nat}{e:TypeId}{size:Nat}{v:Value}{n:Nat}{xs:List Value}(h:w.ownsRow base e size v n xs): ∀k,v.ownBlock=some k→base≤k:=fun k hk=>(h.lt k hk).1
def EInfo (P:Program) (e:TypeId) (size bytes:Nat):Prop:=
 ∃i z,P.info? e=some i∧i.zero=some z∧i.size=size∧i.bytes=bytes∧z.cells.size=size∧0<size
section
variable {P:Program} {w:World}
theorem run_app (base:Nat)(t ty e:TypeId)(size bytes:Nat)(ht:P.underlying t=some (.slice e))(hi:EInfo P e size bytes)
 (v:Value) (n:Nat) (xs:List Value) (hown:w.ownsRow base e size v n xs) (sv:Value) (m:Nat) (news:List Value) (hs:Sl w sv m news) (hl:news.length=m*size) (h1: ∀u∈news,u.oneCell'=true)
 (h63:n+m≤maxLen) (hbytes:(n+m)*bytes≤140737488355328) (hbase:base≤w.heap.size):
 ∃v' w',(Builtin.append_ #[t,t] ty #[v,sv]).run P w= .ok v' w'∧w'.ownsRow base e size v' (n+m) (xs++news)∧w.grownBy w' v.ownBlock∧(v'.ownBlock=v.ownBlock∨v'.ownBlock=some w.heap.size):=by
 obtain⟨i,z,hi,hz,hz1,hz2,hz3,hsz⟩:=hi;obtain⟨A,c,rfl,hmc,_,h0,h3⟩:=hs;rcases A with _|ad
 ·have hc:=h0 rfl
  subst hc;have hm:m=0:=by omega
  subst hm;have hn:news=[]:=List.eq_nil_of_length_eq_zero (by simpa using hl);subst hn;exact⟨v,w,run_append_owned_none (P:=P) (w:=w) base t ty e i size ht hi v n xs hown,by simpa using hown,World.grownBy.refl w _,.inl rfl⟩
 ·have hcells: ∀j u,news[j]?=some u→w.cell? (ad.add j)=some u:=by
   intro j u hu;obtain⟨b,off,hA,hc⟩:=h3 (by rintro rfl;simp at hu);injection hA with hA;subst hA;have:=hc j u hu;unfold Addr.add;split
   ·rename_i h;subst h;exact this
   ·exact this
  obtain⟨v',w',hrun,h2,h4,_,h5⟩:=run_append_own_at (P:=P) (w:=w) base t ty e i z size bytes ht hi hz hz1 hz2 hz3 hsz v n xs hown ad m c news hl hcells h1 h63 hbytes hbase;exact⟨v',w',hrun,h2,h4,h5⟩
theorem wp_app {o:Oper}{a:Act}{K:Act→World→Prop}{Q:Exit→Act→World→Prop}(s x:Operand)(t:TypeId)
 (ho:o.op= .call {callee:= .builtin .append,args:= #[s,x],argTypes:= #[t,t]})
 (base:Nat) (e:TypeId) (size bytes:Nat) (ht:P.underlying t=some (.slice e)) (hi:EInfo P e size bytes)
 (v:Value) (n:Nat) (xs:List Value) (hv:a.eval s=v) (hown:w.ownsRow base e size v n xs) (sv:Value) (m:Nat) (news:List Value) (hx:a.eval x=sv) (hs:Sl w sv m news) (hl:news.length=m*size) (h1: ∀u∈news,u.oneCell'=true)
 (h63:n+m≤maxLen) (hbytes:(n+m)*bytes≤140737488355328) (hbase:base≤w.heap.size)
 (h: ∀v' w',w'.ownsRow base e size v' (n+m) (xs++news)→w.grownBy w' v.ownBlock→(v'.ownBlock=v.ownBlock∨v'.ownBlock=some w.heap.size)→K (a.put o.dst v') w'):o.wp P a w K Q:=by
 obtain⟨v',w',hrun,h2,h3,h4⟩:=run_app (P:=P) (w:=w) base t o.type e size bytes ht hi v n xs hown sv m news hs hl h1 h63 hbytes hbase;unfold Oper.wp execOp;simp only[ho,resolve,invoke,builtin,Sem.run_bind,Sem.run_pure,Result.andThen_ok,List.map_toArray,List.map_cons,List.map_nil,hv,hx,hrun];exact h v' w' h2 h3 h4
theorem wpList_app {ops:Array Oper}{rest:List Oper}{o:Oper}{a:Act}{Q:Exit→Act→World→Prop}(hgd:o.guard=none)(s x:Operand)(t:TypeId)
 (ho:o.op= .call {callee:= .builtin .append,args:= #[s,x],argTypes:= #[t,t]})
 (base:Nat) (e:TypeId) (size bytes:Nat) (ht:P.underlying t=some (.slice e)) (hi:EInfo P e size bytes)
 (v:Value) (n:Nat) (xs:List Value) (hv:a.eval s=v) (hown:w.ownsRow base e size v n xs) (sv:Value) (m:Nat) (news:List Value) (hx:a.eval x=sv) (hs:Sl w sv m news) (hl:news.length=m*size) (h1: ∀u∈news,u.oneCell'=true)
 (h63:n+m≤maxLen) (hbytes:(n+m)*bytes≤140737488355328) (hbase:base≤w.heap.size)
 (h: ∀v' w',w'.ownsRow base e size v' (n+m) (xs++news)→w.grownBy w' v.ownBlock→(v'.ownBlock=v.ownBlock∨v'.ownBlock=some w.heap.size)→wpList P ops Q rest (a.put o.dst v') w'):wpList P ops Q (o::rest) a w:=
 wpList_plain hgd fun _ hK=>wp_app s x t ho base e size bytes ht hi v n xs hv hown sv m news hx hs hl h1 h63 hbytes hbase fun v' w' h2 h3 h4=>hK _ _ (h v' w' h2 h3 h4)
theorem Sl.block {w:World}{g:Nat}{cs:Array Value}{t:TypeId}(hb:w.heap[g]?=some (.cells cs t (0,0)))(n c:Nat)(hn:n≤c)(hc:c≤maxLen):Sl w (.slice (some ⟨g,0,none⟩) n c) n cs.toList:=
 ⟨_,c,rfl,hn,hc,(fun h=>by cases h),fun _=>⟨g,0,rfl,fun j u hj=>by
   have:=World.news_of_block hb j u hj;unfold Addr.add at this;split at this
   ·rename_i h0;subst h0;simpa using this
   ·simpa using this⟩⟩
end
def Blk (w:World) (g:Nat) (t:TypeId) (cs:Array Value):Prop:=w.heap[g]?=some (.cells cs t (0,0))
theorem Blk.lt {w:World}{g:Nat}{t:TypeId}{cs:Array Value}(h:Blk w g t cs):g<w.heap.size:=by
 rcases Nat.lt_or_ge g w.heap.size with hlt|hge
 ·exact hlt
 ·unfold Blk at h;rw[Array.getElem?_eq_none hge]at h;cases h
theorem Blk.cell {w:World}{g:Nat}{t:TypeId}{cs:Array Value}(h:Blk w g t cs)(i:Nat)(u:Value)(hi:cs[i]?=some u):w.cell? ⟨g,i,none⟩=some u:=by rw[cell_of_row w g i cs t (0,0) h,hi]
theorem Blk.free {w:World}{g:Nat}{t:TypeId}{cs:Array Value}(h:Blk w g t cs)(i:Nat):w.frozen? ⟨g,i,none⟩=false:=by
 unfold Blk at h;simp[World.frozen?,h]
theorem Blk.below {w w':World}{g:Nat}{t:TypeId}{cs:Array Value}(h:Blk w g t cs)(hb:Below w.heap.size w w'):Blk w' g t cs:=(hb.block g h.lt).trans h
theorem Blk.new (w:World)(t:TypeId)(cs:Array Value):Blk (w.alloc (.cells cs t)) w.heap.size t cs:=heap_alloc_new w _
theorem Blk.alloc {w:World}{g:Nat}{t:TypeId}{cs:Array Value}(h:Blk w g t cs)(o:Obj):Blk (w.alloc o) g t cs:=h.below (below_alloc w o)
theorem Blk.drewN {w:World}{g:Nat}{t:TypeId}{cs:Array Value}(h:Blk w g t cs)(n:Nat):Blk (w.drewN n) g t cs:=h
theorem Blk.drew {w:World}{g:Nat}{t:TypeId}{cs:Array Value}(h:Blk w g t cs):Blk w.drew g t cs:=h
theorem Blk.far {w:World}{g:Nat}{t:TypeId}{cs:Array Value}(h:Blk w g t cs){p:Addr}(hp:g≠p.block)(u:Value):Blk (w.setCell p u) g t cs:=(Below.heap_setCell w p u g hp).trans h
theorem Blk.set_ {w:World}{g:Nat}{t:TypeId}{cs:Array Value}(h:Blk w g t cs)(i:Nat)(u:Value):Blk (w.setCell ⟨g,i,none⟩ u) g t (cs.setIfInBounds i u):=by
 unfold Blk at h⊢;simp[World.setCell,Array.getElem?_modify,h]
theorem Blk.grown {w w':World}{g:Nat}{t:TypeId}{cs:Array Value}(h:Blk w g t cs){row:Option Nat}(hb:w.grownBy w' row)(hg:row≠some g):Blk w' g t cs:=(hb.block g h.lt (fun e=>hg e.symm)).trans h
theorem new_first (w:World)(t:TypeId)(cs:Array Value)(o:Obj):Blk ((w.alloc (.cells cs t)).alloc o) w.heap.size t cs:=(Blk.new w t cs).alloc o
theorem new_second (w:World)(t:TypeId)(cs:Array Value)(o:Obj):Blk ((w.alloc o).alloc (.cells cs t)) (w.heap.size+1) t cs:=by
 have:=Blk.new (w.alloc o) t cs;rwa[World.size_alloc]at this
def intCells (l:List Int):List Value:=l.map (.int .i64)
theorem int_at {w:World}{l:List Int}{v:Value}(h:Sl w v l.length (intCells l)){A:Option Addr}{n c:Nat}(hv:v= .slice A n c){k:Nat}(hk:k<l.length):
 ∃b off,A=some ⟨b,off,none⟩∧b<w.heap.size∧ ∀w',Below w.heap.size w w'→w'.cell? ⟨b,off+k,none⟩=some (.int .i64 (l.getD k 0)):=by
 obtain⟨A',c',hv',h1,h2,-,h3⟩:=h;rw[hv]at hv';injection hv' with e1 e2 e3;subst e1;have a1:(intCells l)[k]?=some (.int .i64 (l.getD k 0)):=by simp[intCells,hk]
 obtain⟨b,off,hA,hc⟩:=h3 (by intro h0;rw[h0]at a1;simp at a1);have c1:=hc _ _ a1;exact⟨b,off,hA,World.block_lt_of_cell? w _ c1,fun w' hb=>cell_below hb c1⟩
end Go.Proofs.YtjodlngbiikgfaaGreatDoor
namespace Go.Proofs.YtjodlngbiikgfaaGreatDoor
open Go.ChangeShapes Go.WideShapes Go.RowKit Go.Deep
theorem flat_at {α:Type}{f:α→List Value}{size:Nat}(hf: ∀a,(f a).length=size)(l:List α)(i j:Nat)(hj:j<size):(l.flatMap f)[i*size+j]?=(l[i]?).bind fun a=>(f a)[j]?:=by
 induction l generalizing i with
 |nil=>simp
 |cons a l ih=>
  rw[List.flatMap_cons,List.getElem?_append,hf a];cases i with
  |zero=>simp[hj]
  |succ i=>
   have e:(i+1)*size+j-size=i*size+j:=by rw[Nat.add_mul];omega
   rw[if_neg (by rw[Nat.add_mul];omega),e,ih];simp
theorem flat_len {α:Type}{f:α→List Value}{size:Nat}(hf: ∀a,(f a).length=size)(l:List α):(l.flatMap f).length=l.length*size:=by
 induction l with
 |nil=>simp
 |cons a l ih=>rw[List.flatMap_cons,List.length_append,hf a,ih,List.length_cons,Nat.add_mul];omega
section
variable {H:Type} {enc:TypeId×Value→H} {P:Program} {w:World} {base:Nat} {spare:Nat→Bool} {held:Bool}
theorem open_flat {t e:TypeId}{fuel:Nat}{cs:List Value}{x:DataW H×List MemPlace}{α:Type}{f:α→List Value}{size:Nat}(hf: ∀a,(f a).length=size)(h0:0<size)
 (ht:P.underlying t=some (.slice e)) (hC:P.cellsOf e=size) (hel: ∀fuel cs x,DataW.trod enc P w base spare held fuel e cs=some x→ ∃a,cs=f a)
 (h:DataW.trod enc P w base spare held fuel t cs=some x): ∃(v:Value) (l:List α),cs=[v]∧Sl w v l.length (l.flatMap f):=by
 rcases open_slice ht h with⟨h0,-⟩|⟨a,len,cap,m,n,D,Pl,rfl,-,hl,hm,hmm,-,hi⟩
 ·exact⟨_,[],h0,Sl.nil_ w⟩
 ·have hlm:len≤m:=by rw[hmm];split<;>omega
  have hall: ∀i:Fin len,∃y:α,∀j,j<size→w.cell? (a.add (i.val*size+j))=(f y)[j]?:=by
   intro i;obtain⟨cs',hc,ht'⟩:=hi i.val (by omega);obtain⟨y,rfl⟩:=hel _ _ _ ht';obtain⟨-,-,hat⟩:=World.cells?_some hc;refine⟨y,fun j hj=> ?_⟩;have:=hat j (by rw[hC];exact hj);rw[hC,Go.Deep.add_add]at this;exact this
  obtain⟨g,hg⟩:=Classical.axiomOfChoice hall;refine⟨_,List.ofFn g,rfl,?_⟩;rw[List.length_ofFn];refine⟨_,_,rfl,hl,hm,(fun h=>by cases h),fun hne=> ?_⟩
  have hlen:0<len:=by
   rcases Nat.eq_zero_or_pos len with h1|h1
   ·subst h1;simp at hne
   ·exact h1
  obtain⟨b,off,spot⟩:=a;have hc0:=hg ⟨0,hlen⟩ 0 h0;rw[List.getElem?_eq_getElem (by rw[hf];exact h0)]at hc0;have hs:spot=none:=by simpa[Addr.add]using World.cell?_spot hc0
  subst hs;refine⟨b,off,rfl,fun j u hj=> ?_⟩
  have hq:j<len*size:=by
   have:=(List.getElem?_eq_some_iff.1 hj).1;rw[flat_len hf,List.length_ofFn]at this;exact this
  have hdiv:j/ size<len:=by rw[Nat.div_lt_iff_lt_mul h0];exact hq
  have hmod:j%size<size:=Nat.mod_lt _ h0;have hjj:j=j/ size*size+j%size:=by rw[Nat.mul_comm];exact(Nat.div_add_mod j size).symm
  rw[hjj,flat_at hf _ _ _ hmod,List.getElem?_ofFn,dif_pos hdiv]at hj;simp only[Option.bind_some]at hj;have:=hg ⟨j/ size,hdiv⟩ (j%size) hmod;rw[hj,←hjj]at this;unfold Addr.add at this;split at this
  ·rename_i h0;rw[h0];exact this
  ·exact this
end
end Go.Proofs.YtjodlngbiikgfaaGreatDoor
namespace Go.Proofs.YtjodlngbiikgfaaGreatDoor
open Go.RowKit
structure Val where
 k:Int
 n:Int
 s:ByteArray
def Val.cells (v:Val):List Value:=[.int .i64 v.k,.int .i64 v.n,.string v.s]
theorem Val.cells_len (v:Val):v.cells.length=3:=rfl
def Val.agg (v:Val):Value:= .agg #[.int .i64 v.k,.int .i64 v.n,.string v.s]
def rowCells (l:List Val):List Value:=l.flatMap Val.cells
def Val.ok (v:Val):Prop:= -9223372036854775808≤v.k∧v.k≤9223372036854775807∧ -9223372036854775808≤v.n∧v.n≤9223372036854775807∧v.s.size≤9223372036854775807
def checkV (v:Val):Int:=
 if v.k=0 then(if v.n≠0∨v.s.toList.isEmpty=false then 1 else 0)
 else if v.k=1 then(if(v.n≠0∧v.n≠1)∨v.s.toList.isEmpty=false then 1 else 0)
 else if v.k=2 then(if v.s.toList.isEmpty=false then 1 else 0)
 else if v.k=3 then(if v.n≠0 then 1 else if 64<v.s.size then 2 else 0)
 else 4
set_option maxRecDepth 100000 in
theorem run_eq_val (k n k' n':Int)(s s':ByteArray)(W:World):(Op.equalIn 10000 114 (.agg #[.int .i64 k,.int .i64 n,.string s]) (.agg #[.int .i64 k',.int .i64 n',.string s'])).run Tryz.prog W= .ok (k==k'&&(n==n'&&s.toList==s'.toList)) W:=by
 cases h1:k==k'<;>cases h2:n==n'<;>cases h3:s.toList==s'.toList<;>go_simp
theorem run_neq_val (k n k' n':Int)(s s':ByteArray)(W:World):(binOp .neq 114 (.agg #[.int .i64 k,.int .i64 n,.string s]) (.agg #[.int .i64 k',.int .i64 n',.string s'])).run Tryz.prog W= .ok (.bool (!(k==k'&&(n==n'&&s.toList==s'.toList)))) W:=by
 rw[run_neq_struct,run_eq_val];rfl
theorem beqT {a b:Int}(h:a=b):(a==b)=true:=by simp[h]
theorem beqF {a b:Int}(h:a≠b):(a==b)=false:=by simp[h]
theorem bneT {a b:Int}(h:a≠b):(a != b)=true:=by simp[h]
theorem val_cases (v:Val):
 (v.k=0∧v.n≠0∧checkV v=1)∨(v.k=0∧v.n=0∧v.s.toList.isEmpty=false∧checkV v=1)∨(v.k=0∧v.n=0∧v.s.toList.isEmpty=true∧checkV v=0)∨
 (v.k=1∧v.n≠0∧v.n≠1∧checkV v=1)∨(v.k=1∧v.n=0∧v.s.toList.isEmpty=false∧checkV v=1)∨(v.k=1∧v.n=0∧v.s.toList.isEmpty=true∧checkV v=0)∨
 (v.k=1∧v.n=1∧v.s.toList.isEmpty=false∧checkV v=1)∨(v.k=1∧v.n=1∧v.s.toList.isEmpty=true∧checkV v=0)∨
 (v.k=2∧v.s.toList.isEmpty=false∧checkV v=1)∨(v.k=2∧v.s.toList.isEmpty=true∧checkV v=0)∨
 (v.k=3∧v.n≠0∧checkV v=1)∨(v.k=3∧v.n=0∧64<v.s.size∧checkV v=2)∨(v.k=3∧v.n=0∧v.s.size≤64∧checkV v=0)∨
 (v.k<0∧checkV v=4)∨(3<v.k∧checkV v=4):=by
 unfold checkV;by_cases h0:v.k=0
 ·by_cases hn:v.n=0<;>cases hs:v.s.toList.isEmpty<;>simp[h0,hn]
 ·by_cases h1:v.k=1
  ·by_cases hn:v.n=0
   ·cases hs:v.s.toList.isEmpty<;>simp[h1,hn]
   ·by_cases hm:v.n=1
    ·cases hs:v.s.toList.isEmpty<;>simp[h1,hm]
    ·simp[h1,hn,hm]
  ·by_cases h2:v.k=2
   ·cases hs:v.s.toList.isEmpty<;>simp[h2]
   ·by_cases h3:v.k=3
    ·by_cases hn:v.n=0
     ·by_cases hz:64<v.s.size
      ·simp[h3,hn,hz]
      ·simp[h3,hn,hz];omega
     ·simp[h3,hn]
    ·have:v.k<0∨3<v.k:=by omega
     simp[h0,h1,h2,h3];exact this
set_option maxHeartbeats 4000000 in
set_option maxRecDepth 10000 in
theorem check_val (v:Val)(w:World)(hs:v.s.size≤9223372036854775807):
 Calls Tryz.prog 114 #[.agg #[.int .i64 v.k,.int .i64 v.n,.string v.s]] w fun e w'=>e= .returned (.int .i64 (checkV v))∧Below w.heap.size w w':=by
 obtain⟨k,n,s⟩:=v;have hne:=fun a b=>run_neq_val a n b 0 ⟨#[]⟩ ⟨#[]⟩;have H:=val_cases ⟨k,n,s⟩;simp only at H hs⊢;generalize checkV ⟨k,n,s⟩=c at H⊢;rcases H with⟨h1,h2,rfl⟩|⟨h1,h2,h3,rfl⟩|⟨h1,h2,h3,rfl⟩|⟨h1,h2,h3,rfl⟩|⟨h1,h2,h3,rfl⟩|⟨h1,h2,h3,rfl⟩|⟨h1,h2,h3,rfl⟩|⟨h1,h2,h3,rfl⟩|⟨h1,h3,rfl⟩|⟨h1,h3,rfl⟩|⟨h1,h2,rfl⟩|⟨h1,h2,h3,rfl⟩|⟨h1,h2,h3,rfl⟩|⟨h1,rfl⟩|⟨h1,rfl⟩
 all_goals
  first|subst h1|skip
  first|subst h2|(have hb2:=beqF h2)|skip
  go_enter Tryz.func114,Tryz.ntmps114
  go_wp2;go_ret;exact⟨rfl,(below_alloc _ _).alloc (by simp) _⟩
def ordI (a b:Int):Int:=if a<b then-1 else if b<a then 1 else 0
set_option maxHeartbeats 400000 in
set_option maxRecDepth 10000 in
theorem isnan_any (a:Int)(w:World):Calls Tryz.prog 169 #[.int .i64 a] w fun e w'=>e= .returned (.bool false)∧w=w':=by
 go_enter Tryz.func169,Tryz.ntmps169
 go_wp2;go_ret;exact⟨ret_bool (by simp),rfl⟩
set_option maxHeartbeats 400000 in
set_option maxRecDepth 10000 in
theorem cmp_any (a b:Int)(w:World):Calls Tryz.prog 138 #[.int .i64 a,.int .i64 b] w fun e w'=>e= .returned (.int .i64 (ordI a b))∧w=w':=by
 by_cases h1:a<b
 ·have e1:=Lib.hid (show ordI a b= -1 from if_pos h1)
  go_enter Tryz.func138,Tryz.ntmps138
  go_wp2_with (go_at_call 169;refine(isnan_any _ _).mono ?_;rintro e w' ⟨rfl,rfl⟩)
  go_ret;exact⟨by rw[e1.out];rfl,rfl⟩
 ·by_cases h2:b<a
  ·have e1:=Lib.hid (show ordI a b=1 from by unfold ordI;rw[if_neg h1,if_pos h2])
   go_enter Tryz.func138,Tryz.ntmps138
   go_wp2_with (go_at_call 169;refine(isnan_any _ _).mono ?_;rintro e w' ⟨rfl,rfl⟩)
   go_ret;exact⟨by rw[e1.out];rfl,rfl⟩
  ·have e1:=Lib.hid (show ordI a b=0 from by unfold ordI;rw[if_neg h1,if_neg h2])
   go_enter Tryz.func138,Tryz.ntmps138
   go_wp2_with (go_at_call 169;refine(isnan_any _ _).mono ?_;rintro e w' ⟨rfl,rfl⟩)
   go_ret;exact⟨by rw[e1.out];rfl,rfl⟩
end Go.Proofs.YtjodlngbiikgfaaGreatDoor
