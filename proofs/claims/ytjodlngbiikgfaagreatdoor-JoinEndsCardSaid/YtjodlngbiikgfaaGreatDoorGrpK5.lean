/-Plain law of buffers: what is wrong with one; what becomes of it. Plain law of entries: where one stands, or would stand; what is kept. The walk of th -/
import Derived.Test.YtjodlngbiikgfaaGreatDoorGrpK3
import Derived.Test.YtjodlngbiikgfaaGreatDoorGrpK4
import Derived.Test.YtjodlngbiikgfaaGreatDoorGrpK1
import Derived.SizedLaws
import Derived.Deep.Fields
import Derived.Test.YtjodlngbiikgfaaGreatDoorGrpK2
import Derived.Sort.Grow
import Derived.Lib.Walk
import Derived.Lib.SliceRun
set_option linter.unusedSimpArgs false
set_option linter.unusedVariables false
namespace Go.Proofs.YtjodlngbiikgfaaGreatDoor
open Go.Lib (compareBytes)
structure Bu where
 limit:Int
 mem:List En
 runs:List (List En)
def Bu.parts (b:Bu):List (List En):=b.mem::b.runs
def Bu.all (b:Bu):List En:=b.parts.flatten
def okE (e:En):Bool:=(keyErr e.r==0)&&((backR e.key).2==0)&&inB e.t (-1099511627776) 1099511627776&&inB e.s 0 1099511627776
def upAt (l:List En) (k:Nat):Bool:=match l[k]?,l[k+1]? with
 |some x,some y=>decide (cmpE x y<0)
 |_,_=>true
def upB (l:List En):Bool:=(List.range l.length).all (upAt l)
theorem upB_iff {l:List En}:upB l=true↔Up l:=by
 unfold upB;rw[List.all_eq_true];constructor
 ·intro h
  induction l with
  |nil=>exact .nil
  |cons x t ih=>
   have h1: ∀k∈List.range t.length,upAt t k=true:=fun k hk=>by
    have:=h (k+1) (by rw[List.mem_range]at hk⊢;simp;omega);simpa[upAt]using this
   have hU:=ih h1;refine List.pairwise_cons.2 ⟨fun y hy=> ?_,hU⟩;cases t with
   |nil=>cases hy
   |cons z u=>
    have h0:cmpE x z<0:=by
     have:=h 0 (by simp);simpa[upAt]using this
    rcases List.mem_cons.1 hy with rfl|hy
    ·exact h0
    ·exact cmpE_trans h0 ((List.pairwise_cons.1 hU).1 y hy)
 ·intro h k _
  unfold upAt;cases hx:l[k]? with
  |none=>rfl
  |some x=>
   cases hy:l[k+1]? with
   |none=>rfl
   |some y=>
    obtain⟨h1,e1⟩:=List.getElem?_eq_some_iff.1 hx;obtain⟨h2,e2⟩:=List.getElem?_eq_some_iff.1 hy;have:=List.pairwise_iff_getElem.1 h k (k+1) h1 h2 (by omega);rw[e1,e2]at this;exact decide_eq_true this
def aloneB (l:List En):Bool:=(allF [] l).2
theorem aloneB_iff {l:List En}:aloneB l=true↔Alone l:=
 ⟨fun h=>by have:=(allF_yes l [] .nil h).2;simpa using this,fun h=>allF_alone l [] .nil (by simpa using h)⟩
def sortE (l:List En):List En:=(allF [] l).1
theorem sortE_up (l:List En):Up (sortE l):=allF_up l [] .nil
theorem sortE_perm {l:List En}(h:Alone l):(sortE l).Perm l:=by
 have:=(allF_yes l [] .nil (aloneB_iff.2 h)).1;rwa[List.nil_append]at this
theorem sortE_eq {l m:List En}(h:m.Perm l)(hm:Up m):sortE l=m:=
 up_perm (sortE_up l) hm ((sortE_perm (alone_perm h hm.alone)).trans h.symm)
def checkB (b:Bu):Int:=
 if inB b.limit 1 64=false then 3 else if 4096<b.all.length∨b.limit<(b.mem.length:Int)then 2
 else if b.runs.any List.isEmpty=false∧b.parts.all upB=true∧b.all.all okE=true∧aloneB b.all=true then 0 else 1
structure GoodB (b:Bu):Prop where
 limit:1≤b.limit∧b.limit≤64
 few:b.all.length≤4096
 mem:(b.mem.length:Int)≤b.limit
 full: ∀l∈b.runs,l≠[]
 up: ∀l∈b.parts,Up l
 ok: ∀e∈b.all,okE e=true
 alone:Alone b.all
theorem check_zeroB {b:Bu}:checkB b=0↔GoodB b:=by
 unfold checkB;cases h1:inB b.limit 1 64 with
 |false=>
  rw[if_pos rfl];refine⟨fun h=>by omega,fun h=> ?_⟩;rw[inB_yes h.limit.1 h.limit.2]at h1;cases h1
 |true=>
  have hl:1≤b.limit∧b.limit≤64:=by
   refine Decidable.byContradiction fun h=> ?_;rw[inB_no (by omega)]at h1;cases h1
  rw[if_neg (by simp)];by_cases h2:4096<b.all.length∨b.limit<(b.mem.length:Int)
  ·rw[if_pos h2]
   refine⟨fun h=>by omega,fun h=> ?_⟩;have:=h.few;have:=h.mem;omega
  ·rw[if_neg h2]
   by_cases h3:b.runs.any List.isEmpty=false∧b.parts.all upB=true∧b.all.all okE=true∧aloneB b.all=true
   ·rw[if_pos h3]
    refine⟨fun _=>⟨hl,by omega,by omega,fun l hl e=> ?_,fun l hl=> ?_,fun e he=> ?_,aloneB_iff.1 h3.2.2.2⟩,fun _=>rfl⟩
    ·have:=List.any_eq_false.1 h3.1 l hl
     rw[e]at this;simp at this
    ·exact upB_iff.1 (List.all_eq_true.1 h3.2.1 l hl)
    ·exact List.all_eq_true.1 h3.2.2.1 e he
   ·rw[if_neg h3]
    refine⟨fun h=>by omega,fun h=>absurd ⟨?_,?_,?_,?_⟩ h3⟩
    ·rw[List.any_eq_false]
     intro l hl;have:=h.full l hl;cases l<;>simp_all
    ·exact List.all_eq_true.2 fun l hl=>upB_iff.2 (h.up l hl)
    ·exact List.all_eq_true.2 h.ok
    ·exact aloneB_iff.2 h.alone
def siftB (b:Bu) (f:En→List En):Bu:=⟨b.limit,b.mem.flatMap f,(b.runs.map fun l=>l.flatMap f).filter fun l=> !l.isEmpty⟩
def noB:Bu:=⟨0,[],[]⟩
def putB (b:Bu) (e:En):Bu:=if b.limit<((insE b.mem e).length:Int)then⟨b.limit,[],b.runs++[insE b.mem e]⟩else⟨b.limit,insE b.mem e,b.runs⟩
def putE (b:Bu) (e:En):Int:=if okE e=false then 1 else if isE b.all e=true then 10 else if 4096≤b.all.length then 2 else 0
def putS (b:Bu) (e:En):Bu×Int:=if checkB b≠0 then(noB,checkB b)else if putE b e≠0 then(noB,putE b e)else(putB b e,0)
def atE (key:List UInt8) (t s:Int) (e:En):Bool:=(e.key==key)&&(e.t==t)&&(e.s==s)
def meetB (b:Bu) (key:List UInt8) (t s:Int):Bu:=siftB b fun e=>[if atE key t s e=true then{e with met:=true}else e]
def takeB (b:Bu) (key:List UInt8) (t s:Int):Bu:=siftB b fun e=>if atE key t s e=true then[]else[e]
def dropB (b:Bu) (upto:Int):Bu:=siftB b fun e=>if upto<e.t then[e]else[]
def scanL (b:Bu) (key:List UInt8) (frm upto:Int):List En:=(sortE b.all).filter fun e=>(e.key==key)&&decide (frm≤e.t)&&decide (e.t≤upto)
end Go.Proofs.YtjodlngbiikgfaaGreatDoor
namespace Go.Proofs.YtjodlngbiikgfaaGreatDoor
structure PosE (l:List En) (e:En) (i:Nat):Prop where
 le:i≤l.length
 less: ∀j x,j<i→l[j]?=some x→cmpE x e<0
 more: ∀j x,i≤j→l[j]?=some x→ ¬cmpE x e<0
theorem PosE.tail {l:List En}{x e:En}{i:Nat}(h:PosE (x::l) e (i+1)):cmpE x e<0∧PosE l e i:=
 ⟨h.less 0 x (by omega) rfl,⟨by have:=h.le;simp at this;omega,fun j y hj hy=>h.less (j+1) y (by omega) (by simpa using hy),fun j y hj hy=>h.more (j+1) y (by omega) (by simpa using hy)⟩⟩
theorem insE_at {l:List En}{e:En}{i:Nat}(h:PosE l e i):insE l e=l.take i++e::l.drop i:=by
 induction l generalizing i with
 |nil=>simp[insE]
 |cons x t ih=>
  cases i with
  |zero=>
   have:=h.more 0 x (by omega) rfl;rw[insE,if_neg this];rfl
  |succ i=>
   obtain⟨h0,h1⟩:=h.tail;rw[insE,if_pos h0,ih h1];rfl
theorem isE_at {l:List En}{e:En}{i:Nat}(hU:Up l)(h:PosE l e i):isE l e=match l[i]? with|some x=>decide (cmpE x e=0)|none=>false:=by
 induction l generalizing i with
 |nil=>simp[isE]
 |cons x t ih=>
  obtain⟨hx,ht⟩:=List.pairwise_cons.1 hU;cases i with
  |zero=>
   have h0:=h.more 0 x (by omega) rfl
   have hr:isE t e=false:=by
    rw[isE_no];intro y hy;have h1:=hx y hy;intro h2
    have h3:cmpE x e=cmpE x y:=by
     have:=cmpE_same h2 x;rw[cmpE_flip e x,cmpE_flip y x,this]
    omega
   show(decide (cmpE x e=0)||isE t e)=_;rw[hr,Bool.or_false];rfl
  |succ i=>
   obtain⟨h0,h1⟩:=h.tail;show(decide (cmpE x e=0)||isE t e)=_;rw[decide_eq_false (by omega),Bool.false_or,ih ht h1];simp
theorem isE_app (a b:List En)(e:En):isE (a++b) e=(isE a e||isE b e):=List.any_append
theorem isE_flat (l:List (List En))(e:En):isE l.flatten e=l.any fun x=>isE x e:=by
 induction l with
 |nil=>rfl
 |cons a t ih=>rw[List.flatten_cons,isE_app,ih];rfl
theorem siftB_id {b:Bu}(h: ∀l∈b.runs,l≠[]):siftB b (fun e=>[e])=b:=by
 obtain⟨limit,mem,runs⟩:=b;unfold siftB
 have e1: ∀l:List En,l.flatMap (fun e=>[e])=l:=fun l=>by induction l with
  |nil=>rfl
  |cons a t ih=>rw[List.flatMap_cons,ih];rfl
 simp only[e1,List.map_id']
 congr 1
 rw[List.filter_eq_self];intro l hl;have:=h l hl;cases l<;>simp_all
theorem atE_iff {key:List UInt8}{t s:Int}{e:En}(m:Bool)(r:List Val):atE key t s e=decide (cmpE e ⟨key,t,s,r,m⟩=0):=by
 unfold atE;by_cases h:cmpE e ⟨key,t,s,r,m⟩=0
 ·rw[decide_eq_true h]
  obtain⟨h1,h2,h3⟩:=cmpE_zero.1 h;simp only at h1 h2 h3;simp[h1,h2,h3]
 ·rw[decide_eq_false h]
  cases hb:((e.key==key)&&(e.t==t)&&(e.s==s))with
  |false=>rfl
  |true=>
   simp only[Bool.and_eq_true,beq_iff_eq]at hb;exact absurd (cmpE_zero.2 ⟨hb.1.1,hb.1.2,hb.2⟩) h
end Go.Proofs.YtjodlngbiikgfaaGreatDoor
namespace Go.Proofs.YtjodlngbiikgfaaGreatDoor
open Go.RowKit
end Go.Proofs.YtjodlngbiikgfaaGreatDoor
namespace Go.Proofs.YtjodlngbiikgfaaGreatDoor
open Go.RowKit
end Go.Proofs.YtjodlngbiikgfaaGreatDoor
namespace Go.Proofs.YtjodlngbiikgfaaGreatDoor
open Go.ChangeShapes Go.WideShapes Go.RowKit Go.Deep
section
variable {H:Type} {enc:TypeId×Value→H} {P:Program} {w:World} {base:Nat} {spare:Nat→Bool} {held:Bool}
end
end Go.Proofs.YtjodlngbiikgfaaGreatDoor
namespace Go.Proofs.YtjodlngbiikgfaaGreatDoor
open Go.RowKit
structure Ent where
 v:Value
 e:En
def Ent.cells (x:Ent):List Value:=[.string (str x.e.key),.int .i64 x.e.t,.int .i64 x.e.s,x.v,.bool x.e.met]
theorem Ent.cells_len (x:Ent):x.cells.length=5:=rfl
def entCells (l:List Ent):List Value:=l.flatMap Ent.cells
def ens (l:List Ent):List En:=l.map (·.e)
structure Ents (w:World) (v:Value) (l:List Ent):Prop where
 sl:Sl w v l.length (entCells l)
 rows: ∀x∈l,Sl w x.v x.e.r.length (rowCells x.e.r)
theorem Ents.below {w w':World}{v:Value}{l:List Ent}(h:Ents w v l)(hb:Below w.heap.size w w'):Ents w' v l:=⟨h.sl.below hb,fun c hc=>(h.rows c hc).below hb⟩
theorem Ents.drew {w:World}{v:Value}{l:List Ent}(h:Ents w v l):Ents w.drew v l:=⟨h.sl,h.rows⟩
theorem Ents.nil (w:World):Ents w (.slice none 0 0) []:=⟨Sl.nil_ w,nofun⟩
structure FineE (e:En):Prop where
 row:Fine e.r
 time: -9223372036854775808≤e.t∧e.t≤9223372036854775807
 seq: -9223372036854775808≤e.s∧e.s≤9223372036854775807
 key:e.key.length≤140737488351232
 len:e.r.length≤4398046511104
theorem ent_at {w:World}{l:List Ent}{v:Value}(h:Sl w v l.length (entCells l)){A:Option Addr}{n c:Nat}(hv:v= .slice A n c){k:Nat}{x:Ent}(hk:l[k]?=some x):
 ∃b off,A=some ⟨b,off,none⟩∧b<w.heap.size∧ ∀w',Below w.heap.size w w'→
  w'.cell? ⟨b,off+k*5,none⟩=some (.string (str x.e.key))∧w'.cell? ⟨b,off+k*5+1,none⟩=some (.int .i64 x.e.t)∧w'.cell? ⟨b,off+k*5+2,none⟩=some (.int .i64 x.e.s)∧
  w'.cell? ⟨b,off+k*5+3,none⟩=some x.v∧w'.cell? ⟨b,off+k*5+4,none⟩=some (.bool x.e.met):=by
 obtain⟨A',c',hv',h1,h2,-,h3⟩:=h;rw[hv]at hv';injection hv' with e1 e2 e3;subst e1;have a0:=flat_at Ent.cells_len l k 0 (by omega);have a1:=flat_at Ent.cells_len l k 1 (by omega);have a2:=flat_at Ent.cells_len l k 2 (by omega);have a3:=flat_at Ent.cells_len l k 3 (by omega);have a4:=flat_at Ent.cells_len l k 4 (by omega);rw[hk]at a0 a1 a2 a3 a4;simp only[Option.bind_some,Nat.add_zero]at a0 a1 a2 a3 a4;obtain⟨b,off,hA,hc⟩:=h3 (by intro h0;rw[show l.flatMap Ent.cells=entCells l from rfl,h0]at a0;simp[Ent.cells]at a0);have c0:=hc _ _ a0;have c1:=hc _ _ a1;have c2:=hc _ _ a2;have c3:=hc _ _ a3;have c4:=hc _ _ a4;exact⟨b,off,hA,World.block_lt_of_cell? w _ c0,fun w' hb=>⟨cell_below hb c0,cell_below hb c1,cell_below hb c2,cell_below hb c3,cell_below hb c4⟩⟩
structure Buf where
 limit:Int
 vm:Value
 mem:List Ent
 vr:Value
 runs:List (Value×List Ent)
def Buf.bu (b:Buf):Bu:=⟨b.limit,ens b.mem,b.runs.map fun p=>ens p.2⟩
structure Buf.ok (w:World) (b:Buf):Prop where
 mem:Ents w b.vm b.mem
 sl:Sl w b.vr b.runs.length (b.runs.map (·.1))
 runs: ∀p∈b.runs,Ents w p.1 p.2
theorem Buf.ok.below {w w':World}{b:Buf}(h:b.ok w)(hb:Below w.heap.size w w'):b.ok w':=⟨h.mem.below hb,h.sl.below hb,fun p hp=>(h.runs p hp).below hb⟩
structure Buf.fit (b:Buf):Prop where
 limit: -9223372036854775808≤b.limit∧b.limit≤9223372036854775807
 mem: ∀x∈b.mem,FineE x.e
 runs: ∀p∈b.runs,∀x∈p.2,FineE x.e
 lmem:b.mem.length≤2199023255552
 lruns: ∀p∈b.runs,p.2.length≤2199023255552
 lnum:b.runs.length≤5864062014806
section
open Go.ChangeShapes Go.WideShapes Go.Deep
variable {H:Type} {enc:TypeId×Value→H} {w:World} {base:Nat} {spare:Nat→Bool} {held:Bool}
end
end Go.Proofs.YtjodlngbiikgfaaGreatDoor
namespace Go.Proofs.YtjodlngbiikgfaaGreatDoor
open Go.RowKit
open Go.Lib (compareBytes)
def Ent.agg (x:Ent):Value:= .agg #[.string (str x.e.key),.int .i64 x.e.t,.int .i64 x.e.s,x.v,.bool x.e.met]
theorem cmpE_first (a b:En):firstNZ [compareBytes a.key b.key,ordI a.t b.t,ordI a.s b.s]=cmpE a b:=by
 unfold cmpE firstNZ;by_cases h1:compareBytes a.key b.key=0
 ·by_cases h2:ordI a.t b.t=0
  ·by_cases h3:ordI a.s b.s=0
   ·simp[h1,h2,h3]
   ·simp[h1,h2,h3]
  ·simp[h1,h2]
 ·simp[h1]
set_option maxHeartbeats 2000000 in
set_option maxRecDepth 10000 in
theorem or_any (v:Value)(l:List Int)(w:World)(h:Sl w v l.length (intCells l)):
 Calls Tryz.prog 136 #[v] w fun e w'=>e= .returned (.int .i64 (firstNZ l))∧w=w':=by
 have HH:=Lib.hid h;obtain⟨A,c,rfl,h1,h2,-⟩:=h;unfold maxLen at h2;go_enter Tryz.func136,Tryz.ntmps136
 go_wp2
 go_loop [5,8] (fun _ i=> ∃k:Nat,k≤l.length∧i= .int .i64 k∧Hid (∀x∈l.take k,x=0)) (fun _ i=>l.length-(intOf i).toNat)
 case atStart=>exact⟨0,by omega,rfl,by simp[Hid]⟩
 case round=>
  obtain⟨k,hk,rfl,H⟩:=hrel;by_cases hlt:k<l.length
  ·obtain⟨b,off,rfl,-,hc⟩:=int_at HH.out rfl hlt
   have c1:=hc w (Below.refl _ _);have hg:l[k]?=some (l.getD k 0):=by simp[hlt]
   generalize l.getD k 0=n at c1 hg;have HG:=Lib.hid hg;clear hg hc;by_cases hn:n=0
   ·subst hn
    go_wp2
    go_round
    case rel=>
     refine⟨k+1,by omega,by go_num,?_⟩;show ∀x∈l.take (k+1),x=0;rw[List.take_add_one,HG.out];intro x hx;rcases List.mem_append.1 hx with hx|hx
     ·exact H.out x hx
     ·simpa using hx
    case measure=>simp[intOf];omega
   ·have hb:=beqF hn
    have e1:=Lib.hid (firstNZ_hit H.out HG.out hn);clear hn;go_wp2;go_ret;exact⟨by rw[e1.out];rfl,rfl⟩
  ·obtain rfl:k=l.length:=by omega
   have e1:=Lib.hid (firstNZ_none (l:=l) (by have:=H.out;simpa using this));go_wp2;go_ret;exact⟨by rw[e1.out];rfl,rfl⟩
set_option maxHeartbeats 2000000 in
set_option maxRecDepth 10000 in
theorem order_grow (a b:Ent)(w:World):
 Calls Tryz.prog 85 #[a.agg,b.agg] w fun e w'=>e= .returned (.int .i64 (cmpE a.e b.e))∧ ∃q os',w'=Sort.grow (w.drewN q) os':=by
 have EC:=Lib.hid (cmpE_first a.e b.e);have EK:=Lib.hid (show compareBytes (str a.e.key).data.toList (str b.e.key).data.toList=compareBytes a.e.key b.e.key from rfl);obtain⟨av,⟨ak,at_,as_,ar,am⟩⟩:=a;obtain⟨bv,⟨bk,bt,bs,br,bm⟩⟩:=b;unfold Ent.agg;simp only at EC EK⊢;generalize hkc:compareBytes ak bk=kc at EC EK;generalize str ak=sa at EK⊢;generalize str bk=sb at EK⊢;generalize cmpE ⟨ak,at_,as_,ar,am⟩ ⟨bk,bt,bs,br,bm⟩=c at EC⊢;clear hkc;have B0:=new_first w 63 #[.string sa,.int .i64 at_,.int .i64 as_,av,.bool am] (.cells #[.string sb,.int .i64 bt,.int .i64 bs,bv,.bool bm] 63);have B1:=new_second w 63 #[.string sb,.int .i64 bt,.int .i64 bs,bv,.bool bm] (.cells #[.string sa,.int .i64 at_,.int .i64 as_,av,.bool am] 63);have hB:=below_trans (below_alloc w (.cells #[.string sa,.int .i64 at_,.int .i64 as_,av,.bool am] 63)) (below_alloc _ (.cells #[.string sb,.int .i64 bt,.int .i64 bs,bv,.bool bm] 63))
 have HX:=Lib.hid (show Sl (((w.alloc (.cells #[.string sa,.int .i64 at_,.int .i64 as_,av,.bool am] 63)).alloc (.cells #[.string sb,.int .i64 bt,.int .i64 bs,bv,.bool bm] 63)).alloc (.cells #[.int .i64 kc,.int .i64 (ordI at_ bt),.int .i64 (ordI as_ bs)] 3)) (.slice (some ⟨w.heap.size+1+1,0,none⟩) 3 3) 3 (intCells [kc,ordI at_ bt,ordI as_ bs])from by
  have:=Sl.block (Blk.new ((w.alloc (.cells #[.string sa,.int .i64 at_,.int .i64 as_,av,.bool am] 63)).alloc (.cells #[.string sb,.int .i64 bt,.int .i64 bs,bv,.bool bm] 63)) 3 #[.int .i64 kc,.int .i64 (ordI at_ bt),.int .i64 (ordI as_ bs)]) 3 3 (Nat.le_refl _) (by decide);simpa[intCells]using this)
 go_enter Tryz.func85,Tryz.ntmps85
 go_wp2_with fail
 go_region_held3 (fun w'=>w'.cell? ⟨w.heap.size,0,none⟩=some (.string sa)∧w'.cell? ⟨w.heap.size,1,none⟩=some (.int .i64 at_)∧w'.cell? ⟨w.heap.size,2,none⟩=some (.int .i64 as_)∧
  w'.cell? ⟨w.heap.size+1,0,none⟩=some (.string sb)∧w'.cell? ⟨w.heap.size+1,1,none⟩=some (.int .i64 bt)∧w'.cell? ⟨w.heap.size+1,2,none⟩=some (.int .i64 bs))
  (go_keep)
  (first
   |(go_at_call 138;refine(cmp_any _ _ _).mono ?_;rintro e w1 ⟨rfl,rfl⟩)
   |(go_at_call 137;refine(Tryz.strings_Compare _ _ _).mono ?_;rw[EK.out];rintro e w1 ⟨rfl,rfl⟩)
   |(go_at_call 136;refine(or_any _ [kc,ordI at_ bt,ordI as_ bs] _ HX.out.drew).mono ?_;rw[EC.out];rintro e w1 ⟨rfl,rfl⟩))
 all_goals
  go_wp2;go_ret;exact⟨rfl,1,_,by rw[Sort.alloc_eq_grow,Sort.alloc_eq_grow,Sort.alloc_eq_grow,Sort.grow_grow,Sort.grow_grow];rfl⟩
theorem below_growN (w:World)(q:Nat)(os:Array Obj):Below w.heap.size w (Sort.grow (w.drewN q) os):=⟨rfl,rfl,rfl,by simp,fun k hk=>Sort.heap_grow_old (w.drewN q) os hk⟩
theorem order_ent (a b:Ent)(w:World):
 Calls Tryz.prog 85 #[a.agg,b.agg] w fun e w'=>e= .returned (.int .i64 (cmpE a.e b.e))∧Below w.heap.size w w':=
 (order_grow a b w).mono fun _ _ ⟨he,q,os,hw⟩=>⟨he,hw▸below_growN w q os⟩
end Go.Proofs.YtjodlngbiikgfaaGreatDoor
namespace Go.Proofs.YtjodlngbiikgfaaGreatDoor.tm
open Go.RowKit
def fitsB (t:Int):Bool:=decide (-1099511627776≤t∧t≤1099511627776)
theorem fits_yes {t:Int}(h1: -1099511627776≤t)(h2:t≤1099511627776):fitsB t=true:=by simp[fitsB,h1,h2]
theorem fits_lo {t:Int}(h:t< -1099511627776):fitsB t=false:=by simp[fitsB];omega
theorem fits_hi {t:Int}(h:1099511627776<t):fitsB t=false:=by simp[fitsB];omega
theorem fits_of {t:Int}(h:fitsB t=true): -1099511627776≤t∧t≤1099511627776:=by simpa[fitsB]using h
set_option maxHeartbeats 400000 in
theorem fits_any (t:Int)(w:World):
 Calls Tryz.prog 44 #[.int .i64 t] w fun e w'=>e= .returned (.bool (fitsB t))∧w=w':=by
 by_cases h1: -1099511627776≤t
 ·by_cases h2:t≤1099511627776
  ·go_enter Tryz.func44,Tryz.ntmps44
   go_wp2;go_ret;exact⟨ret_bool (fits_yes h1 h2).symm,rfl⟩
  ·go_enter Tryz.func44,Tryz.ntmps44
   go_wp2;go_ret;exact⟨ret_bool (fits_hi (by omega)).symm,rfl⟩
 ·go_enter Tryz.func44,Tryz.ntmps44
  go_wp2;go_ret;exact⟨ret_bool (fits_lo (by omega)).symm,rfl⟩
set_option maxHeartbeats 400000 in
theorem rfits_any (t:Int)(w:World):
 Calls Tryz.prog 79 #[.int .i64 t] w fun e w'=>e= .returned (.bool (fitsB t))∧w=w':=by
 by_cases h1: -1099511627776≤t
 ·by_cases h2:t≤1099511627776
  ·go_enter Tryz.func79,Tryz.ntmps79
   go_wp2;go_ret;exact⟨ret_bool (fits_yes h1 h2).symm,rfl⟩
  ·go_enter Tryz.func79,Tryz.ntmps79
   go_wp2;go_ret;exact⟨ret_bool (fits_hi (by omega)).symm,rfl⟩
 ·go_enter Tryz.func79,Tryz.ntmps79
  go_wp2;go_ret;exact⟨ret_bool (fits_lo (by omega)).symm,rfl⟩
def winF (t size:Int):Int:=t-t%size
theorem tmod_facts (t size:Int)(hs:1≤size): -size<t.tmod size∧t.tmod size<size:=by
 have h1:=Int.tmod_lt_of_pos t (show 0<size by omega);have h2:=Int.lt_tmod_of_pos t (show 0<size by omega);omega
theorem mod_facts (t size:Int)(hs:1≤size):0≤t%size∧t%size<size:=
 ⟨Int.emod_nonneg _ (by omega),Int.emod_lt_of_pos _ (by omega)⟩
theorem tmod_mod (t size:Int)(hs:1≤size):t.tmod size%size=t%size:=by
 rw[Int.tmod_eq_emod];split
 ·simp
 ·have:(size.natAbs:Int)=size:=by omega
  rw[this,Int.sub_emod];simp
set_option maxHeartbeats 400000 in
theorem window_any (t size:Int)(w:World)(ht: -1099511627776≤t)(ht':t≤1099511627776)(hs:1≤size)(hs':size≤1099511627776):
 Calls Tryz.prog 111 #[.int .i64 t,.int .i64 size] w fun e w'=>e= .returned (.tuple #[.int .i64 (winF t size),.int .i64 (winF t size+size),.int .i64 0])∧w=w':=by
 have h1:=tmod_facts t size hs;have h2:=mod_facts (t.tmod size) size hs;have h3:=Lib.hid (tmod_mod t size hs);obtain⟨h1a,h1b⟩:=h1;obtain⟨h2a,h2b⟩:=h2;have hf:=fits_yes ht ht';go_enter Tryz.func111,Tryz.ntmps111
 go_wp2_with (go_at_call 44;refine(fits_any _ _).mono ?_;rintro e w' ⟨rfl,rfl⟩)
 go_ret3
 exact⟨by rw[h3.out];rfl,rfl⟩
theorem start_facts (t size:Int)(ht: -1099511627776≤t)(ht':t≤1099511627776)(hs:1≤size)(hs':size≤1099511627776):
 -1099511627776≤t.tdiv size∧t.tdiv size≤1099511627776∧ -2199023255552≤t.tdiv size*size∧t.tdiv size*size≤2199023255552∧
 (if t<t.tdiv size*size then t.tdiv size*size-size else t.tdiv size*size)=winF t size:=by
 have h1:=tmod_facts t size hs;have h2:=mod_facts t size hs;have e:=Int.tmod_add_mul_tdiv t size;have e2:=Int.emod_add_mul_ediv t size;have hc:size*t.tdiv size=t.tdiv size*size:=Int.mul_comm _ _
 have hb: -1099511627776≤t.tdiv size∧t.tdiv size≤1099511627776:=by
  have h:=Int.natAbs_tdiv_le_natAbs t size;omega
 refine⟨hb.1,hb.2,by omega,by omega,?_⟩;unfold winF;have ht:=Int.tmod_eq_emod (a:=t) (b:=size);split
 ·rw[←hc]
  split at ht<;>omega
 ·rw[←hc]
  split at ht<;>omega
set_option maxHeartbeats 400000 in
theorem start_any (t size:Int)(w:World)(ht: -1099511627776≤t)(ht':t≤1099511627776)(hs:1≤size)(hs':size≤1099511627776):
 Calls Tryz.prog 150 #[.int .i64 t,.int .i64 size] w fun e w'=>e= .returned (.int .i64 (winF t size))∧w=w':=by
 obtain⟨h1,h2,h3,h4,h5⟩:=start_facts t size ht ht' hs hs';by_cases hc:t<t.tdiv size*size
 ·rw[if_pos hc]at h5
  have H5:=Lib.hid h5;clear h5;go_enter Tryz.func150,Tryz.ntmps150
  go_wp2;go_ret;exact⟨ret_int H5.out,rfl⟩
 ·rw[if_neg hc]at h5
  have H5:=Lib.hid h5;clear h5;go_enter Tryz.func150,Tryz.ntmps150
  go_wp2;go_ret;exact⟨ret_int H5.out,rfl⟩
end Go.Proofs.YtjodlngbiikgfaaGreatDoor.tm
namespace Go.Proofs.YtjodlngbiikgfaaGreatDoor
open Go.RowKit
open tm (fitsB fits_any rfits_any)
theorem fitsB_in (t:Int):fitsB t=inB t (-1099511627776) 1099511627776:=rfl
theorem keyR_err (l:List Val):(keyR l).2=keyErr l:=by
 unfold keyR;split
 ·rfl
 ·rename_i h;simpa using(Classical.not_not.1 h).symm
set_option maxHeartbeats 2000000 in
set_option maxRecDepth 10000 in
theorem fine_ent (x:Ent)(w:World)(hs:Sl w x.v x.e.r.length (rowCells x.e.r))(hf:FineE x.e)(hm:Mx w):
 Calls Tryz.prog 84 #[x.agg] w fun e w'=>e= .returned (.bool (okE x.e))∧Below w.heap.size w w':=by
 have HS:=Lib.hid hs;have HF:=Lib.hid hf;have HM:=Lib.hid hm;have HO:Hid (okE x.e=((keyErr x.e.r==0)&&((backR x.e.key).2==0)&&inB x.e.t (-1099511627776) 1099511627776&&inB x.e.s 0 1099511627776)):=Lib.hid rfl;have ht:=hf.time;have hq:=hf.seq;obtain⟨xv,⟨xk,xt,xs,xr,xm⟩⟩:=x;unfold Ent.agg;simp only at hs HS HF HO ht hq⊢;generalize okE ⟨xk,xt,xs,xr,xm⟩=c at HO⊢;obtain⟨A,cp,rfl,-⟩:=id hs;clear hs hf hm;have HK:=Lib.hid (Blk.new w 63 #[.string (str xk),.int .i64 xt,.int .i64 xs,.slice A xr.length cp,.bool xm]);have hB:=below_alloc w (.cells #[.string (str xk),.int .i64 xt,.int .i64 xs,.slice A xr.length cp,.bool xm] 63);have hkl:(str xk).size≤4611686018427387904:=by rw[str_size];have h:xk.length≤140737488351232:=HF.out.key;omega
 have HX:=Lib.hid (keyR_err xr);have HY:=Lib.hid (show(backR (str xk).toList).2=(backR xk).2 by rw[str_toList]);go_enter Tryz.func84,Tryz.ntmps84
 go_wp2_with fail
 refine(key_any _ xr _ (HS.out.below hB) HF.out.row (HM.out.below hB)).mono ?_;rw[HX.out];rintro e w1 ⟨rfl,hb1⟩;have hB1:=below_trans hB hb1;have K1:=HK.out.below hb1;have y0:=K1.cell 0 _ rfl;have HK1:=Lib.hid K1;clear K1 hb1
 go_wp2_with fail
 refine(back_any2 _ _ hkl).mono ?_;rw[HY.out];rintro e w2 ⟨vb,rfl,-,-,hb2⟩;have hB2:=below_trans hB1 hb2;have K2:=HK1.out.below hb2;have z1:=K2.cell 1 _ rfl;have z2:=K2.cell 2 _ rfl;clear y0 hb2 K2;generalize keyErr xr=a at HO;generalize (backR xk).2=b at HO;by_cases ha:a=0
 ·by_cases hb:b=0
  ·subst ha hb
   by_cases h1: -1099511627776≤xt∧xt≤1099511627776
   ·have hfi:fitsB xt=true:=tm.fits_yes h1.1 h1.2
    by_cases h2:0≤xs
    ·by_cases h3:xs≤1099511627776
     ·have EE:=Lib.hid (show c=true by rw[HO.out,inB_yes h1.1 h1.2,inB_yes h2 h3];rfl)
      clear HO
      go_wp2_with (go_at_call 44;refine(fits_any _ _).mono ?_;rw[hfi];rintro e w3 ⟨rfl,rfl⟩)
      go_ret;exact⟨by rw[EE.out];rfl,hB2⟩
     ·have EE:=Lib.hid (show c=false by rw[HO.out,inB_no (n:=xs) (by omega),Bool.and_false])
      have h3b:decide (xs≤1099511627776)=false:=decide_eq_false h3;clear HO
      go_wp2_with (go_at_call 44;refine(fits_any _ _).mono ?_;rw[hfi];rintro e w3 ⟨rfl,rfl⟩)
      go_ret;exact⟨by rw[EE.out];rfl,hB2⟩
    ·have EE:=Lib.hid (show c=false by rw[HO.out,inB_no (n:=xs) (by omega),Bool.and_false])
     clear HO
     go_wp2_with (go_at_call 44;refine(fits_any _ _).mono ?_;rw[hfi];rintro e w3 ⟨rfl,rfl⟩)
     go_ret;exact⟨by rw[EE.out];rfl,hB2⟩
   ·have hfi:fitsB xt=false:=by rw[fitsB_in,inB_no (by omega)]
    have EE:=Lib.hid (show c=false by rw[HO.out,inB_no (n:=xt) (by omega)];simp);clear HO
    go_wp2_with (go_at_call 44;refine(fits_any _ _).mono ?_;rw[hfi];rintro e w3 ⟨rfl,rfl⟩)
    go_ret;exact⟨by rw[EE.out];rfl,hB2⟩
  ·have hb':=beqF hb
   have EE:=Lib.hid (show c=false by rw[HO.out,hb'];simp);subst ha;clear HO hb;go_wp2;go_ret;exact⟨by rw[EE.out];rfl,hB2⟩
 ·have ha':=beqF ha
  have EE:=Lib.hid (show c=false by rw[HO.out,ha'];simp);clear HO ha;go_wp2;go_ret;exact⟨by rw[EE.out];rfl,hB2⟩
end Go.Proofs.YtjodlngbiikgfaaGreatDoor
namespace Go.Proofs.YtjodlngbiikgfaaGreatDoor
open Go.RowKit
theorem valJ:EInfo Tryz.prog 114 3 32:=by
 have h:(Tryz.prog.info? 114).map (fun i=>(i.zero,i.size,i.bytes))=some (some (.agg #[.int .i64 0,.int .i64 0,.string ⟨#[]⟩]),3,32):=by kernel_rfl
 obtain⟨i,hi,h1,h2,h3⟩:=info_parts h;exact⟨i,_,hi,h1,h2,h3,rfl,by omega⟩
theorem val_cell (x:Val): ∀u∈x.cells,u.oneCell'=true:=by
 intro u hu;simp[Val.cells]at hu;rcases hu with rfl|rfl|rfl<;>rfl
theorem rowCells_len (l:List Val):(rowCells l).length=l.length*3:=flat_len Val.cells_len l
theorem rowCells_one (l:List Val): ∀u∈rowCells l,u.oneCell'=true:=by
 intro u hu;obtain⟨x,-,hx⟩:=List.mem_flatMap.1 hu;exact val_cell x u hx
theorem own_emptyT (W:World)(base:Nat)(t:TypeId)(size:Nat)(h:base≤W.heap.size):(W.alloc (.cells #[] t)).ownsRow base t size (.slice (some ⟨W.heap.size,0,none⟩) 0 0) 0 []:=
 ⟨by simp,.inr ⟨_,0,#[],rfl,h,heap_alloc_new W _,Nat.le_refl _,by decide,by simp,by simp⟩⟩
theorem sl_grown {w w':World}{v:Value}{n:Nat}{cs:List Value}{row:Option Nat}(h:Sl w v n cs)(hg:w.grownBy w' row)(hr: ∀k,v.ownBlock=some k→row≠some k):Sl w' v n cs:=by
 obtain⟨A,c,rfl,h1,h2,h0,h3⟩:=h;refine⟨A,c,rfl,h1,h2,h0,fun hne=> ?_⟩;obtain⟨b,off,rfl,hc⟩:=h3 hne;refine⟨b,off,rfl,fun j u hj=> ?_⟩;have hcc:=hc j u hj;have hlt:=World.block_lt_of_cell? w _ hcc;rw[World.cell?_of_block (hg.block b hlt (fun e=>hr b rfl e.symm))];exact hcc
theorem run_copy_wide {P:Program}(w:World)(dT sT ty elem:TypeId)(g o dLen dCap:Nat)(a:Addr)(sLen sCap size:Nat)(cur:Array Value)(t:TypeId)(cs:List Value)
 (hu:P.underlying dT=some (.slice elem)) (hs:(P.info? elem).map (·.size)=some size)
 (hg:w.heap[g]?=some (.cells cur t (0,0))) (hn:cs.length=Nat.min sLen dLen*size)
 (hsrc: ∀j v,cs[j]?=some v→w.cell? (a.add j)=some v) (hfit:o+cs.length≤cur.size) (h1: ∀v∈cs,v.oneCell'=true):
 (Builtin.copy_ #[dT,sT] ty #[.slice (some ⟨g,o,none⟩) dLen dCap,.slice (some a) sLen sCap]).run P w=
  .ok (goInt (Nat.min sLen dLen)) (w.setRow g (cur.toList.take o++cs++cur.toList.drop (o+cs.length)).toArray):=by
 have hl:=run_loadCells_list (P:=P) w a cs hsrc;have hst:=run_storeCells_at P g o t cs 0 cur w hg (by simpa using hfit) h1;cases hq:P.info? elem with
 |none=>simp[hq]at hs
 |some i=>
  have hi:i.size=size:=by simpa[hq]using hs
  simp[Builtin.copy_,run_underlying hu,Builtin.lenOf,Builtin.firstCells,sizeOf,typeInfo,hq,hi,←hn,hl,hst]
theorem flat_take {α:Type}{f:α→List Value}{size:Nat}(hf: ∀a,(f a).length=size)(l:List α)(k:Nat):(l.flatMap f).take (k*size)=(l.take k).flatMap f:=by
 induction l generalizing k with
 |nil=>simp
 |cons a l ih=>
  cases k with
  |zero=>simp
  |succ k=>rw[List.flatMap_cons,List.take_succ_cons,List.flatMap_cons,List.take_append,hf a,List.take_of_length_le (by rw[hf a,Nat.add_mul];omega),←ih k];congr 2;rw[Nat.add_mul];omega
theorem flat_drop {α:Type}{f:α→List Value}{size:Nat}(hf: ∀a,(f a).length=size)(l:List α)(k:Nat):(l.flatMap f).drop (k*size)=(l.drop k).flatMap f:=by
 induction l generalizing k with
 |nil=>simp
 |cons a l ih=>
  cases k with
  |zero=>simp
  |succ k=>rw[List.flatMap_cons,List.drop_succ_cons,List.drop_append,hf a,List.drop_of_length_le (by rw[hf a,Nat.add_mul];omega),List.nil_append,←ih k];congr 1;rw[Nat.add_mul];omega
theorem grown_of_below {w w':World}(h:Below w.heap.size w w')(row:Option Nat):w.grownBy w' row:=⟨h.os,h.tape,h.output,h.size,fun k hk _=>h.block k hk⟩
theorem grown_trans {a b c:World}{row:Option Nat}(h:a.grownBy b row)(k:b.grownBy c row):a.grownBy c row:=⟨k.os.trans h.os,k.tape.trans h.tape,k.output.trans h.output,Nat.le_trans h.size k.size,fun j hj hn=>(k.block j (Nat.lt_of_lt_of_le hj h.size) hn).trans (h.block j hj hn)⟩
theorem grown_new {a b c:World}{row row':Option Nat}(h:a.grownBy b row)(k:b.grownBy c row')(hr: ∀j,row'=some j→row=some j∨a.heap.size≤j):a.grownBy c row:=⟨k.os.trans h.os,k.tape.trans h.tape,k.output.trans h.output,Nat.le_trans h.size k.size,fun j hj hn=>(k.block j (Nat.lt_of_lt_of_le hj h.size) (fun e=>by
 rcases hr j e.symm with h1|h1
 ·exact hn h1.symm
 ·omega)).trans (h.block j hj hn)⟩
theorem drew_grown {w w':World}{row:Option Nat}(h:w.drew.grownBy w' row):w.grownBy w' row:=⟨h.os,h.tape,h.output,h.size,h.block⟩
theorem grown_drew {w w':World}{row:Option Nat}(h:w.grownBy w' row):w.grownBy w'.drew row:=⟨h.os,h.tape,h.output,h.size,h.block⟩
theorem step_copy_run {P:Program}{ops:Array Oper}{o:Oper}{a:Act}{w w':World}{K:Act→World→Prop}{Q:Exit→Act→World→Prop}{E:Prop}{r:Value}(hgd:o.guard=none)(d s:Operand)(dT sT:TypeId)
 (ho:o.op= .call {callee:= .builtin .copy,args:= #[d,s],argTypes:= #[dT,sT]}) (dv sv:Value) (hd:a.eval d=dv) (hs:a.eval s=sv) (hrun:(Builtin.copy_ #[dT,sT] o.type #[dv,sv]).run P w= .ok r w')
 (h:K (a.put o.dst r) w'):if Region.wanted o (yielded ops a.tmps)=true then Oper.wp P o a w K Q else E:=by
 rw[if_pos (by simp[Region.wanted,hgd])];unfold Oper.wp;simp[execOp,ho,resolve,invoke,builtin,hd,hs,hrun,Result.andThen];exact h
theorem one_at {w:World}{cs:List Value}{v:Value}{m:Nat}(h:Sl w v m cs){A:Option Addr}{n c:Nat}(hv:v= .slice A n c){k:Nat}{u:Value}(hk:cs[k]?=some u):
 ∃b off,A=some ⟨b,off,none⟩∧b<w.heap.size∧ ∀w',Below w.heap.size w w'→w'.cell? ⟨b,off+k,none⟩=some u:=by
 obtain⟨A',c',hv',h1,h2,-,h3⟩:=h;rw[hv]at hv';injection hv' with e1 e2 e3;subst e1;obtain⟨b,off,hA,hc⟩:=h3 (by intro h0;rw[h0]at hk;simp at hk);have c1:=hc _ _ hk;exact⟨b,off,hA,World.block_lt_of_cell? w _ c1,fun w' hb=>cell_below hb c1⟩
theorem one_cellR (W:World)(t:TypeId)(u:Value):Sl (W.alloc (.cells #[u] t)) (.slice (some ⟨W.heap.size,0,none⟩) 1 1) 1 [u]:=Sl.block (Blk.new W t #[u]) 1 1 (Nat.le_refl _) (by decide)
theorem sl_set {w:World}{v:Value}{n:Nat}{cs:List Value}(h:Sl w v n cs){p:Addr}(hp:cs≠[]→ ∀k,v.ownBlock=some k→k≠p.block)(u:Value):Sl (w.setCell p u) v n cs:=by
 obtain⟨A,c,rfl,h1,h2,h0,h3⟩:=h;refine⟨A,c,rfl,h1,h2,h0,fun hne=> ?_⟩;obtain⟨b,off,rfl,hc⟩:=h3 hne;refine⟨b,off,rfl,fun j x hj=> ?_⟩;have hcc:=hc j x hj;rw[World.cell?_of_block (Below.heap_setCell w p u b (hp hne b rfl))];exact hcc
theorem nil_yes (W:World)(n c:Nat):(binOp .eql 41 (.slice none n c) (.slice none 0 0)).run Tryz.prog W= .ok (.bool true) W:=by kernel_rfl
theorem nil_no (W:World)(p:Addr)(n c:Nat):(binOp .eql 41 (.slice (some p) n c) (.slice none 0 0)).run Tryz.prog W= .ok (.bool false) W:=by kernel_rfl
set_option maxHeartbeats 1000000 in
set_option maxRecDepth 10000 in
theorem clone_any (v:Value)(l:List Val)(w:World)(h:Sl w v l.length (rowCells l))(h8:l.length≤8):
 Calls Tryz.prog 157 #[v] w fun e w'=> ∃v',e= .returned v'∧Sl w' v' l.length (rowCells l)∧(∀k,v'.ownBlock=some k→w.heap.size≤k∧k<w'.heap.size)∧Below w.heap.size w w':=by
 have HH:=Lib.hid h;obtain⟨A,c,rfl,h1,h2,-,h3⟩:=h;clear h2;have HO:=Lib.hid (own_emptyT w w.heap.size 114 3 (Nat.le_refl _));have hB:=below_alloc w (.cells #[] 114);have HS:=Lib.hid (HH.out.below hB);cases A with
 |none=>
  have hl:l=[]:=by
   cases l with
   |nil=>rfl
   |cons x t=>obtain⟨b,off,hA,-⟩:=h3 (by simp[rowCells,Val.cells]);cases hA
  subst hl;clear h3;have hnil:=fun W=>nil_yes W 0 c;go_enter Tryz.func157,Tryz.ntmps157
  go_wp2;go_ret;exact⟨_,rfl,Sl.nil_ _,nofun,Below.refl _ _⟩
 |some p=>
  clear h3;have hnil:=fun W=>nil_no W p l.length c;go_enter Tryz.func157,Tryz.ntmps157
  go_wp2_with (at_builtin;refine wpList_app rfl (.tmp 5) (.tmp 6) 41 rfl w.heap.size 114 3 32 Tryz.underlying41 valJ _ 0 _ rfl HO.out _ l.length (rowCells l) rfl HS.out (rowCells_len l) (rowCells_one l) ?_ ?_ ?_ ?_)
  ·unfold maxLen;omega
  ·omega
  ·exact hB.size
  ·intro v2 w3 hown3 hg3 hat3
   have hb3:=below_grown hB hg3 (own_ge HO.out);have S3:Hid (Sl w3 v2 l.length (rowCells l)):=Lib.hid (by have:=Sl.of_own hown3;simpa using this);have G3:=Lib.hid (fun k hk=>And.intro (own_ge hown3 k hk) (own_lt hown3 k hk));clear hown3 hg3 hat3;go_wp2;go_ret;exact⟨_,rfl,S3.out,G3.out,hb3⟩
end Go.Proofs.YtjodlngbiikgfaaGreatDoor
namespace Go.Proofs.YtjodlngbiikgfaaGreatDoor
open Go.RowKit
set_option maxHeartbeats 2000000 in
set_option maxRecDepth 10000 in
theorem own_ent (x:Ent)(w:World)(hs:Sl w x.v x.e.r.length (rowCells x.e.r))(h8:x.e.r.length≤8):
 Calls Tryz.prog 112 #[x.agg] w fun e w'=> ∃v',e= .returned (Ent.agg ⟨v',x.e⟩)∧Sl w' v' x.e.r.length (rowCells x.e.r)∧(∀k,v'.ownBlock=some k→w.heap.size≤k∧k<w'.heap.size)∧Below w.heap.size w w':=by
 have HS:=Lib.hid hs;obtain⟨xv,⟨xk,xt,xs,xr,xm⟩⟩:=x;unfold Ent.agg;simp only at hs HS h8⊢;obtain⟨A,cp,rfl,-⟩:=id hs;clear hs;generalize str xk=sk;have B0:=new_first w 63 #[.string sk,.int .i64 xt,.int .i64 xs,.slice A xr.length cp,.bool xm] (.cells #[.string ⟨#[]⟩,.int .i64 0,.int .i64 0,.slice none 0 0,.bool false] 63);have B1:=new_second w 63 #[.string ⟨#[]⟩,.int .i64 0,.int .i64 0,.slice none 0 0,.bool false] (.cells #[.string sk,.int .i64 xt,.int .i64 xs,.slice A xr.length cp,.bool xm] 63);have HK0:=Lib.hid B0;have HK1:=Lib.hid B1;have hB:=below_trans (below_alloc w (.cells #[.string sk,.int .i64 xt,.int .i64 xs,.slice A xr.length cp,.bool xm] 63)) (below_alloc _ (.cells #[.string ⟨#[]⟩,.int .i64 0,.int .i64 0,.slice none 0 0,.bool false] 63));clear B0 B1;go_enter Tryz.func112,Tryz.ntmps112
 go_wp2_with fail
 refine(clone_any _ xr _ (HS.out.below hB) h8).mono ?_;rintro e w1 ⟨v1,rfl,hs1,hf1,hb1⟩;have hB1:=below_trans hB hb1;have HS1:=Lib.hid hs1;have HF1:=Lib.hid hf1;have K0:=HK0.out.below hb1;have K1:=HK1.out.below hb1;have y0:=K0.cell 0 _ rfl;have y1:=K0.cell 1 _ rfl;have y2:=K0.cell 2 _ rfl;have y3:=K0.cell 3 _ rfl;have y4:=K0.cell 4 _ rfl;have f3:=K0.free 3;have z0:=K1.cell 0 _ rfl;have z1:=K1.cell 1 _ rfl;have z2:=K1.cell 2 _ rfl;have z3:=K1.cell 3 _ rfl;have z4:=K1.cell 4 _ rfl;have g0:=K1.free 0;have g1:=K1.free 1;have g2:=K1.free 2;have g3:=K1.free 3;have g4:=K1.free 4;obtain⟨A1,c1,rfl,-⟩:=id hs1;clear hs1 hf1;go_wp2
 have hne: ∀k,(Value.slice A1 xr.length c1).ownBlock=some k→k≠w.heap.size∧k≠w.heap.size+1:=fun k hk=>by
  have:=(HF1.out k hk).1;simp at this;omega
 have Z:=(((((HK1.out.below hb1).far (p:=⟨w.heap.size,3,none⟩) (by show w.heap.size+1≠w.heap.size;omega) (.slice A1 xr.length c1)).set_ 0 (.string sk)).set_ 1 (.int .i64 xt)).set_ 2 (.int .i64 xs)).set_ 3 (.slice A1 xr.length c1)|>.set_ 4 (.bool xm);have x0:=Z.cell 0 (.string sk) rfl;have x1:=Z.cell 1 (.int .i64 xt) rfl;have x2:=Z.cell 2 (.int .i64 xs) rfl;have x3:=Z.cell 3 (.slice A1 xr.length c1) rfl;have x4:=Z.cell 4 (.bool xm) rfl;have S1:=sl_set HS1.out (p:=⟨w.heap.size,3,none⟩) (fun _ k hk=>(hne k hk).1) (.slice A1 xr.length c1);have S2:=sl_set S1 (p:=⟨w.heap.size+1,0,none⟩) (fun _ k hk=>(hne k hk).2) (.string sk);have S3:=sl_set S2 (p:=⟨w.heap.size+1,1,none⟩) (fun _ k hk=>(hne k hk).2) (.int .i64 xt);have S4:=sl_set S3 (p:=⟨w.heap.size+1,2,none⟩) (fun _ k hk=>(hne k hk).2) (.int .i64 xs);have S5:=sl_set S4 (p:=⟨w.heap.size+1,3,none⟩) (fun _ k hk=>(hne k hk).2) (.slice A1 xr.length c1);have S6:=sl_set S5 (p:=⟨w.heap.size+1,4,none⟩) (fun _ k hk=>(hne k hk).2) (.bool xm);have hBB:=(((((hB1.setCell (p:=⟨w.heap.size,3,none⟩) (Nat.le_refl _) (.slice A1 xr.length c1)).setCell (p:=⟨w.heap.size+1,0,none⟩) (by simp) (.string sk)).setCell (p:=⟨w.heap.size+1,1,none⟩) (by simp) (.int .i64 xt)).setCell (p:=⟨w.heap.size+1,2,none⟩) (by simp) (.int .i64 xs)).setCell (p:=⟨w.heap.size+1,3,none⟩) (by simp) (.slice A1 xr.length c1)).setCell (p:=⟨w.heap.size+1,4,none⟩) (by simp) (.bool xm);refine bodyPost_ret (v:= .agg #[.string sk,.int .i64 xt,.int .i64 xs,.slice A1 xr.length c1,.bool xm]) (by simp[results,Tryz.results112,go_sem,x0,x1,x2,x3,x4]) rfl ?_;exact⟨_,rfl,S6,fun k hk=>⟨by have:=(HF1.out k hk).1;simp at this;omega,by have:=(HF1.out k hk).2;simpa[World.size_setCell]using this⟩,hBB⟩
end Go.Proofs.YtjodlngbiikgfaaGreatDoor
namespace Go.Proofs.YtjodlngbiikgfaaGreatDoor
open Go.RowKit
theorem entI:EInfo Tryz.prog 63 5 64:=by
 have h:(Tryz.prog.info? 63).map (fun i=>(i.zero,i.size,i.bytes))=some (some (.agg #[.string ⟨#[]⟩,.int .i64 0,.int .i64 0,.slice none 0 0,.bool false]),5,64):=by kernel_rfl
 obtain⟨i,hi,h1,h2,h3⟩:=info_parts h;exact⟨i,_,hi,h1,h2,h3,rfl,by omega⟩
structure OwnE (w:World) (base:Nat) (v:Value) (l:List Ent):Prop where
 own:w.ownsRow base 63 5 v l.length (entCells l)
 rows: ∀c∈l,Sl w c.v c.e.r.length (rowCells c.e.r)
 far: ∀c∈l,∀k,c.v.ownBlock=some k→base≤k∧k<w.heap.size∧v.ownBlock≠some k
theorem OwnE.ents {w:World}{base:Nat}{v:Value}{l:List Ent}(h:OwnE w base v l):Ents w v l:=⟨Sl.of_own h.own,h.rows⟩
theorem OwnE.below {w w':World}{base:Nat}{v:Value}{l:List Ent}(h:OwnE w base v l)(hb:Below w.heap.size w w'):OwnE w' base v l:=
 ⟨own_below h.own hb,fun c hc=>(h.rows c hc).below hb,fun c hc k hk=>⟨(h.far c hc k hk).1,Nat.lt_of_lt_of_le (h.far c hc k hk).2.1 hb.size,(h.far c hc k hk).2.2⟩⟩
theorem OwnE.alloc {w:World}{base:Nat}{v:Value}{l:List Ent}(h:OwnE w base v l)(o:Obj):OwnE (w.alloc o) base v l:=h.below (below_alloc w o)
theorem OwnE.drew {w:World}{base:Nat}{v:Value}{l:List Ent}(h:OwnE w base v l):OwnE w.drew base v l:=⟨h.own,h.rows,h.far⟩
theorem OwnE.nil (w:World)(base:Nat):OwnE w base (.slice none 0 0) []:=⟨⟨rfl,.inl ⟨rfl,rfl⟩⟩,nofun,nofun⟩
theorem entCells_app (a b:List Ent):entCells (a++b)=entCells a++entCells b:=List.flatMap_append
theorem OwnE.snoc {w w':World}{base:Nat}{v v':Value}{l:List Ent}{c:Ent}(h:OwnE w base v l)(hown:w'.ownsRow base 63 5 v' (l.length+1) (entCells l++c.cells))(hg:w.grownBy w' v.ownBlock)(hat:v'.ownBlock=v.ownBlock∨v'.ownBlock=some w.heap.size)
 (hc:Sl w c.v c.e.r.length (rowCells c.e.r)) (hf: ∀k,c.v.ownBlock=some k→base≤k∧k<w.heap.size∧v.ownBlock≠some k):OwnE w' base v' (l++[c]):=by
 have hfar: ∀d∈l++[c],Sl w d.v d.e.r.length (rowCells d.e.r)∧ ∀k,d.v.ownBlock=some k→base≤k∧k<w.heap.size∧v.ownBlock≠some k:=by
  intro d hd;rcases List.mem_append.1 hd with hd|hd
  ·exact⟨h.rows d hd,h.far d hd⟩
  ·simp only[List.mem_singleton]at hd;subst hd;exact⟨hc,hf⟩
 refine⟨?_,fun d hd=>sl_grown (hfar d hd).1 hg (fun k hk=>((hfar d hd).2 k hk).2.2),fun d hd k hk=> ?_⟩
 ·rw[entCells_app,List.length_append]
  simpa[entCells]using hown
 ·obtain⟨h0,h1,h2⟩:=(hfar d hd).2 k hk
  refine⟨h0,Nat.lt_of_lt_of_le h1 hg.size,fun e=> ?_⟩;rcases hat with e'|e'
  ·exact h2 (e'▸e)
  ·rw[e']at e
   injection e with e;omega
theorem OwnE.set {w:World}{base:Nat}{v:Value}{l:List Ent}(h:OwnE w base v l){p:Addr}(hp:p.block<base)(u:Value):OwnE (w.setCell p u) base v l:=
 ⟨own_set h.own (fun k hk e=>by have:=own_ge h.own k hk;omega) u,fun c hc=>sl_set (h.rows c hc) (fun _ k hk e=>by have:=(h.far c hc k hk).1;omega) u,
  fun c hc k hk=>by have:=h.far c hc k hk;rw[World.size_setCell];exact this⟩
theorem one_ent (W:World)(c:Ent):Sl (W.alloc (.cells #[.string (str c.e.key),.int .i64 c.e.t,.int .i64 c.e.s,c.v,.bool c.e.met] 63)) (.slice (some ⟨W.heap.size,0,none⟩) 1 1) 1 c.cells:=Sl.block (Blk.new W 63 #[.string (str c.e.key),.int .i64 c.e.t,.int .i64 c.e.s,c.v,.bool c.e.met]) 1 1 (Nat.le_refl _) (by decide)
theorem ent_one {w:World}{c:Ent}{n:Nat}{cs:List Value}(h:Sl w c.v n cs): ∀u∈c.cells,u.oneCell'=true:=by
 obtain⟨A,k,hv,-⟩:=h;intro u hu;simp[Ent.cells]at hu;rcases hu with rfl|rfl|rfl|rfl|rfl
 ·rfl
 ·rfl
 ·rfl
 ·rw[hv];rfl
 ·rfl
theorem grown_setE {w w':World}{P:Nat}(h:w.grownBy w' (some P))(i:Nat)(u:Value):w.grownBy (w'.setCell ⟨P,i,none⟩ u) (some P):=
 ⟨h.os,h.tape,h.output,by rw[World.size_setCell];exact h.size,fun k hk hn=>(Below.heap_setCell w' ⟨P,i,none⟩ u k (fun e=>hn (by rw[e]))).trans (h.block k hk hn)⟩
def EBlk (v:Value) (l:List Ent) (k:Nat):Prop:=v.ownBlock=some k∨ ∃c∈l,c.v.ownBlock=some k
theorem OwnE.range {w:World}{base:Nat}{v:Value}{l:List Ent}(h:OwnE w base v l){k:Nat}(hk:EBlk v l k):base≤k∧k<w.heap.size:=by
 rcases hk with hk|⟨c,hc,hk⟩
 ·exact h.own.lt k hk
 ·exact⟨(h.far c hc k hk).1,(h.far c hc k hk).2.1⟩
theorem OwnE.grown {w w':World}{base:Nat}{v:Value}{l:List Ent}{row:Option Nat}(h:OwnE w base v l)(hg:w.grownBy w' row)(hr: ∀k,EBlk v l k→row≠some k):OwnE w' base v l:=by
 refine⟨h.own.kept hg ?_,fun c hc=>sl_grown (h.rows c hc) hg (fun k hk=>hr k (.inr ⟨c,hc,hk⟩)),fun c hc k hk=>⟨(h.far c hc k hk).1,Nat.lt_of_lt_of_le (h.far c hc k hk).2.1 hg.size,(h.far c hc k hk).2.2⟩⟩;cases hv:v.ownBlock with
 |none=>exact .inl rfl
 |some k=>exact .inr fun e=>hr k (.inl hv) e.symm
theorem own_low {w:World}{base base':Nat}{e:TypeId}{size:Nat}{v:Value}{n:Nat}{xs:List Value}(h:w.ownsRow base e size v n xs)(hb:base'≤base):w.ownsRow base' e size v n xs:=by
 obtain⟨h1,h2⟩:=h;refine⟨h1,?_⟩;rcases h2 with h2|⟨g,cap,cur,rfl,h3,h4⟩
 ·exact .inl h2
 ·exact .inr ⟨g,cap,cur,rfl,Nat.le_trans hb h3,h4⟩
theorem OwnE.low {w:World}{base base':Nat}{v:Value}{l:List Ent}(h:OwnE w base v l)(hb:base'≤base):OwnE w base' v l:=
 ⟨own_low h.own hb,h.rows,fun c hc k hk=>⟨Nat.le_trans hb (h.far c hc k hk).1,(h.far c hc k hk).2⟩⟩
theorem eblk_lay {v v':Value}{l:List Ent}{a n:Nat}{c:Ent}(h1: ∀k,v'.ownBlock=some k→v.ownBlock=some k∨n≤k)(h2: ∀k,c.v.ownBlock=some k→n≤k): ∀k,EBlk v' (l.take a++c::l.drop a) k→EBlk v l k∨n≤k:=by
 rintro k (hk|⟨d,hd,hk⟩)
 ·exact(h1 k hk).imp .inl id
 ·rcases List.mem_append.1 hd with hd|hd
  ·exact .inl (.inr ⟨d,List.mem_of_mem_take hd,hk⟩)
  ·rcases List.mem_cons.1 hd with rfl|hd
   ·exact .inr (h2 k hk)
   ·exact .inl (.inr ⟨d,List.mem_of_mem_drop hd,hk⟩)
theorem ens_snoc (l:List Ent)(x:Ent):ens (l++[x])=ens l++[x.e]:=by unfold ens;rw[List.map_append];rfl
end Go.Proofs.YtjodlngbiikgfaaGreatDoor
namespace Go.Proofs.YtjodlngbiikgfaaGreatDoor
open Go.RowKit
theorem up_less {l:List En}{e:En}(h:Up l){i j:Nat}{x y:En}(hi:l[i]?=some x)(hj:l[j]?=some y)(hle:i≤j)(hy:cmpE y e<0):cmpE x e<0:=by
 by_cases he:i=j
 ·subst he
  rw[hi]at hj;injection hj with hj;rw[hj];exact hy
 ·obtain⟨h1,e1⟩:=List.getElem?_eq_some_iff.1 hi
  obtain⟨h2,e2⟩:=List.getElem?_eq_some_iff.1 hj;have:=List.pairwise_iff_getElem.1 h i j h1 h2 (by omega);rw[e1,e2]at this;exact cmpE_trans this hy
theorem ens_len (l:List Ent):(ens l).length=l.length:=by unfold ens;rw[List.length_map]
theorem ens_at {l:List Ent}{k:Nat}{x:Ent}(h:l[k]?=some x):(ens l)[k]?=some x.e:=by unfold ens;rw[List.getElem?_map,h];rfl
set_option maxHeartbeats 4000000 in
set_option maxRecDepth 10000 in
theorem bsearch_any (v:Value)(l:List Ent)(x:Ent)(w:World)(h:Ents w v l)(hl:l.length≤1000000)(hU:Up (ens l)):
 Calls Tryz.prog 146 #[v,x.agg,.func (.func 85) #[] #[]] w fun e w'=> ∃i is,e= .returned (.tuple #[.int .i64 (i:Nat),.bool is])∧PosE (ens l) x.e i∧is=isE (ens l) x.e∧Below w.heap.size w w':=by
 have HV:=Lib.hid h;have HU:=Lib.hid hU;obtain⟨A,c,rfl,h1,h2,-⟩:=id h.sl;unfold maxLen at h2;have HOR:=Lib.hid (fun(a:Ent) (w':World)=>order_ent a x w');have HX:=Lib.hid (Blk.new w 63 #[.string (str x.e.key),.int .i64 x.e.t,.int .i64 x.e.s,x.v,.bool x.e.met]);have hB:=below_alloc w (.cells #[.string (str x.e.key),.int .i64 x.e.t,.int .i64 x.e.s,x.v,.bool x.e.met] 63);clear h hU;unfold Ent.agg at HOR⊢;go_enter Tryz.func146,Tryz.ntmps146
 go_wp2_with fail
 go_loopw[9,10,11] (fun lo hi _ wr=> ∃a b:Nat,lo= .int .i64 a∧hi= .int .i64 b∧a≤b∧b≤l.length∧Hid (∀j y,j<a→(ens l)[j]?=some y→cmpE y x.e<0)∧Hid (∀j y,b≤j→(ens l)[j]?=some y→0≤cmpE y x.e)∧Blk wr w.heap.size 63 #[.string (str x.e.key),.int .i64 x.e.t,.int .i64 x.e.s,x.v,.bool x.e.met]∧Below w.heap.size w wr) (fun lo hi _ _=>(intOf hi).toNat-(intOf lo).toNat)
 case atStart=>exact⟨0,l.length,rfl,rfl,by omega,by omega,Lib.hid (fun j y h=>absurd h (by omega)),Lib.hid (fun j y h hp=>by have:=(List.getElem?_eq_some_iff.1 hp).1;rw[ens_len]at this;omega),HX.out,hB⟩
 case round=>
  obtain⟨a,b,rfl,rfl,hab,hbl,HL,HM,hK,hbw⟩:=hrel;by_cases hlt:a<b
  ·obtain⟨m,hm⟩: ∃m,(a+b)/ 2=m:=⟨_,rfl⟩
   have hma:a≤m:=by omega
   have hmb:m<b:=by omega
   have hml:m<l.length:=by omega
   have hx:=List.getElem?_eq_getElem (l:=l) hml;generalize l[m]=y at hx;obtain⟨g,off,rfl,-,hc⟩:=ent_at HV.out.sl rfl hx;have HC:=Lib.hid hc;have HY:=Lib.hid (ens_at hx);have HO:=Lib.hid (fun w'=>HOR.out y w');clear hc hx;have hq:((a:Int)+(b:Int))/ 2=(m:Int):=by omega
   have m0:(0:Int)≤(m:Int):=by omega
   have m1:(m:Int)<(l.length:Int):=by omega
   obtain⟨d0,d1,d2,d3,d4⟩:=HC.out _ hbw;have x0:=hK.cell 0 _ rfl;have x1:=hK.cell 1 _ rfl;have x2:=hK.cell 2 _ rfl;have x3:=hK.cell 3 _ rfl;have x4:=hK.cell 4 _ rfl;have HK:=Lib.hid hK;clear hm hK
   go_wp2_with fail
   go_region_held3 (fun w'=>w'.cell? ⟨g,off+m*5,none⟩=some (.string (str y.e.key))∧w'.cell? ⟨g,off+m*5+1,none⟩=some (.int .i64 y.e.t)∧w'.cell? ⟨g,off+m*5+2,none⟩=some (.int .i64 y.e.s)∧w'.cell? ⟨g,off+m*5+3,none⟩=some y.v∧w'.cell? ⟨g,off+m*5+4,none⟩=some (.bool y.e.met)∧
    w'.cell? ⟨w.heap.size,0,none⟩=some (.string (str x.e.key))∧w'.cell? ⟨w.heap.size,1,none⟩=some (.int .i64 x.e.t)∧w'.cell? ⟨w.heap.size,2,none⟩=some (.int .i64 x.e.s)∧w'.cell? ⟨w.heap.size,3,none⟩=some x.v∧w'.cell? ⟨w.heap.size,4,none⟩=some (.bool x.e.met))
    (first|go_keep|exact⟨d0,d1,d2,d3,d4,x0,x1,x2,x3,x4⟩|exact z)
    ((go_at_call 85
      refine(HO.out _).mono ?_;rintro e w2 ⟨rfl,hb2⟩;have hbw2:=below_trans hbw.drew hb2;have K2:=HK.out.drew.below hb2;obtain⟨e0,e1,e2,e3,e4⟩:=HC.out _ hbw2;have z:=And.intro e0 (And.intro e1 (And.intro e2 (And.intro e3 (And.intro e4 (And.intro (K2.cell 0 _ rfl) (And.intro (K2.cell 1 _ rfl) (And.intro (K2.cell 2 _ rfl) (And.intro (K2.cell 3 _ rfl) (K2.cell 4 _ rfl)))))))))))
   all_goals
    clear z d0 d1 d2 d3 d4 x0 x1 x2 x3 x4 e0 e1 e2 e3 e4;by_cases hz:cmpE y.e x.e<0
    ·have HL2:Hid (∀j u,j<m+1→(ens l)[j]?=some u→cmpE u x.e<0):=Lib.hid fun j u hj hu=>up_less HU.out hu HY.out (by omega) hz
     go_wp2;go_roundw
     case rel=>exact⟨m+1,b,by go_num,rfl,by omega,hbl,HL2.out,HM.out,K2,hbw2⟩
     case measure=>simp[intOf];omega
    ·have HM2:Hid (∀j u,m≤j→(ens l)[j]?=some u→0≤cmpE u x.e):=Lib.hid fun j u hj hu=>Int.not_lt.1 fun h0=>hz (up_less HU.out HY.out hu hj h0)
     go_wp2;go_roundw
     case rel=>exact⟨a,m,rfl,rfl,hma,by omega,HL.out,HM2.out,K2,hbw2⟩
     case measure=>simp[intOf];omega
  ·obtain rfl:a=b:=by omega
   have HP:Hid (PosE (ens l) x.e a):=Lib.hid ⟨by rw[ens_len];exact hbl,HL.out,fun j u h1 h2=>Int.not_lt.2 (HM.out j u h1 h2)⟩;clear HL HM;have x0:=hK.cell 0 _ rfl;have x1:=hK.cell 1 _ rfl;have x2:=hK.cell 2 _ rfl;have x3:=hK.cell 3 _ rfl;have x4:=hK.cell 4 _ rfl;have HK:=Lib.hid hK;clear hK;by_cases hal:a<l.length
   ·have hx:=List.getElem?_eq_getElem (l:=l) hal
    generalize l[a]=y at hx;obtain⟨g,off,rfl,-,hc⟩:=ent_at HV.out.sl rfl hx;have HC:=Lib.hid hc;have HI:Hid (isE (ens l) x.e=decide (cmpE y.e x.e=0)):=Lib.hid (by rw[isE_at HU.out HP.out,ens_at hx]);have HO:=Lib.hid (fun w'=>HOR.out y w');clear hc hx;have m0:(0:Int)≤(a:Int):=by omega
    have m1:(a:Int)<(l.length:Int):=by omega
    have hd:decide ((a:Int)<(l.length:Int))=true:=decide_eq_true m1;obtain⟨d0,d1,d2,d3,d4⟩:=HC.out _ hbw
    go_wp2_with fail
    go_region_held3 (fun w'=>w'.cell? ⟨g,off+a*5,none⟩=some (.string (str y.e.key))∧w'.cell? ⟨g,off+a*5+1,none⟩=some (.int .i64 y.e.t)∧w'.cell? ⟨g,off+a*5+2,none⟩=some (.int .i64 y.e.s)∧w'.cell? ⟨g,off+a*5+3,none⟩=some y.v∧w'.cell? ⟨g,off+a*5+4,none⟩=some (.bool y.e.met)∧
     w'.cell? ⟨w.heap.size,0,none⟩=some (.string (str x.e.key))∧w'.cell? ⟨w.heap.size,1,none⟩=some (.int .i64 x.e.t)∧w'.cell? ⟨w.heap.size,2,none⟩=some (.int .i64 x.e.s)∧w'.cell? ⟨w.heap.size,3,none⟩=some x.v∧w'.cell? ⟨w.heap.size,4,none⟩=some (.bool x.e.met))
     (first|go_keep|exact⟨d0,d1,d2,d3,d4,x0,x1,x2,x3,x4⟩|exact z)
     ((go_at_call 85
       refine(HO.out _).mono ?_;rintro e w2 ⟨rfl,hb2⟩;have hbw2:=below_trans hbw.drew hb2;have K2:=HK.out.drew.below hb2;obtain⟨e0,e1,e2,e3,e4⟩:=HC.out _ hbw2;have z:=And.intro e0 (And.intro e1 (And.intro e2 (And.intro e3 (And.intro e4 (And.intro (K2.cell 0 _ rfl) (And.intro (K2.cell 1 _ rfl) (And.intro (K2.cell 2 _ rfl) (And.intro (K2.cell 3 _ rfl) (K2.cell 4 _ rfl)))))))))))
    all_goals
     go_wp2
     go_ret2
     exact⟨a,_,rfl,HP.out,by rw[HI.out];rfl,hbw2⟩
   ·have HI:Hid (isE (ens l) x.e=false):=Lib.hid (by rw[isE_at HU.out HP.out,List.getElem?_eq_none (by rw[ens_len];omega)])
    have hd:decide ((a:Int)<(l.length:Int))=false:=decide_eq_false (by omega)
    go_wp2_with fail
    go_quiet (fail)
    go_wp2
    go_ret2
    exact⟨a,_,rfl,HP.out,by rw[HI.out],⟨hbw.os,hbw.tape,hbw.output,hbw.size,hbw.block⟩⟩
end Go.Proofs.YtjodlngbiikgfaaGreatDoor
