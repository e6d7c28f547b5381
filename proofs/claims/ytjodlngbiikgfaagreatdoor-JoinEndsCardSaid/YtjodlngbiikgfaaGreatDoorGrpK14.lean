/-Check a buffer. -/
import Derived.Test.YtjodlngbiikgfaaGreatDoorGrpK13
import Derived.Test.YtjodlngbiikgfaaGreatDoorGrpK6
set_option linter.unusedSimpArgs false
set_option linter.unusedVariables false
namespace Go.Proofs.YtjodlngbiikgfaaGreatDoor
open Go.RowKit Go.Shelf
attribute [local go_sem] Oper.semAt_some
def sumP (b:Buf) (pre:List Nat):Nat:=(pre.flatMap fun k=>ens (b.part k).2).length
theorem sumP_snoc (b:Buf)(pre:List Nat)(k:Nat):sumP b (pre++[k])=sumP b pre+(b.part k).2.length:=by
 unfold sumP;rw[List.flatMap_append,List.length_append];simp[ens_len]
theorem sumP_all (b:Buf):sumP b (List.range (b.runs.length+1))=b.bu.all.length:=by rw[pre_all];rfl
theorem sumP_le (b:Buf){k:Nat}(h:k≤b.runs.length+1):sumP b (List.range k)≤b.bu.all.length:=by rw[pre_all];exact pre_mono b h
theorem part_len (b:Buf)(k:Nat):(b.part k).2.length≤b.bu.all.length:=by
 by_cases h:k<b.runs.length+1
 ·have h1:=pre_mono b (i:=k+1) (j:=b.runs.length+1) (by omega)
  rw[←pre_all,pre_succ,List.length_append,ens_len]at h1;omega
 ·obtain⟨j,rfl⟩: ∃j,k=j+1:=⟨k-1,by omega⟩
  simp[Buf.part,List.getElem?_eq_none (l:=b.runs) (i:=j) (by omega)]
def partB (b:Buf) (k:Nat):Bool:=((k==0)|| !(b.part k).2.isEmpty)&&upB (ens (b.part k).2)&&(ens (b.part k).2).all okE
theorem parts_good (b:Buf):(∀k,k<b.runs.length+1→partB b k=true)↔(b.bu.runs.any List.isEmpty=false∧b.bu.parts.all upB=true∧b.bu.all.all okE=true):=by
 have hp: ∀l,l∈b.bu.parts↔ ∃k,k<b.runs.length+1∧ens (b.part k).2=l:=fun l=>by rw[parts_eq,List.mem_map];simp only[List.mem_range]
 have ha:b.bu.all.all okE=b.bu.parts.all fun l=>l.all okE:=by unfold Bu.all;rw[List.all_flatten]
 constructor
 ·intro h
  refine⟨?_,?_,?_⟩
  ·rw[List.any_eq_false]
   intro l hl;obtain⟨p,hp,rfl⟩:=List.mem_map.1 hl;obtain⟨i,hi,rfl⟩:=List.getElem_of_mem hp;have h1:=h (i+1) (by omega);unfold partB at h1;rw[part_run b (List.getElem?_eq_getElem hi)]at h1
   have h2:(b.runs[i].2).isEmpty=false:=by
    cases hh:(b.runs[i].2).isEmpty with
    |false=>rfl
    |true=>rw[hh]at h1;simp at h1
   simpa[ens]using h2
  ·rw[List.all_eq_true]
   intro l hl;obtain⟨k,hk,rfl⟩:=(hp l).1 hl;have h1:=h k hk;unfold partB at h1;simp only[Bool.and_eq_true]at h1;exact h1.1.2
  ·rw[ha,List.all_eq_true]
   intro l hl;obtain⟨k,hk,rfl⟩:=(hp l).1 hl;have h1:=h k hk;unfold partB at h1;simp only[Bool.and_eq_true]at h1;exact h1.2
 ·rintro⟨h1,h2,h3⟩ k hk
  rw[ha]at h3;have hm:ens (b.part k).2∈b.bu.parts:=(hp _).2 ⟨k,hk,rfl⟩;unfold partB;rw[List.all_eq_true.1 h2 _ hm,List.all_eq_true.1 h3 _ hm,Bool.and_true,Bool.and_true];cases k with
  |zero=>rfl
  |succ i=>
   have hx:=List.getElem?_eq_getElem (l:=b.runs) (i:=i) (by omega);rw[part_run b hx];have:=List.any_eq_false.1 h1 (ens b.runs[i].2) (List.mem_map.2 ⟨b.runs[i],List.getElem_mem _,rfl⟩);have h4:(b.runs[i].2).isEmpty=false:=by simpa[ens]using this
   rw[h4];rfl
theorem blk_put {A:World}{g D:Nat}{t:TypeId}{cs:Array Value}{o o':Obj}(h:Blk A g t cs)(hD:A.heap[D]?=some o)(ho:o.isCells=false):Blk (A.putObj D o') g t cs:=
 blk_own h (grownBy_putObj' A D o') (fun r e=>by cases e;exact⟨o,hD,ho⟩)
theorem rec_kept {β:Type}{B D:Nat}(hD:D<B):OwnFrom B (fun(_:β) (W:World)=>W.heap[D]?=some (.deferred (some []))):=fun _ A B' row h hg hr=>
 (hg.block D (Array.getElem?_eq_some_iff.1 h).1 (fun e=>by obtain⟨h1,-⟩:=hr D e.symm;omega)).trans h
theorem put_other {A:World}{D D2:Nat}{o o':Obj}(h:D≠D2)(hD:A.heap[D]?=some o):(A.putObj D2 o').heap[D]?=some o:=
 ((grownBy_putObj' A D2 o').block D (Array.getElem?_eq_some_iff.1 hD).1 (fun e=>h (by injection e))).trans hD
theorem runs_len {b:Buf}(h:b.bu.runs.any List.isEmpty=false):b.runs.length≤b.bu.all.length:=by
 have h0: ∀l:List (List En),l.any List.isEmpty=false→l.length≤l.flatten.length:=by
  intro l
  induction l with
  |nil=>intro _;simp
  |cons a t ih=>
   intro h;rw[List.any_cons,Bool.or_eq_false_iff]at h;have h1:=ih h.2
   have h2:1≤a.length:=by
    cases a with
    |nil=>simp at h
    |cons _ _=>simp
   simp only[List.length_cons,List.flatten_cons,List.length_append];omega
 have h1:=h0 b.bu.runs h;have h3:b.bu.all.length=b.bu.mem.length+b.bu.runs.flatten.length:=by unfold Bu.all Bu.parts;simp
 have h4:b.bu.runs.length=b.runs.length:=List.length_map _;omega
theorem part_mem {b:Buf}{k:Nat}{x:Ent}(hx:x∈(b.part k).2):x.e∈b.bu.all:=by
 by_cases h:k<b.runs.length+1
 ·rw[pre_all]
  exact List.mem_flatMap.2 ⟨k,List.mem_range.2 h,List.mem_map.2 ⟨x,hx,rfl⟩⟩
 ·obtain⟨j,rfl⟩: ∃j,k=j+1:=⟨k-1,by omega⟩
  simp[Buf.part,List.getElem?_eq_none (l:=b.runs) (i:=j) (by omega)]at hx
theorem okE_short {e:En}(h:okE e=true):e.r.length≤8:=by
 unfold okE at h;simp only[Bool.and_eq_true]at h;have h1:keyErr e.r=0:=by simpa using h.1.1.1
 unfold keyErr at h1;by_cases h8:8<e.r.length
 ·rw[if_pos h8]at h1;cases h1
 ·omega
theorem sorted_alone {m l:List En}(hp:m.Perm l)(hs:m.Pairwise fun a b=> ¬cmpE b a<0)(hn: ∀j x y,m[j]?=some x→m[j+1]?=some y→cmpE x y≠0):aloneB l=true:=
 aloneB_iff.2 (alone_perm hp (up_of_sorted hs hn).alone)
theorem sorted_twin {m l:List En}(hp:m.Perm l){j:Nat}{x y:En}(hx:m[j]?=some x)(hy:m[j+1]?=some y)(h:cmpE x y=0):aloneB l=false:=by
 cases ha:aloneB l with
 |false=>rfl
 |true=>
  have h1:=alone_perm hp.symm (aloneB_iff.1 ha);obtain⟨i1,e1⟩:=List.getElem?_eq_some_iff.1 hx;obtain⟨i2,e2⟩:=List.getElem?_eq_some_iff.1 hy;have:=List.pairwise_iff_getElem.1 h1 j (j+1) i1 i2 (by omega);rw[e1,e2]at this;exact absurd h this
set_option maxRecDepth 100000 in
set_option maxHeartbeats 16000000 in
theorem bcheck_any (b:Buf)(w:World)(hb:b.ok w)(hf:b.fit)(hm:Mx w):
 Calls Tryz.prog 43 #[b.agg] w fun e w'=>e= .returned (.int .i64 (checkB b.bu))∧Below w.heap.size w w':=by
 have HO:=Lib.hid hb;have HF:=Lib.hid hf;have HM:=Lib.hid hm;have hmx:Tryz.prog.follows .mixedOrders=true:=by kernel_rfl
 have HR:Hid (checkB b.bu=if inB b.limit 1 64=false then 3 else if 4096<b.bu.all.length∨b.limit<(b.mem.length:Int)then 2
  else if b.bu.runs.any List.isEmpty=false∧b.bu.parts.all upB=true∧b.bu.all.all okE=true∧aloneB b.bu.all=true then 0 else 1):=Lib.hid (by
   unfold checkB;rw[show(b.bu.mem.length:Int)=b.mem.length by show((ens b.mem).length:Int)=_;rw[ens_len]];rfl)
 have HRL:=Lib.hid hf.lnum;have HPLE:=Lib.hid (fun k=>(hf.part k).2);generalize checkB b.bu=R at HR⊢;unfold Buf.agg;clear hb hf hm;refine(callsIn_wide (n:=3)).1 ?_;refine callsIn_of_wp_marks Tryz.func43 rfl trivial ?_ rfl;simp only[Tryz.ntmps43,List.size_toArray,List.length_cons,List.length_nil,Nat.reduceAdd,Nat.reduceSub,Array.replicate_succ,Array.replicate_zero,List.push_toArray,List.append_toArray,List.nil_append,List.cons_append];have hX:Below w.heap.size w ((w.alloc (.cells #[.int .i64 b.limit,b.vm,b.vr] 29)).alloc (.cells #[.int .i64 3] 32)):=((Below.refl _ w).alloc (Nat.le_refl _) _).alloc (by simp) _;have HX3:=Lib.hid (Blk.new (w.alloc (.cells #[.int .i64 b.limit,b.vm,b.vr] 29)) 32 #[.int .i64 3]);by_cases h1:1≤b.limit
 ·by_cases h2:b.limit≤64
  ·have HR2:=Lib.hid (HR.out.trans (if_neg (by rw[inB_yes h1 h2];simp)))
   clear HR HX3 hX
   gi_wp2_with (refine⟨trivial,?_⟩;gi_at_call 83;refine(callsIn_wide.2 (parts_any b _)).mono ?_;rintro e w' ⟨rfl,rfl⟩)
   have hB0:Below w.heap.size w ((((w.alloc (.cells #[.int .i64 b.limit,b.vm,b.vr] 29)).alloc (.cells #[.int .i64 0] 32)).alloc (.cells #[.int .i64 0] 3)).alloc (.cells #[.int .i64 b.limit,b.vm,b.vr] 29)):=
    ((((Below.refl _ w).alloc (Nat.le_refl _) _).alloc (by simp) _).alloc (by simp;omega) _).alloc (by simp;omega) _
   have k0:=((Blk.new w 29 #[.int .i64 b.limit,b.vm,b.vr]).alloc (.cells #[.int .i64 0] 32)).alloc (.cells #[.int .i64 0] 3)|>.alloc (.cells #[.int .i64 b.limit,b.vm,b.vr] 29);have k1:=((Blk.new (w.alloc (.cells #[.int .i64 b.limit,b.vm,b.vr] 29)) 32 #[.int .i64 0]).alloc (.cells #[.int .i64 0] 3)).alloc (.cells #[.int .i64 b.limit,b.vm,b.vr] 29);have k2:=(Blk.new ((w.alloc (.cells #[.int .i64 b.limit,b.vm,b.vr] 29)).alloc (.cells #[.int .i64 0] 32)) 3 #[.int .i64 0]).alloc (.cells #[.int .i64 b.limit,b.vm,b.vr] 29);have k3:=Blk.new (((w.alloc (.cells #[.int .i64 b.limit,b.vm,b.vr] 29)).alloc (.cells #[.int .i64 0] 32)).alloc (.cells #[.int .i64 0] 3)) 29 #[.int .i64 b.limit,b.vm,b.vr];simp only[World.size_alloc]at k0 k1 k2 k3;obtain⟨W0,hW0⟩: ∃W0,(((w.alloc (.cells #[.int .i64 b.limit,b.vm,b.vr] 29)).alloc (.cells #[.int .i64 0] 32)).alloc (.cells #[.int .i64 0] 3)).alloc (.cells #[.int .i64 b.limit,b.vm,b.vr] 29)=W0:=⟨_,rfl⟩;have hsz:W0.heap.size=w.heap.size+4:=by rw[←hW0];simp
   rw[hW0]at hB0 k0 k1 k2 k3⊢
   refine wpIn_rangeFunc_ownF rfl (by omega) (gf:=135) (lb:= #[.pointer (some ⟨w.heap.size+1+1+1,0,none⟩)]) rfl trivial (enters_of Tryz.func135 (by kernel_rfl) rfl)
    (parts_stops Fence.wide _ trivial rfl (by omega) (w.heap.size+1+1+1) b W0 k3 w hB0 HO.out) KpB.trans (KpB.put (by omega) (by omega)) (Below.refl _ _) (fun _=>rfl)
    (fun pre W=>(sumP b pre≤4096∧Blk W w.heap.size 29 #[.int .i64 b.limit,b.vm,b.vr]∧Blk W (w.heap.size+1) 32 #[.int .i64 0]∧Blk W (w.heap.size+1+1) 3 #[.int .i64 (sumP b pre:Nat)]∧w.heap.size+4≤W.heap.size)∧Below w.heap.size w W)
    (fun c pre W=>(c= .ret∧4096<sumP b pre∧Blk W (w.heap.size+1) 32 #[.int .i64 2])∧Below w.heap.size w W)
    (OwnFrom.and (Own.from (fun s A B row hs hg hr=>⟨hs.1,blk_own hs.2.1 hg hr,blk_own hs.2.2.1 hg hr,blk_own hs.2.2.2.1 hg hr,Nat.le_trans hs.2.2.2.2 hg.size⟩) _) (ownFrom_below (Nat.le_refl _) (by omega)))
    (fun c=>OwnFrom.and (Own.from (fun s A B row hs hg hr=>⟨hs.1,hs.2.1,blk_own hs.2.2 hg hr⟩) _) (ownFrom_below (Nat.le_refl _) (by omega)))
    ⟨⟨by simp[sumP],k0,k1,k2,by omega⟩,hB0⟩
    (fun k=> {tmps:= #[.agg #[.int .i64 b.limit,b.vm,b.vr],.pointer (some ⟨w.heap.size,0,none⟩),.pointer (some ⟨w.heap.size+1,0,none⟩),.pointer (some ⟨w.heap.size+1+1,0,none⟩),undef,(b.part k).1,undef,undef,undef,undef,undef,undef,.pointer (some ⟨w.heap.size,0,none⟩),.int .i64 b.limit,.bool (decide (b.limit<1)),.bool (decide (b.limit<1)),.pointer (some ⟨w.heap.size,0,none⟩),.int .i64 b.limit,.bool (decide (64<b.limit)),.bool (decide (b.limit<1)||decide (64<b.limit)),.agg #[.int .i64 b.limit,b.vm,b.vr],.func (.func 135) #[] #[.pointer (some ⟨w.heap.size+1+1+1,0,none⟩)],.int .i64 (idxP k),(b.part k).1,undef,undef,undef,undef,undef,undef,undef,undef,undef,undef,undef,undef,undef,undef,undef,undef,undef,undef,undef,undef,undef,undef,undef,undef,undef,undef,undef,undef,undef,undef,undef,undef,undef,undef,undef,undef,undef,undef,undef,undef,undef,undef,undef,undef,undef,undef,undef,undef,undef,undef,undef,undef,undef,undef,undef,undef,undef,undef,undef,undef,undef,undef,undef,undef,undef,undef,undef],defers:=[]}) ?assign ?body ?done ?stop
   case assign=>
    intro l k W K hK;dsimp only[encP]
    gi_wp2
    exact hK
   case body=>
    rintro l pre k W ⟨⟨hs,hKB,hKR,hKN,hWs⟩,hB⟩ hpre;have y0:=hKN.cell 0 _ rfl;have f0:=hKN.free 0;have r0:=hKR.cell 0 _ rfl;have g0:=hKR.free 0;have hpl:=HPLE.out k;have HSN:=Lib.hid (sumP_snoc b pre k);obtain⟨A5,c5,hpv,-⟩:=id (HO.out.part k).sl;generalize (b.part k).1=pv at hpv⊢;generalize (b.part k).2=pl at hpl HSN hpv;subst hpv;have hw:IntKind.i64.wrap (((sumP b pre:Nat):Int)+(pl.length:Int))=((sumP b pre:Nat):Int)+(pl.length:Int):=by rw[IntKind.wrap_i64];omega
    have HK3:=Lib.hid (hKN.set_ 0 (.int .i64 (((sumP b pre:Nat):Int)+(pl.length:Int))));have u0:=HK3.out.cell 0 (.int .i64 (((sumP b pre:Nat):Int)+(pl.length:Int))) rfl;have HK4:=Lib.hid (hKR.far (p:=⟨w.heap.size+1+1,0,none⟩) (by show w.heap.size+1≠w.heap.size+1+1;omega) (.int .i64 (((sumP b pre:Nat):Int)+(pl.length:Int))));have HK5:=Lib.hid (hKB.far (p:=⟨w.heap.size+1+1,0,none⟩) (by show w.heap.size≠w.heap.size+1+1;omega) (.int .i64 (((sumP b pre:Nat):Int)+(pl.length:Int))));have v0:=HK4.out.cell 0 _ rfl;have e0:=HK4.out.free 0;have hb3:=hB.setCell (p:=⟨w.heap.size+1+1,0,none⟩) (by show w.heap.size≤w.heap.size+1+1;omega) (.int .i64 (((sumP b pre:Nat):Int)+(pl.length:Int)));have KO3:=KeepsOthers.setCell W ⟨w.heap.size+1+1,0,none⟩ (.int .i64 (((sumP b pre:Nat):Int)+(pl.length:Int)));have HS2:Hid ((sumP b (pre++[k]):Nat)=sumP b pre+pl.length):=Lib.hid HSN.out;clear hKB hKR hKN;by_cases hbig:4096<sumP b pre+pl.length
    ·have hbig':(4096:Int)<((sumP b pre:Nat):Int)+(pl.length:Int):=by omega
     have HK6:=Lib.hid (HK4.out.set_ 0 (.int .i64 2))
     gi_wp2
     exact⟨KO3.trans (KeepsOthers.setCell _ _ _),⟨rfl,by rw[HS2.out];exact hbig,HK6.out⟩,hb3.setCell (p:=⟨w.heap.size+1,0,none⟩) (by show w.heap.size≤w.heap.size+1;omega) (.int .i64 2)⟩
    ·have hbig': ¬(4096:Int)<((sumP b pre:Nat):Int)+(pl.length:Int):=by omega
     have KP3:=(KpB.refl w.heap.size (w.heap.size+1+1+1) W).set (p:=⟨w.heap.size+1+1,0,none⟩) (by show w.heap.size≤w.heap.size+1+1;omega) (by show w.heap.size+1+1+1≠w.heap.size+1+1;omega) (.int .i64 (((sumP b pre:Nat):Int)+(pl.length:Int)))
     gi_wp2
     exact⟨KO3,KP3,⟨by rw[HS2.out];omega,HK5.out,HK4.out,by rw[HS2.out];exact HK3.out,by rw[World.size_setCell];exact hWs⟩,hb3⟩
   case done=>
    rintro D ys W hD rfl ⟨⟨hs,hKB,hKR,hKN,hWs⟩,hB⟩ hK;rw[sumP_all]at hs;have HAL:=Lib.hid hs;have hK1:=hK;obtain⟨Am,cm,hvm,hm1,hm2,-⟩:=id HO.out.mem.sl;have y0:=hKB.cell 0 _ rfl;have y1:=hKB.cell 1 _ rfl;have y2:=hKB.cell 2 _ rfl;have r0:=hKR.cell 0 _ rfl;have g0:=hKR.free 0;rw[hvm]at y1;have HVM:=Lib.hid hvm;have HKB:=Lib.hid hKB;have HKR:=Lib.hid hKR;clear hs hKN hKB hKR hvm hm2;by_cases hlim:b.limit<(b.mem.length:Int)
    ·have EE:=Lib.hid (HR2.out.trans (if_pos (.inr hlim)))
     have HKD:=Lib.hid ((KeepsOthers.setCell W ⟨w.heap.size+1,0,none⟩ (.int .i64 2)).same D _ hK rfl);have hc5:=(blk_put (o':= .deferred none) (HKR.out.set_ 0 (.int .i64 2)) HKD.out rfl).cell 0 (.int .i64 2) rfl
     gi_wp2
     refine⟨by simp,.inl ⟨_,_,rfl,run_takeDeferred HKD.out,?_⟩⟩;exact⟨.int .i64 2,by simp[results,Tryz.results43,go_sem,hc5],by rw[EE.out],(hB.setCell (p:=⟨w.heap.size+1,0,none⟩) (by show w.heap.size≤w.heap.size+1;omega) (.int .i64 2)).trans (belowK_b (w:=W0) (by omega) _ D _ _ hD HKD.out rfl rfl)⟩
    ·have HR3:=Lib.hid (HR2.out.trans (if_neg (fun h=>h.elim (fun h=>by have:=HAL.out;omega) hlim)))
     have hPW:=fun W'=>parts_any b W';rw[HVM.out]at hPW
     gi_wp2_with (refine⟨trivial,?_⟩;gi_at_call 83;refine(callsIn_wide.2 (hPW _)).mono ?_;rintro e w' ⟨rfl,rfl⟩)
     have hB1:=below_trans hB (below_alloc W (.cells #[.int .i64 b.limit,.slice Am b.mem.length cm,b.vr] 29));have j0:=HKB.out.alloc (.cells #[.int .i64 b.limit,.slice Am b.mem.length cm,b.vr] 29);have j1:=HKR.out.alloc (.cells #[.int .i64 b.limit,.slice Am b.mem.length cm,b.vr] 29);have j3:=Blk.new W 29 #[.int .i64 b.limit,.slice Am b.mem.length cm,b.vr];have j4:=(KeepsOthers.alloc W (.cells #[.int .i64 b.limit,.slice Am b.mem.length cm,b.vr] 29)).same D _ hK rfl;have hDW:D<W.heap.size:=(Array.getElem?_eq_some_iff.1 hK).1;obtain⟨W1,hW1⟩: ∃W1,W.alloc (.cells #[.int .i64 b.limit,.slice Am b.mem.length cm,b.vr] 29)=W1:=⟨_,rfl⟩;have hsz1:W1.heap.size=W.heap.size+1:=by rw[←hW1];simp
     rw[hW1]at hB1 j0 j1 j3 j4⊢;have j5:Blk W1 W.heap.size 29 #[.int .i64 b.limit,b.vm,b.vr]:=by rw[HVM.out];exact j3
     clear y0 y1 y2 r0 g0 hPW j3 hW1 hlim
     refine wpIn_rangeFunc_ownF rfl (by omega) (gf:=135) (lb:= #[.pointer (some ⟨W.heap.size,0,none⟩)]) rfl trivial (enters_of Tryz.func135 (by kernel_rfl) rfl)
      (parts_stops Fence.wide _ trivial rfl (by omega) W.heap.size b W1 j5 w hB1 HO.out) KpB.trans (KpB.put (by omega) (by omega)) (Below.refl _ _) (fun _=>rfl)
      (fun pre W2=>(((∀k∈pre,partB b k=true)∧Blk W2 w.heap.size 29 #[.int .i64 b.limit,b.vm,b.vr]∧Blk W2 (w.heap.size+1) 32 #[.int .i64 0]∧W.heap.size+1≤W2.heap.size)∧Below w.heap.size w W2)∧W2.heap[D]?=some (.deferred (some [])))
      (fun c pre W2=>((c= .ret∧(∃k∈pre,partB b k=false)∧Blk W2 (w.heap.size+1) 32 #[.int .i64 1])∧Below w.heap.size w W2)∧W2.heap[D]?=some (.deferred (some [])))
      (OwnFrom.and (OwnFrom.and (Own.from (fun s A B row hs hg hr=>⟨hs.1,blk_own hs.2.1 hg hr,blk_own hs.2.2.1 hg hr,Nat.le_trans hs.2.2.2 hg.size⟩) _) (ownFrom_below (Nat.le_refl _) (by omega))) (rec_kept (by omega)))
      (fun c=>OwnFrom.and (OwnFrom.and (Own.from (fun s A B row hs hg hr=>⟨hs.1,hs.2.1,blk_own hs.2.2 hg hr⟩) _) (ownFrom_below (Nat.le_refl _) (by omega))) (rec_kept (by omega)))
      ⟨⟨⟨nofun,j0,j1,by omega⟩,hB1⟩,j4⟩
      (fun k=> {tmps:= #[.agg #[.int .i64 b.limit,b.vm,b.vr],.pointer (some ⟨w.heap.size,0,none⟩),.pointer (some ⟨w.heap.size+1,0,none⟩),.pointer (some ⟨w.heap.size+1+1,0,none⟩),undef,undef,.int .i64 (idxP k),(b.part k).1,undef,undef,undef,undef,.pointer (some ⟨w.heap.size,0,none⟩),.int .i64 b.limit,.bool (decide (b.limit<1)),.bool (decide (b.limit<1)),.pointer (some ⟨w.heap.size,0,none⟩),.int .i64 b.limit,.bool (decide (64<b.limit)),.bool (decide (b.limit<1)||decide (64<b.limit)),.agg #[.int .i64 b.limit,b.vm,b.vr],.func (.func 135) #[] #[.pointer (some ⟨w.heap.size+1+1+1,0,none⟩)],undef,undef,undef,undef,undef,undef,undef,undef,.pointer (some ⟨w.heap.size,1,none⟩),.slice Am b.mem.length cm,.int .i64 (b.mem.length:Nat),.pointer (some ⟨w.heap.size,0,none⟩),.int .i64 b.limit,.bool false,.agg #[.int .i64 b.limit,.slice Am b.mem.length cm,b.vr],.func (.func 135) #[] #[.pointer (some ⟨W.heap.size,0,none⟩)],.int .i64 (idxP k),(b.part k).1,undef,undef,undef,undef,undef,undef,undef,undef,undef,undef,undef,undef,undef,undef,undef,undef,undef,undef,undef,undef,undef,undef,undef,undef,undef,undef,undef,undef,undef,undef,undef,undef,undef,undef,undef,undef,undef,undef,undef,undef,undef,undef,undef,undef,undef,undef,undef,undef,undef,undef,undef],defers:=[]}) ?assign2 ?body2 ?done2 ?stop2
     case assign2=>
      intro l k W K hK;dsimp only[encP]
      gi_wp2
      exact hK
     case body2=>
      rintro l pre k W2 ⟨⟨⟨hg,hKB2,hKR2,hWs2⟩,hB2⟩,hD2⟩ hpre;have HG:=Lib.hid hg;have HKB2:=Lib.hid hKB2;have HKR2:=Lib.hid hKR2;have HDD:=Lib.hid hD2;have HPE:=Lib.hid (HO.out.part k);have HFP:=Lib.hid (HF.out.part k).1;have hpl:=HPLE.out k;have HPB:Hid (partB b k=(((k==0)|| !(b.part k).2.isEmpty)&&upB (ens (b.part k).2)&&(ens (b.part k).2).all okE)):=Lib.hid rfl
      have HN:Hid ((k=0∧ ¬0≤idxP k)∨(k≠0∧0≤idxP k)):=Lib.hid (by
       cases k with
       |zero=>exact .inl ⟨rfl,by decide⟩
       |succ k=>exact .inr ⟨by omega,by show 0≤(k:Int);omega⟩)
      clear hg hKB2 hKR2 hD2;generalize idxP k=n at HN⊢;generalize b.part k=p at HPE HFP hpl HPB⊢;obtain⟨pv,pl⟩:=p;simp only at HPE HFP hpl HPB⊢;obtain⟨A5,c5,rfl,hq1,hq2,-⟩:=id HPE.out.sl;have HUP:=Lib.hid (up_all (l:=ens pl));have r0:=HKR2.out.cell 0 _ rfl;have g0:=HKR2.out.free 0;by_cases hem:k≠0∧pl.length=0
      ·have hn0:0≤n:=by rcases HN.out with h|h;exact absurd h.1 hem.1;exact h.2
       have hz:((pl.length:Int)==0)=true:=by rw[hem.2];rfl
       have HBD:Hid (partB b k=false):=Lib.hid (by
        rw[HPB.out,show pl=[]from List.length_eq_zero_iff.1 hem.2,show(k==0)=false from by simp[hem.1]];rfl)
       have HKD:=Lib.hid ((KeepsOthers.setCell W2 ⟨w.heap.size+1,0,none⟩ (.int .i64 1)).same D _ HDD.out rfl);have HK6:=Lib.hid (HKR2.out.set_ 0 (.int .i64 1));clear hem
       gi_wp2
       exact⟨KeepsOthers.setCell _ _ _,⟨⟨rfl,⟨k,by simp,HBD.out⟩,HK6.out⟩,hB2.setCell (p:=⟨w.heap.size+1,0,none⟩) (by show w.heap.size≤w.heap.size+1;omega) (.int .i64 1)⟩,HKD.out⟩
      ·have HNE:Hid (((k==0)|| !pl.isEmpty)=true):=Lib.hid (by
        by_cases h0:k=0
        ·simp[h0]
        ·have:pl.length≠0:=fun h=>hem ⟨h0,h⟩
         cases pl with
         |nil=>exact absurd rfl this
         |cons a t=>simp)
       have HPB2:Hid (partB b k=(upB (ens pl)&&(ens pl).all okE)):=Lib.hid (by rw[HPB.out,HNE.out,Bool.true_and])
       have hcond:(0≤n∧((pl.length:Int)==0)=false)∨ ¬0≤n:=by
        rcases HN.out with h|h
        ·exact .inr h.2
        ·refine .inl ⟨h.2,?_⟩
         have:pl.length≠0:=fun h'=>hem ⟨h.1,h'⟩;exact beqF (by omega)
       clear HPB HNE hem;have hgo:Hid True:=Lib.hid trivial;rcases hcond with⟨hn0,hz⟩|hn0
       ·gi_wp2
        clear r0 g0
        gi_loopw [8,9,49] (fun _ _ i wr=> ∃(m:Nat) (I:Int),i= .int .i64 I∧Hid (I=(m:Int))∧m≤pl.length∧Hid (∀j,j+1<m→upAt (ens pl) j=true)∧Hid (((ens pl).take m).all okE=true)∧Below W2.heap.size W2 wr) (fun _ _ i _=>pl.length-(intOf i).toNat)
        case atStart=>exact⟨0,0,rfl,Lib.hid rfl,by omega,Lib.hid (fun j h=>by omega),Lib.hid (by simp),Below.refl _ _⟩
        case round=>
         obtain⟨m,I,rfl,HI,hm,HU,HA,hbi⟩:=hrel;have hbq:=below_trans hB2 hbi;have hIn:I.toNat=m:=by have:=HI.out;omega
         by_cases hml:m<pl.length
         ·have hx:=List.getElem?_eq_getElem (l:=pl) hml
          generalize pl[m]=x at hx;have hmem:=List.mem_of_getElem? hx;have HXA:=Lib.hid (ens_at hx);have HTK:=Lib.hid (take_all (ens_at hx) okE);obtain⟨g5,off5,rfl,-,hc⟩:=ent_at HPE.out.sl rfl hx;obtain⟨Ax,cx,hvx,-⟩:=id (HPE.out.rows x hmem);have hsx:=HPE.out.rows x hmem;have HFX:=Lib.hid (HFP.out x hmem);rw[hvx]at hsx;simp only[hvx]at hc;obtain⟨d0,d1,d2,d3,d4⟩:=hc _ hbq;have hb1:=below_trans hbq (below_alloc wr (.cells #[.string (str x.e.key),.int .i64 x.e.t,.int .i64 x.e.s,.slice Ax x.e.r.length cx,.bool x.e.met] 63));have hbi1:=below_trans hbi (below_alloc wr (.cells #[.string (str x.e.key),.int .i64 x.e.t,.int .i64 x.e.s,.slice Ax x.e.r.length cx,.bool x.e.met] 63));have HFI:=Lib.hid (fine_ent ⟨.slice Ax x.e.r.length cx,x.e⟩ _ (hsx.below hb1.drew) HFX.out (HM.out.below hb1.drew));have K2:=Lib.hid (Blk.new wr 63 #[.string (str x.e.key),.int .i64 x.e.t,.int .i64 x.e.s,.slice Ax x.e.r.length cx,.bool x.e.met]);have z0:=K2.out.cell 0 _ rfl;have z1:=K2.out.cell 1 _ rfl;have z2:=K2.out.cell 2 _ rfl;have z3:=K2.out.cell 3 _ rfl;have z4:=K2.out.cell 4 _ rfl;have HKR3:=Lib.hid ((HKR2.out.below hbi1).drew);unfold Ent.agg at HFI;simp only at HFI;clear hx hmem hc hsx hvx;have k0:(0:Int)≤I:=by have:=HI.out;omega
          have k1:I<(pl.length:Int):=by have:=HI.out;omega
          have hwm:IntKind.i64.wrap (I+1)=I+1:=by rw[IntKind.wrap_i64];have:=HI.out;omega
          cases hok:okE x.e with
          |false=>
           have HBD:Hid (partB b k=false):=Lib.hid (by
            rw[HPB2.out]
            have:(ens pl).all okE=false:=by
             rw[List.all_eq_false];exact⟨x.e,List.mem_of_getElem? HXA.out,by rw[hok];simp⟩
            rw[this,Bool.and_false])
           rw[hok]at HFI
           gi_wp2_with fail
           refine regionIn_held (S:=(fun w'=>w'.cell? ⟨wr.heap.size,0,none⟩=some (.string (str x.e.key))∧w'.cell? ⟨wr.heap.size,1,none⟩=some (.int .i64 x.e.t)∧w'.cell? ⟨wr.heap.size,2,none⟩=some (.int .i64 x.e.s)∧w'.cell? ⟨wr.heap.size,3,none⟩=some (.slice Ax x.e.r.length cx)∧w'.cell? ⟨wr.heap.size,4,none⟩=some (.bool x.e.met))) hmx (by kernel_rfl) (by rintro⟨a,w,h⟩;exact h) (And.intro (z0) (And.intro (z1) (And.intro (z2) (And.intro (z3) (z4))))) (fun hHeld=> ?_);refine tk 0 ?_;refine tc 1 ?_;intro K hK;go_simp;refine HFI.out.mono ?_;rintro e w5 ⟨rfl,hb5⟩;have K5:=(K2.out.drew).below hb5;have zz:=And.intro (K5.cell 0 _ rfl) (And.intro (K5.cell 1 _ rfl) (And.intro (K5.cell 2 _ rfl) (And.intro (K5.cell 3 _ rfl) (K5.cell 4 _ rfl))))
           go_wp2_with fail
           refine hK.out _ _ zz (fun hHeld1=> ?_);clear hK K;refine tk 2 ?_;refine tk 3 ?_;refine tn 4 ?_;refine tn 5 ?_;refine tn 6 ?_;refine tn 7 ?_;refine tn 8 ?_;refine tn 9 ?_;refine tn 10 ?_;refine tn 11 ?_;refine tn 12 ?_;refine tn 13 ?_;refine tn 14 ?_;refine tn 15 ?_;refine tk 16 ?_;refine td ?_;have r5:=(HKR3.out.below hb5).cell 0 _ rfl;have g5':=(HKR3.out.below hb5).free 0;have hb15:=below_trans hbi1.drew hb5;have KO5:=keeps_below hb15;have HKD:=Lib.hid ((KO5.trans (KeepsOthers.setCell w5 ⟨w.heap.size+1,0,none⟩ (.int .i64 1))).same D _ HDD.out rfl);have HK6:=Lib.hid ((HKR3.out.below hb5).set_ 0 (.int .i64 1))
           gi_wp2
           exact⟨KO5.trans (KeepsOthers.setCell _ _ _),⟨⟨rfl,⟨k,by simp,HBD.out⟩,HK6.out⟩,(below_trans hB2 hb15).setCell (p:=⟨w.heap.size+1,0,none⟩) (by show w.heap.size≤w.heap.size+1;omega) (.int .i64 1)⟩,HKD.out⟩
          |true=>
           have HA2:Hid (((ens pl).take (m+1)).all okE=true):=Lib.hid (by rw[HTK.out,HA.out,hok];rfl);rw[hok]at HFI;clear hok;by_cases hm0:m=0
           ·have HU2:Hid (∀j,j+1<m+1→upAt (ens pl) j=true):=Lib.hid (fun j hj=>by omega)
            have hI0:decide ((0:Int)<I)=false:=decide_eq_false (by have:=HI.out;omega);clear hm0
            gi_wp2_with fail
            refine regionIn_held (S:=(fun w'=>w'.cell? ⟨wr.heap.size,0,none⟩=some (.string (str x.e.key))∧w'.cell? ⟨wr.heap.size,1,none⟩=some (.int .i64 x.e.t)∧w'.cell? ⟨wr.heap.size,2,none⟩=some (.int .i64 x.e.s)∧w'.cell? ⟨wr.heap.size,3,none⟩=some (.slice Ax x.e.r.length cx)∧w'.cell? ⟨wr.heap.size,4,none⟩=some (.bool x.e.met))) hmx (by kernel_rfl) (by rintro⟨a,w,h⟩;exact h) (And.intro (z0) (And.intro (z1) (And.intro (z2) (And.intro (z3) (z4))))) (fun hHeld=> ?_);refine tk 0 ?_;refine tc 1 ?_;intro K hK;go_simp;refine HFI.out.mono ?_;rintro e w5 ⟨rfl,hb5⟩;have K5:=(K2.out.drew).below hb5;have zz:=And.intro (K5.cell 0 _ rfl) (And.intro (K5.cell 1 _ rfl) (And.intro (K5.cell 2 _ rfl) (And.intro (K5.cell 3 _ rfl) (K5.cell 4 _ rfl))))
            go_wp2_with fail
            refine hK.out _ _ zz (fun hHeld1=> ?_);clear hK K;refine tk 2 ?_;refine tk 3 ?_;refine tk 4 ?_;refine tk 5 ?_;refine tk 6 ?_;refine tn 7 ?_;refine tn 8 ?_;refine tn 9 ?_;refine tn 10 ?_;refine tn 11 ?_;refine tn 12 ?_;refine tn 13 ?_;refine tn 14 ?_;refine tk 15 ?_;refine tk 16 ?_;refine td ?_;have hb15:=below_trans hbi1.drew hb5
            gi_wp2
            go_roundw
            case rel=>exact⟨m+1,_,by go_num,Lib.hid (by have:=HI.out;omega),by omega,HU2,HA2,hb15⟩
            case measure=>have:=HI.out;simp[intOf];omega
           ·obtain⟨q,rfl⟩: ∃q,m=q+1:=⟨m-1,by omega⟩
            have hI0:decide ((0:Int)<I)=true:=decide_eq_true (by have:=HI.out;omega);have hy:=List.getElem?_eq_getElem (l:=pl) (i:=q) (by omega);generalize pl[q]=y at hy;have HYA:=Lib.hid (ens_at hy);obtain⟨g6,off6,hA6,-,hcy⟩:=ent_at HPE.out.sl rfl hy;injection hA6 with hA6;injection hA6 with q1 q2;subst q1 q2;have HCY:=Lib.hid hcy;obtain⟨e0,e1,e2,e3,e4⟩:=hcy _ hb1;have hw1:IntKind.i64.wrap (I-1)=I-1:=by rw[IntKind.wrap_i64];have:=HI.out;omega
            have hI1:(I-1).toNat=q:=by have:=HI.out;omega
            have hI2:(0:Int)≤I-1:=by have:=HI.out;omega
            have hI4:1≤I:=by have:=HI.out;omega
            have hI3:I-1<(pl.length:Int):=by have:=HI.out;omega
            have HOP:=Lib.hid (fun W'=>order_ent y ⟨.slice Ax x.e.r.length cx,x.e⟩ W');unfold Ent.agg at HOP;simp only at HOP;clear hy hcy hm0
            gi_wp2_with fail
            refine regionIn_held (S:=(fun w'=>w'.cell? ⟨wr.heap.size,0,none⟩=some (.string (str x.e.key))∧w'.cell? ⟨wr.heap.size,1,none⟩=some (.int .i64 x.e.t)∧w'.cell? ⟨wr.heap.size,2,none⟩=some (.int .i64 x.e.s)∧w'.cell? ⟨wr.heap.size,3,none⟩=some (.slice Ax x.e.r.length cx)∧w'.cell? ⟨wr.heap.size,4,none⟩=some (.bool x.e.met)∧w'.cell? ⟨g5,off5+q*5,none⟩=some (.string (str y.e.key))∧w'.cell? ⟨g5,off5+q*5+1,none⟩=some (.int .i64 y.e.t)∧w'.cell? ⟨g5,off5+q*5+2,none⟩=some (.int .i64 y.e.s)∧w'.cell? ⟨g5,off5+q*5+3,none⟩=some (y.v)∧w'.cell? ⟨g5,off5+q*5+4,none⟩=some (.bool y.e.met))) hmx (by kernel_rfl) (by rintro⟨a,w,h⟩;exact h) (And.intro (z0) (And.intro (z1) (And.intro (z2) (And.intro (z3) (And.intro (z4) (And.intro (e0) (And.intro (e1) (And.intro (e2) (And.intro (e3) (e4)))))))))) (fun hHeld=> ?_);refine tk 0 ?_;refine tc 1 ?_;intro K hK;go_simp;refine HFI.out.mono ?_;rintro e w5 ⟨rfl,hb5⟩;have K5:=(K2.out.drew).below hb5;obtain⟨f0,f1,f2,f3,f4⟩:=HCY.out _ (below_trans hb1.drew hb5);have zz:=And.intro (K5.cell 0 _ rfl) (And.intro (K5.cell 1 _ rfl) (And.intro (K5.cell 2 _ rfl) (And.intro (K5.cell 3 _ rfl) (And.intro (K5.cell 4 _ rfl) (And.intro (f0) (And.intro (f1) (And.intro (f2) (And.intro (f3) (f4)))))))))
            go_wp2_with fail
            refine hK.out _ _ zz (fun hHeld1=> ?_);clear hK K;refine tk 2 ?_;refine tk 3 ?_;refine tk 4 ?_;refine tk 5 ?_;refine tk 6 ?_;refine tk 7 ?_;refine tk 8 ?_;refine tk 9 ?_;refine tk 10 ?_;refine tk 11 ?_;refine tk 12 ?_;refine tc 13 ?_;intro K hK;go_simp;refine(HOP.out _).mono ?_;rintro e w6 ⟨rfl,hb6⟩;have K6:=K5.below hb6;obtain⟨f0,f1,f2,f3,f4⟩:=HCY.out _ (below_trans (below_trans hb1.drew hb5) hb6);have zz:=And.intro (K6.cell 0 _ rfl) (And.intro (K6.cell 1 _ rfl) (And.intro (K6.cell 2 _ rfl) (And.intro (K6.cell 3 _ rfl) (And.intro (K6.cell 4 _ rfl) (And.intro (f0) (And.intro (f1) (And.intro (f2) (And.intro (f3) (f4)))))))))
            go_wp2_with fail
            refine hK.out _ _ zz (fun hHeld13=> ?_);clear hK K;refine tk 14 ?_;refine tk 15 ?_;refine tk 16 ?_;refine td ?_;have hb15:=below_trans (below_trans hbi1.drew hb5) hb6;by_cases hz:cmpE y.e x.e<0
            ·have hz': ¬0≤cmpE y.e x.e:=by omega
             have HU2:Hid (∀j,j+1<q+1+1→upAt (ens pl) j=true):=Lib.hid fun j hj=>by
              by_cases e:j=q
              ·subst e
               unfold upAt;rw[HXA.out,HYA.out];exact decide_eq_true hz
              ·exact HU.out j (by omega)
             gi_wp2
             go_roundw
             case rel=>exact⟨q+1+1,_,by go_num,Lib.hid (by have:=HI.out;omega),by omega,HU2,HA2,hb15⟩
             case measure=>have:=HI.out;simp[intOf];omega
            ·have hz':0≤cmpE y.e x.e:=by omega
             have HBD:Hid (partB b k=false):=Lib.hid (by
              rw[HPB2.out,up_bad HYA.out HXA.out hz,Bool.false_and])
             have r5:=((HKR3.out.below hb5).below hb6).cell 0 _ rfl;have g5':=((HKR3.out.below hb5).below hb6).free 0;have KO5:=keeps_below hb15;have HKD:=Lib.hid ((KO5.trans (KeepsOthers.setCell w6 ⟨w.heap.size+1,0,none⟩ (.int .i64 1))).same D _ HDD.out rfl);have HK6:=Lib.hid (((HKR3.out.below hb5).below hb6).set_ 0 (.int .i64 1))
             gi_wp2
             exact⟨KO5.trans (KeepsOthers.setCell _ _ _),⟨⟨rfl,⟨k,by simp,HBD.out⟩,HK6.out⟩,(below_trans hB2 hb15).setCell (p:=⟨w.heap.size+1,0,none⟩) (by show w.heap.size≤w.heap.size+1;omega) (.int .i64 1)⟩,HKD.out⟩
         ·obtain rfl:m=pl.length:=by omega
          have hIl: ¬I<(pl.length:Int):=by have:=HI.out;omega
          have HOK:Hid (partB b k=true):=Lib.hid (by
           have h:=HA.out;rw[List.take_of_length_le (by rw[ens_len];omega)]at h;rw[HPB2.out,HUP.out (fun j hj=>HU.out j (by rwa[ens_len]at hj)),h];rfl)
          have KO5:=keeps_below hbi;have HKD:=Lib.hid (KO5.same D _ HDD.out rfl);have HK6:=Lib.hid (HKR2.out.below hbi);have HK7:=Lib.hid (HKB2.out.below hbi);have hs5:=hbi.size
          gi_wp2
          exact⟨KO5,KpB.of_below (by omega) (by omega) hbi,⟨⟨fun j hj=>by
           rcases List.mem_append.1 hj with hj|hj
           ·exact HG.out j hj
           ·rw[List.mem_singleton.1 hj];exact HOK.out,HK7.out,HK6.out,by omega⟩,hbq⟩,HKD.out⟩
       ·gi_wp2
        clear r0 g0
        gi_loopw [8,9,49] (fun _ _ i wr=> ∃(m:Nat) (I:Int),i= .int .i64 I∧Hid (I=(m:Int))∧m≤pl.length∧Hid (∀j,j+1<m→upAt (ens pl) j=true)∧Hid (((ens pl).take m).all okE=true)∧Below W2.heap.size W2 wr) (fun _ _ i _=>pl.length-(intOf i).toNat)
        case atStart=>exact⟨0,0,rfl,Lib.hid rfl,by omega,Lib.hid (fun j h=>by omega),Lib.hid (by simp),Below.refl _ _⟩
        case round=>
         obtain⟨m,I,rfl,HI,hm,HU,HA,hbi⟩:=hrel;have hbq:=below_trans hB2 hbi;have hIn:I.toNat=m:=by have:=HI.out;omega
         by_cases hml:m<pl.length
         ·have hx:=List.getElem?_eq_getElem (l:=pl) hml
          generalize pl[m]=x at hx;have hmem:=List.mem_of_getElem? hx;have HXA:=Lib.hid (ens_at hx);have HTK:=Lib.hid (take_all (ens_at hx) okE);obtain⟨g5,off5,rfl,-,hc⟩:=ent_at HPE.out.sl rfl hx;obtain⟨Ax,cx,hvx,-⟩:=id (HPE.out.rows x hmem);have hsx:=HPE.out.rows x hmem;have HFX:=Lib.hid (HFP.out x hmem);rw[hvx]at hsx;simp only[hvx]at hc;obtain⟨d0,d1,d2,d3,d4⟩:=hc _ hbq;have hb1:=below_trans hbq (below_alloc wr (.cells #[.string (str x.e.key),.int .i64 x.e.t,.int .i64 x.e.s,.slice Ax x.e.r.length cx,.bool x.e.met] 63));have hbi1:=below_trans hbi (below_alloc wr (.cells #[.string (str x.e.key),.int .i64 x.e.t,.int .i64 x.e.s,.slice Ax x.e.r.length cx,.bool x.e.met] 63));have HFI:=Lib.hid (fine_ent ⟨.slice Ax x.e.r.length cx,x.e⟩ _ (hsx.below hb1.drew) HFX.out (HM.out.below hb1.drew));have K2:=Lib.hid (Blk.new wr 63 #[.string (str x.e.key),.int .i64 x.e.t,.int .i64 x.e.s,.slice Ax x.e.r.length cx,.bool x.e.met]);have z0:=K2.out.cell 0 _ rfl;have z1:=K2.out.cell 1 _ rfl;have z2:=K2.out.cell 2 _ rfl;have z3:=K2.out.cell 3 _ rfl;have z4:=K2.out.cell 4 _ rfl;have HKR3:=Lib.hid ((HKR2.out.below hbi1).drew);unfold Ent.agg at HFI;simp only at HFI;clear hx hmem hc hsx hvx;have k0:(0:Int)≤I:=by have:=HI.out;omega
          have k1:I<(pl.length:Int):=by have:=HI.out;omega
          have hwm:IntKind.i64.wrap (I+1)=I+1:=by rw[IntKind.wrap_i64];have:=HI.out;omega
          cases hok:okE x.e with
          |false=>
           have HBD:Hid (partB b k=false):=Lib.hid (by
            rw[HPB2.out]
            have:(ens pl).all okE=false:=by
             rw[List.all_eq_false];exact⟨x.e,List.mem_of_getElem? HXA.out,by rw[hok];simp⟩
            rw[this,Bool.and_false])
           rw[hok]at HFI
           gi_wp2_with fail
           refine regionIn_held (S:=(fun w'=>w'.cell? ⟨wr.heap.size,0,none⟩=some (.string (str x.e.key))∧w'.cell? ⟨wr.heap.size,1,none⟩=some (.int .i64 x.e.t)∧w'.cell? ⟨wr.heap.size,2,none⟩=some (.int .i64 x.e.s)∧w'.cell? ⟨wr.heap.size,3,none⟩=some (.slice Ax x.e.r.length cx)∧w'.cell? ⟨wr.heap.size,4,none⟩=some (.bool x.e.met))) hmx (by kernel_rfl) (by rintro⟨a,w,h⟩;exact h) (And.intro (z0) (And.intro (z1) (And.intro (z2) (And.intro (z3) (z4))))) (fun hHeld=> ?_);refine tk 0 ?_;refine tc 1 ?_;intro K hK;go_simp;refine HFI.out.mono ?_;rintro e w5 ⟨rfl,hb5⟩;have K5:=(K2.out.drew).below hb5;have zz:=And.intro (K5.cell 0 _ rfl) (And.intro (K5.cell 1 _ rfl) (And.intro (K5.cell 2 _ rfl) (And.intro (K5.cell 3 _ rfl) (K5.cell 4 _ rfl))))
           go_wp2_with fail
           refine hK.out _ _ zz (fun hHeld1=> ?_);clear hK K;refine tk 2 ?_;refine tk 3 ?_;refine tn 4 ?_;refine tn 5 ?_;refine tn 6 ?_;refine tn 7 ?_;refine tn 8 ?_;refine tn 9 ?_;refine tn 10 ?_;refine tn 11 ?_;refine tn 12 ?_;refine tn 13 ?_;refine tn 14 ?_;refine tn 15 ?_;refine tk 16 ?_;refine td ?_;have r5:=(HKR3.out.below hb5).cell 0 _ rfl;have g5':=(HKR3.out.below hb5).free 0;have hb15:=below_trans hbi1.drew hb5;have KO5:=keeps_below hb15;have HKD:=Lib.hid ((KO5.trans (KeepsOthers.setCell w5 ⟨w.heap.size+1,0,none⟩ (.int .i64 1))).same D _ HDD.out rfl);have HK6:=Lib.hid ((HKR3.out.below hb5).set_ 0 (.int .i64 1))
           gi_wp2
           exact⟨KO5.trans (KeepsOthers.setCell _ _ _),⟨⟨rfl,⟨k,by simp,HBD.out⟩,HK6.out⟩,(below_trans hB2 hb15).setCell (p:=⟨w.heap.size+1,0,none⟩) (by show w.heap.size≤w.heap.size+1;omega) (.int .i64 1)⟩,HKD.out⟩
          |true=>
           have HA2:Hid (((ens pl).take (m+1)).all okE=true):=Lib.hid (by rw[HTK.out,HA.out,hok];rfl);rw[hok]at HFI;clear hok;by_cases hm0:m=0
           ·have HU2:Hid (∀j,j+1<m+1→upAt (ens pl) j=true):=Lib.hid (fun j hj=>by omega)
            have hI0:decide ((0:Int)<I)=false:=decide_eq_false (by have:=HI.out;omega);clear hm0
            gi_wp2_with fail
            refine regionIn_held (S:=(fun w'=>w'.cell? ⟨wr.heap.size,0,none⟩=some (.string (str x.e.key))∧w'.cell? ⟨wr.heap.size,1,none⟩=some (.int .i64 x.e.t)∧w'.cell? ⟨wr.heap.size,2,none⟩=some (.int .i64 x.e.s)∧w'.cell? ⟨wr.heap.size,3,none⟩=some (.slice Ax x.e.r.length cx)∧w'.cell? ⟨wr.heap.size,4,none⟩=some (.bool x.e.met))) hmx (by kernel_rfl) (by rintro⟨a,w,h⟩;exact h) (And.intro (z0) (And.intro (z1) (And.intro (z2) (And.intro (z3) (z4))))) (fun hHeld=> ?_);refine tk 0 ?_;refine tc 1 ?_;intro K hK;go_simp;refine HFI.out.mono ?_;rintro e w5 ⟨rfl,hb5⟩;have K5:=(K2.out.drew).below hb5;have zz:=And.intro (K5.cell 0 _ rfl) (And.intro (K5.cell 1 _ rfl) (And.intro (K5.cell 2 _ rfl) (And.intro (K5.cell 3 _ rfl) (K5.cell 4 _ rfl))))
            go_wp2_with fail
            refine hK.out _ _ zz (fun hHeld1=> ?_);clear hK K;refine tk 2 ?_;refine tk 3 ?_;refine tk 4 ?_;refine tk 5 ?_;refine tk 6 ?_;refine tn 7 ?_;refine tn 8 ?_;refine tn 9 ?_;refine tn 10 ?_;refine tn 11 ?_;refine tn 12 ?_;refine tn 13 ?_;refine tn 14 ?_;refine tk 15 ?_;refine tk 16 ?_;refine td ?_;have hb15:=below_trans hbi1.drew hb5
            gi_wp2
            go_roundw
            case rel=>exact⟨m+1,_,by go_num,Lib.hid (by have:=HI.out;omega),by omega,HU2,HA2,hb15⟩
            case measure=>have:=HI.out;simp[intOf];omega
           ·obtain⟨q,rfl⟩: ∃q,m=q+1:=⟨m-1,by omega⟩
            have hI0:decide ((0:Int)<I)=true:=decide_eq_true (by have:=HI.out;omega);have hy:=List.getElem?_eq_getElem (l:=pl) (i:=q) (by omega);generalize pl[q]=y at hy;have HYA:=Lib.hid (ens_at hy);obtain⟨g6,off6,hA6,-,hcy⟩:=ent_at HPE.out.sl rfl hy;injection hA6 with hA6;injection hA6 with q1 q2;subst q1 q2;have HCY:=Lib.hid hcy;obtain⟨e0,e1,e2,e3,e4⟩:=hcy _ hb1;have hw1:IntKind.i64.wrap (I-1)=I-1:=by rw[IntKind.wrap_i64];have:=HI.out;omega
            have hI1:(I-1).toNat=q:=by have:=HI.out;omega
            have hI2:(0:Int)≤I-1:=by have:=HI.out;omega
            have hI4:1≤I:=by have:=HI.out;omega
            have hI3:I-1<(pl.length:Int):=by have:=HI.out;omega
            have HOP:=Lib.hid (fun W'=>order_ent y ⟨.slice Ax x.e.r.length cx,x.e⟩ W');unfold Ent.agg at HOP;simp only at HOP;clear hy hcy hm0
            gi_wp2_with fail
            refine regionIn_held (S:=(fun w'=>w'.cell? ⟨wr.heap.size,0,none⟩=some (.string (str x.e.key))∧w'.cell? ⟨wr.heap.size,1,none⟩=some (.int .i64 x.e.t)∧w'.cell? ⟨wr.heap.size,2,none⟩=some (.int .i64 x.e.s)∧w'.cell? ⟨wr.heap.size,3,none⟩=some (.slice Ax x.e.r.length cx)∧w'.cell? ⟨wr.heap.size,4,none⟩=some (.bool x.e.met)∧w'.cell? ⟨g5,off5+q*5,none⟩=some (.string (str y.e.key))∧w'.cell? ⟨g5,off5+q*5+1,none⟩=some (.int .i64 y.e.t)∧w'.cell? ⟨g5,off5+q*5+2,none⟩=some (.int .i64 y.e.s)∧w'.cell? ⟨g5,off5+q*5+3,none⟩=some (y.v)∧w'.cell? ⟨g5,off5+q*5+4,none⟩=some (.bool y.e.met))) hmx (by kernel_rfl) (by rintro⟨a,w,h⟩;exact h) (And.intro (z0) (And.intro (z1) (And.intro (z2) (And.intro (z3) (And.intro (z4) (And.intro (e0) (And.intro (e1) (And.intro (e2) (And.intro (e3) (e4)))))))))) (fun hHeld=> ?_);refine tk 0 ?_;refine tc 1 ?_;intro K hK;go_simp;refine HFI.out.mono ?_;rintro e w5 ⟨rfl,hb5⟩;have K5:=(K2.out.drew).below hb5;obtain⟨f0,f1,f2,f3,f4⟩:=HCY.out _ (below_trans hb1.drew hb5);have zz:=And.intro (K5.cell 0 _ rfl) (And.intro (K5.cell 1 _ rfl) (And.intro (K5.cell 2 _ rfl) (And.intro (K5.cell 3 _ rfl) (And.intro (K5.cell 4 _ rfl) (And.intro (f0) (And.intro (f1) (And.intro (f2) (And.intro (f3) (f4)))))))))
            go_wp2_with fail
            refine hK.out _ _ zz (fun hHeld1=> ?_);clear hK K;refine tk 2 ?_;refine tk 3 ?_;refine tk 4 ?_;refine tk 5 ?_;refine tk 6 ?_;refine tk 7 ?_;refine tk 8 ?_;refine tk 9 ?_;refine tk 10 ?_;refine tk 11 ?_;refine tk 12 ?_;refine tc 13 ?_;intro K hK;go_simp;refine(HOP.out _).mono ?_;rintro e w6 ⟨rfl,hb6⟩;have K6:=K5.below hb6;obtain⟨f0,f1,f2,f3,f4⟩:=HCY.out _ (below_trans (below_trans hb1.drew hb5) hb6);have zz:=And.intro (K6.cell 0 _ rfl) (And.intro (K6.cell 1 _ rfl) (And.intro (K6.cell 2 _ rfl) (And.intro (K6.cell 3 _ rfl) (And.intro (K6.cell 4 _ rfl) (And.intro (f0) (And.intro (f1) (And.intro (f2) (And.intro (f3) (f4)))))))))
            go_wp2_with fail
            refine hK.out _ _ zz (fun hHeld13=> ?_);clear hK K;refine tk 14 ?_;refine tk 15 ?_;refine tk 16 ?_;refine td ?_;have hb15:=below_trans (below_trans hbi1.drew hb5) hb6;by_cases hz:cmpE y.e x.e<0
            ·have hz': ¬0≤cmpE y.e x.e:=by omega
             have HU2:Hid (∀j,j+1<q+1+1→upAt (ens pl) j=true):=Lib.hid fun j hj=>by
              by_cases e:j=q
              ·subst e
               unfold upAt;rw[HXA.out,HYA.out];exact decide_eq_true hz
              ·exact HU.out j (by omega)
             gi_wp2
             go_roundw
             case rel=>exact⟨q+1+1,_,by go_num,Lib.hid (by have:=HI.out;omega),by omega,HU2,HA2,hb15⟩
             case measure=>have:=HI.out;simp[intOf];omega
            ·have hz':0≤cmpE y.e x.e:=by omega
             have HBD:Hid (partB b k=false):=Lib.hid (by
              rw[HPB2.out,up_bad HYA.out HXA.out hz,Bool.false_and])
             have r5:=((HKR3.out.below hb5).below hb6).cell 0 _ rfl;have g5':=((HKR3.out.below hb5).below hb6).free 0;have KO5:=keeps_below hb15;have HKD:=Lib.hid ((KO5.trans (KeepsOthers.setCell w6 ⟨w.heap.size+1,0,none⟩ (.int .i64 1))).same D _ HDD.out rfl);have HK6:=Lib.hid (((HKR3.out.below hb5).below hb6).set_ 0 (.int .i64 1))
             gi_wp2
             exact⟨KO5.trans (KeepsOthers.setCell _ _ _),⟨⟨rfl,⟨k,by simp,HBD.out⟩,HK6.out⟩,(below_trans hB2 hb15).setCell (p:=⟨w.heap.size+1,0,none⟩) (by show w.heap.size≤w.heap.size+1;omega) (.int .i64 1)⟩,HKD.out⟩
         ·obtain rfl:m=pl.length:=by omega
          have hIl: ¬I<(pl.length:Int):=by have:=HI.out;omega
          have HOK:Hid (partB b k=true):=Lib.hid (by
           have h:=HA.out;rw[List.take_of_length_le (by rw[ens_len];omega)]at h;rw[HPB2.out,HUP.out (fun j hj=>HU.out j (by rwa[ens_len]at hj)),h];rfl)
          have KO5:=keeps_below hbi;have HKD:=Lib.hid (KO5.same D _ HDD.out rfl);have HK6:=Lib.hid (HKR2.out.below hbi);have HK7:=Lib.hid (HKB2.out.below hbi);have hs5:=hbi.size
          gi_wp2
          exact⟨KO5,KpB.of_below (by omega) (by omega) hbi,⟨⟨fun j hj=>by
           rcases List.mem_append.1 hj with hj|hj
           ·exact HG.out j hj
           ·rw[List.mem_singleton.1 hj];exact HOK.out,HK7.out,HK6.out,by omega⟩,hbq⟩,HKD.out⟩
     case done2=>
      rintro D2 ys W2 hD2 rfl ⟨⟨⟨hg,hKB2,hKR2,hWs2⟩,hB2⟩,hKD⟩ hK2;obtain⟨hp1,hp2,hp3⟩:=(parts_good b).1 fun k hk=>hg k (List.mem_range.2 hk)
      have HR4:Hid (R=if aloneB b.bu.all=true then 0 else 1):=Lib.hid (HR3.out.trans (ite_iff ⟨fun h=>h.2.2.2,fun h=>⟨hp1,hp2,hp3,h⟩⟩));have HME:=Lib.hid (merged_any b W2 (HO.out.below hB2) (fun k=>by have h1:=part_len b k;have h2:=HAL.out;omega) (by have h2:=HAL.out;omega) (by have h1:=runs_len hp1;have h2:=HAL.out;omega) (fun k x hx=>okE_short (List.all_eq_true.1 hp3 _ (part_mem hx))));have HAL2:Hid (b.bu.all.length≤1000000):=Lib.hid (by have h2:=HAL.out;omega);unfold Buf.agg at HME;have y0:=hKB2.cell 0 _ rfl;have y1:=hKB2.cell 1 _ rfl;have y2:=hKB2.cell 2 _ rfl;have HKR2:=Lib.hid hKR2;have HKD:=Lib.hid hKD;have HK2:=Lib.hid hK2;have hne:D≠D2:=by omega
      have hD2w:w.heap.size≤D2:=by omega
      clear hg hKB2 hKR2 hp1 hp2 hp3 hKD hK2
      gi_wp2_with fail
      refine⟨trivial,(callsIn_wide.2 HME.out).mono ?_⟩;rintro e w3 ⟨v3,l3,rfl,hown,hperm,hsort,hb3,hs3⟩;have HE3:=Lib.hid hown.ents;have HPE:=Lib.hid hperm;have HSO:=Lib.hid hsort;have hlen:l3.length≤1000000:=by have h1:=HAL2.out;have h2:=hperm.length_eq;rw[ens_len]at h2;omega
      obtain⟨A3,c3,rfl,hz1,hz2,-⟩:=id HE3.out.sl;have HKR3:=Lib.hid (HKR2.out.below hb3);have HKDa:=Lib.hid ((keeps_below hb3).same D _ HKD.out rfl);have HKDb:=Lib.hid ((keeps_below hb3).same D2 _ HK2.out rfl);have hbw3:=below_trans hB2 hb3;clear hown hperm hsort hb3 hs3 y0 y1 y2 HME hz2
      gi_wp2
      gi_loopw [11] (fun i wr=> ∃k:Nat,(k+1≤l3.length∨k=0)∧i= .int .i64 ((k:Int)+1)∧Hid (∀j x y,j<k→(ens l3)[j]?=some x→(ens l3)[j+1]?=some y→cmpE x y≠0)∧Below w3.heap.size w3 wr) (fun i _=>l3.length+1-(intOf i).toNat)
      case atStart=>exact⟨0,.inr rfl,rfl,Lib.hid (fun j x y hj=>by omega),Below.refl _ _⟩
      case round=>
       obtain⟨k,hk,rfl,HA,hbi⟩:=hrel;by_cases hlt:k+1<l3.length
       ·have hx:=List.getElem?_eq_getElem (l:=l3) (i:=k) (by omega)
        have hy:=List.getElem?_eq_getElem (l:=l3) hlt;generalize l3[k]=x at hx;generalize l3[k+1]=y at hy;obtain⟨g,off,rfl,-,hc⟩:=ent_at HE3.out.sl rfl hx;obtain⟨g',off',hA',-,hc'⟩:=ent_at HE3.out.sl rfl hy;injection hA' with hA';injection hA' with q1 q2;subst q1 q2;have HC:=Lib.hid hc;have HC':=Lib.hid hc';have HX:=Lib.hid (ens_at hx);have HY:=Lib.hid (ens_at hy);have HOP:=Lib.hid (fun w'=>order_ent x y w');unfold Ent.agg at HOP;clear hc hc' hx hy;have hwk:IntKind.i64.wrap ((k:Int)+1+1)=(k:Int)+1+1:=by rw[IntKind.wrap_i64];omega
        have hwm:IntKind.i64.wrap ((k:Int)+1-1)=(k:Int):=by rw[IntKind.wrap_i64];omega
        have hw0:IntKind.i64.wrap (k:Int)=(k:Int):=by rw[IntKind.wrap_i64];omega
        have m0:(0:Int)≤(k:Int):=by omega
        have m4:(0:Int)≤(k:Int)+1:=by omega
        have m1:(k:Int)<(l3.length:Int):=by omega
        have m2:(k:Int)+1<(l3.length:Int):=by omega
        have m3:((k:Int)+1).toNat=k+1:=by omega
        obtain⟨d0,d1,d2,d3,d4⟩:=HC.out _ hbi;obtain⟨x0,x1,x2,x3,x4⟩:=HC'.out _ hbi
        gi_wp2_with fail
        refine wpIn_wide.2 ?_
        go_region_held3 (fun w'=>w'.cell? ⟨g,off+k*5,none⟩=some (.string (str x.e.key))∧w'.cell? ⟨g,off+k*5+1,none⟩=some (.int .i64 x.e.t)∧w'.cell? ⟨g,off+k*5+2,none⟩=some (.int .i64 x.e.s)∧w'.cell? ⟨g,off+k*5+3,none⟩=some x.v∧w'.cell? ⟨g,off+k*5+4,none⟩=some (.bool x.e.met)∧w'.cell? ⟨g,off+(k+1)*5,none⟩=some (.string (str y.e.key))∧w'.cell? ⟨g,off+(k+1)*5+1,none⟩=some (.int .i64 y.e.t)∧w'.cell? ⟨g,off+(k+1)*5+2,none⟩=some (.int .i64 y.e.s)∧w'.cell? ⟨g,off+(k+1)*5+3,none⟩=some y.v∧w'.cell? ⟨g,off+(k+1)*5+4,none⟩=some (.bool y.e.met))
         (first|go_keep|exact⟨d0,d1,d2,d3,d4,x0,x1,x2,x3,x4⟩|exact z)
         ((go_at_call 85
           refine(HOP.out _).mono ?_;rintro e w5 ⟨rfl,hb5⟩;have hbi5:=below_trans hbi.drew hb5;obtain⟨e0,e1,e2,e3,e4⟩:=HC.out _ hbi5;obtain⟨f0,f1,f2,f3,f4⟩:=HC'.out _ hbi5;have z:=And.intro e0 (And.intro e1 (And.intro e2 (And.intro e3 (And.intro e4 (And.intro f0 (And.intro f1 (And.intro f2 (And.intro f3 (f4)))))))))))
        all_goals
         clear z d0 d1 d2 d3 d4 x0 x1 x2 x3 x4 e0 e1 e2 e3 e4 f0 f1 f2 f3 f4;by_cases hz:cmpE x.e y.e=0
         ·have hz':=beqT hz
          have EE:=Lib.hid (HR4.out.trans (if_neg (by rw[sorted_twin HPE.out HX.out HY.out hz];simp)));have r5:=(HKR3.out.below hbi5).cell 0 _ rfl;have g5':=(HKR3.out.below hbi5).free 0;have KO5:=(keeps_below hbi5).trans (KeepsOthers.setCell w5 ⟨w.heap.size+1,0,none⟩ (.int .i64 1));have HD5:=KO5.same D2 _ HKDb.out rfl;have HD6:=put_other (o':= .deferred none) hne (KO5.same D _ HKDa.out rfl);have hc5:=(blk_put (o':= .deferred none) (blk_put (o':= .deferred none) ((HKR3.out.below hbi5).set_ 0 (.int .i64 1)) HD5 rfl) HD6 rfl).cell 0 (.int .i64 1) rfl;have hb9:=(below_trans hbw3 hbi5).setCell (p:=⟨w.heap.size+1,0,none⟩) (by show w.heap.size≤w.heap.size+1;omega) (.int .i64 1);clear hz
          gi_wp2
          refine⟨by simp,.inl ⟨_,_,rfl,run_takeDeferred HD5,⟨by simp,.inl ⟨_,_,rfl,run_takeDeferred HD6,?_⟩⟩⟩⟩;exact⟨.int .i64 1,by simp[results,Tryz.results43,go_sem,hc5],by rw[EE.out],(hb9.trans (belowK_b (w:=W0) (by omega) _ D2 _ _ (by omega) HD5 rfl rfl)).trans (belowK_b (w:=W0) (by omega) _ D _ _ hD HD6 rfl rfl)⟩
         ·have hz':=beqF hz
          have HA2:Hid (∀j x y,j<k+1→(ens l3)[j]?=some x→(ens l3)[j+1]?=some y→cmpE x y≠0):=Lib.hid fun j a c hj ha hc=>by
           by_cases e:j=k
           ·subst e
            rw[HX.out]at ha;rw[HY.out]at hc;injection ha with ha;injection hc with hc;rw[←ha,←hc];exact hz
           ·exact HA.out j a c (by omega) ha hc
          clear hz
          gi_wp2
          go_roundw
          case rel=>exact⟨k+1,by omega,by go_num,HA2,hbi5⟩
          case measure=>simp[intOf];omega
       ·have hlt': ¬(k:Int)+1<(l3.length:Int):=by omega
        have EE:=Lib.hid (HR4.out.trans (if_pos (sorted_alone HPE.out (HSO.out.imp (fun h=>Int.not_lt.2 h)) (fun j x y hx hy=>by
         have h1:=(List.getElem?_eq_some_iff.1 hy).1;rw[ens_len]at h1;exact HA.out j x y (by omega) hx hy))))
        have r5:=(HKR3.out.below hbi).cell 0 _ rfl;have g5':=(HKR3.out.below hbi).free 0;have KO5:=(keeps_below hbi).trans (KeepsOthers.setCell wr ⟨w.heap.size+1,0,none⟩ (.int .i64 0));have HD5:=KO5.same D2 _ HKDb.out rfl;have HD6:=put_other (o':= .deferred none) hne (KO5.same D _ HKDa.out rfl);have hc5:=(blk_put (o':= .deferred none) (blk_put (o':= .deferred none) ((HKR3.out.below hbi).set_ 0 (.int .i64 0)) HD5 rfl) HD6 rfl).cell 0 (.int .i64 0) rfl;have hb9:=(below_trans hbw3 hbi).setCell (p:=⟨w.heap.size+1,0,none⟩) (by show w.heap.size≤w.heap.size+1;omega) (.int .i64 0)
        gi_wp2
        refine⟨by simp,.inl ⟨_,_,rfl,run_takeDeferred HD5,⟨by simp,.inl ⟨_,_,rfl,run_takeDeferred HD6,?_⟩⟩⟩⟩;exact⟨.int .i64 0,by simp[results,Tryz.results43,go_sem,hc5],by rw[EE.out],(hb9.trans (belowK_b (w:=W0) (by omega) _ D2 _ _ (by omega) HD5 rfl rfl)).trans (belowK_b (w:=W0) (by omega) _ D _ _ hD HD6 rfl rfl)⟩
     case stop2=>
      rintro D2 c pre W2 hD2 hpre ⟨⟨⟨rfl,⟨k,hk,hbad⟩,hKR2⟩,hB2⟩,hKD⟩ hK2;obtain⟨q,hq,rfl⟩:=hpre
      have EE:=Lib.hid (HR3.out.trans (if_neg (fun h=>by
       have h1:=(parts_good b).2 ⟨h.1,h.2.1,h.2.2.1⟩ k (by rw[List.mem_range]at hk;omega);rw[h1]at hbad;cases hbad)))
      have hne:D≠D2:=by omega
      have hKE:=put_other (o':= .deferred none) hne hKD;have hc5:=(blk_put (o':= .deferred none) (blk_put (o':= .deferred none) hKR2 hK2 rfl) hKE rfl).cell 0 _ rfl
      gi_wp2
      refine⟨by simp,.inl ⟨_,_,rfl,run_takeDeferred hK2,⟨by simp,.inl ⟨_,_,rfl,run_takeDeferred hKE,?_⟩⟩⟩⟩;exact⟨.int .i64 1,by simp[results,Tryz.results43,go_sem,hc5],by rw[EE.out],(hB2.trans (belowK_b (w:=W0) (by omega) W2 D2 _ _ (by omega) hK2 rfl rfl)).trans (belowK_b (w:=W0) (by omega) _ D _ _ hD hKE rfl rfl)⟩
   case stop=>
    rintro D c pre W hD hpre ⟨⟨rfl,hs,hKR⟩,hB⟩ hK;obtain⟨q,hq,rfl⟩:=hpre;have EE:=Lib.hid (HR2.out.trans (if_pos (.inl (by have:=sumP_le b hq;omega))));have hc5:=(blk_put (o':= .deferred none) hKR hK rfl).cell 0 _ rfl
    gi_wp2
    refine⟨by simp,.inl ⟨_,_,rfl,run_takeDeferred hK,?_⟩⟩;exact⟨.int .i64 2,by simp[results,Tryz.results43,go_sem,hc5],by rw[EE.out],hB.trans (belowK_b (w:=W0) (by omega) W D _ _ hD hK rfl rfl)⟩
  ·have EE:=Lib.hid (HR.out.trans (if_pos (inB_no (by omega))))
   have x0:=HX3.out.cell 0 _ rfl
   gi_wp2
   exact⟨.int .i64 3,by simp[results,Tryz.results43,go_sem,x0],by rw[EE.out],hX⟩
 ·have EE:=Lib.hid (HR.out.trans (if_pos (inB_no (by omega))))
  have x0:=HX3.out.cell 0 _ rfl
  gi_wp2
  exact⟨.int .i64 3,by simp[results,Tryz.results43,go_sem,x0],by rw[EE.out],hX⟩
end Go.Proofs.YtjodlngbiikgfaaGreatDoor
