/-Add, and the reference's AddTo. The reference's AddTo. The plain law of Fold. Plain law of groups: their rows are good; the view of groups. Changes of -/
import Derived.Test.YtjhbeecmdgglgaaGreatDoorGrpX18
import Derived.Test.YtjhbeecmdgglgaaGreatDoorGrpX19
import Derived.Test.YtjhbeecmdgglgaaGreatDoorGrpX21
import Derived.Test.YtjhbeecmdgglgaaGreatDoorGrpX8
import Derived.Test.YtjhbeecmdgglgaaGreatDoorGrpX14
import Derived.Test.YtjhbeecmdgglgaaGreatDoorGrpX15
import Derived.Test.YtjhbeecmdgglgaaGreatDoorGrpX17
import Derived.Lib.AppendZerosOnto
import Derived.Lib.Overlaps
import Derived.WalkSmall
import Derived.Test.YtjhbeecmdgglgaaGreatDoorGrpX1
set_option linter.unusedSimpArgs false
set_option linter.unusedVariables false
namespace Go.Proofs.YtjhbeecmdgglgaaGreatDoor
open Go.RowKit Go.Maps
theorem addR_rises {A:AV}{r:List Val}{n:Int}(h:Rises A)(hr:GoodR r):Rises (addR A r n).1:=by
 unfold addR;split
 ·exact h
 ·split
  ·exact h
  ·split
   ·exact rises_del h
   ·exact rises_put h hr
theorem putA_len (A:AV)(r:List Val)(n:Int):(putA A r n).length≤A.length+1:=by
 induction A with
 |nil=>simp[putA]
 |cons x t ih=>
  obtain⟨x,m⟩:=x;unfold putA;split
  ·simp
  ·split
   ·simp;omega
   ·simp
theorem delA_len (A:AV)(r:List Val):(delA A r).length≤A.length:=by
 induction A with
 |nil=>simp[delA]
 |cons x t ih=>
  obtain⟨x,m⟩:=x;unfold delA;split
  ·simp
  ·simp;omega
theorem look_num {A:AV}(r:List Val)(h: ∀p∈A,1≤p.2∧p.2≤1073741824):0≤lookA A r∧lookA A r≤1073741824:=by
 induction A with
 |nil=>simp[lookA]
 |cons x t ih=>
  obtain⟨x,m⟩:=x;have:=h (x,m) (by simp);have i:=ih fun p hp=>h p (by simp[hp]);simp only at this;unfold lookA;split
  ·omega
  ·exact i
theorem View.nil (w:World):View w (.slice none 0 0) []:=⟨Sl.nil_ w,nofun⟩
end Go.Proofs.YtjhbeecmdgglgaaGreatDoor
namespace Go.Proofs.YtjhbeecmdgglgaaGreatDoor
open Go.RowKit Go.Maps
end Go.Proofs.YtjhbeecmdgglgaaGreatDoor
namespace Go.Proofs.YtjhbeecmdgglgaaGreatDoor
open Go.RowKit Go.Maps
def foldR:AV→Int→List (Int×List Val)→AV×Int×Int
 |A,_,[]=>(A,0,0)
 |A,i,c::t=>if(addR A c.2 (stepI c.1)).2=0 then foldR (addR A c.2 (stepI c.1)).1 (i+1) t else([],i,(addR A c.2 (stepI c.1)).2)
def foldS (l:List Cnt) (m:List Chn):AV×Int×Int:=
 if chkV l≠0 then([],0,chkV l)else if formC m≠0 then([],0,formC m)else foldR (av l) 0 (ac m)
theorem addR_ok {A:AV}{r:List Val}{n:Int}(h:(addR A r n).2=0):
 0≤lookA A r+n∧lookA A r+n≤1073741824∧ ¬(hasA A r=false∧0<lookA A r+n∧A.length=4096)∧
 (addR A r n).1=if lookA A r+n=0 then delA A r else putA A r (lookA A r+n):=by
 unfold addR at h⊢;by_cases h1:lookA A r+n<0
 ·rw[if_pos h1]at h;simp at h
 ·rw[if_neg h1]at h⊢
  by_cases h2:1073741824<lookA A r+n∨(hasA A r=false∧0<lookA A r+n∧A.length=4096)
  ·rw[if_pos h2]at h;simp at h
  ·rw[if_neg h2]
   refine⟨by omega,Int.not_lt.1 (fun h=>h2 (.inl h)),fun h=>h2 (.inr h),?_⟩;split<;>rfl
theorem put_mem2 {A:AV}{r:List Val}{n:Int}{p:List Val×Int}(h:p∈putA A r n):p∈A∨p.2=n:=by
 induction A with
 |nil=>simp[putA]at h;exact .inr (by rw[h])
 |cons x t ih=>
  obtain⟨x,m⟩:=x;unfold putA at h;split at h
  ·rcases List.mem_cons.1 h with rfl|h
   ·exact .inr rfl
   ·exact .inl (by simp[h])
  ·split at h
   ·rcases List.mem_cons.1 h with rfl|h
    ·exact .inl (by simp)
    ·rcases ih h with h|h
     ·exact .inl (by simp[h])
     ·exact .inr h
   ·rcases List.mem_cons.1 h with rfl|h
    ·exact .inr rfl
    ·exact .inl h
theorem addR_nums {A:AV}{r:List Val}{n:Int}(h: ∀p∈A,1≤p.2∧p.2≤1073741824)(h0:(addR A r n).2=0): ∀p∈(addR A r n).1,1≤p.2∧p.2≤1073741824:=by
 obtain⟨h1,h2,-,e⟩:=addR_ok h0;rw[e];intro p hp;split at hp
 ·exact h p (del_mem hp)
 ·rcases put_mem2 hp with hp|hp
  ·exact h p hp
  ·omega
theorem put_has_len {A:AV}{r:List Val}{n:Int}(h:Rises A)(hr:GoodR r)(hh:hasA A r=true):(putA A r n).length=A.length:=by
 induction A with
 |nil=>simp[hasA]at hh
 |cons x t ih=>
  obtain⟨x,m⟩:=x;have hx:GoodR x:=h.good (x,m) (by simp);unfold putA;by_cases e:rowsF x r=0
  ·rw[if_pos e];simp
  ·rw[if_neg e]
   unfold hasA at hh;have hh':hasA t r=true:=by simpa[e]using hh
   by_cases l:rowsF x r<0
   ·rw[if_pos l];simp[ih h.tail hh']
   ·exfalso
    have hlt:rowsF r x<0:=by rw[rowsF_flip hx hr];omega
    have:hasA t r=false:=by
     have hno: ∀p∈t,rowsF p.1 r≠0:=fun p hp=>by
      have:=rowsF_trans hr hx (h.good p (by simp[hp])) hlt ((List.pairwise_cons.1 h.rise).1 p hp);have hf:=rowsF_flip (h.good p (by simp[hp])) hr;omega
     clear hh' hh ih h
     induction t with
     |nil=>rfl
     |cons y t ih=>
      obtain⟨y,c⟩:=y;unfold hasA;have:=hno (y,c) (by simp);simp only at this;simp[this,ih fun p hp=>hno p (by simp[hp])]
    rw[this]at hh';cases hh'
theorem addR_few {A:AV}{r:List Val}{n:Int}(h:Rises A)(hr:GoodR r)(hl:A.length≤4096)(h0:(addR A r n).2=0):(addR A r n).1.length≤4096:=by
 obtain⟨h1,h2,h3,e⟩:=addR_ok h0;rw[e];split
 ·have:=delA_len A r;omega
 ·cases hh:hasA A r with
  |true=>rw[put_has_len h hr hh];exact hl
  |false=>
   have:=putA_len A r (lookA A r+n);by_cases h4:A.length=4096
   ·exact absurd ⟨hh,by omega,h4⟩ h3
   ·omega
structure GoodA (A:AV):Prop where
 few:A.length≤4096
 rises:Rises A
 nums: ∀p∈A,1≤p.2∧p.2≤1073741824
theorem GoodV.a {l:List Cnt}(h:GoodV l):GoodA (av l):=⟨by unfold av;rw[List.length_map];exact h.few,h.rises,h.nums⟩
theorem GoodA.add {A:AV}{r:List Val}{n:Int}(h:GoodA A)(hr:GoodR r)(h0:(addR A r n).2=0):GoodA (addR A r n).1:=
 ⟨addR_few h.rises hr h.few h0,addR_rises h.rises hr,addR_nums h.nums h0⟩
end Go.Proofs.YtjhbeecmdgglgaaGreatDoor
namespace Go.Proofs.YtjhbeecmdgglgaaGreatDoor
theorem wrapI_range (n:Int): -9223372036854775808≤wrapI n∧wrapI n≤9223372036854775807:=by
 unfold wrapI;rw[IntKind.wrap_i64];omega
theorem int_good {n:Int}(h: -9223372036854775808≤n∧n≤9223372036854775807):GoodR [(⟨2,n,⟨#[]⟩⟩:Val)]:=⟨fun x hx=>by
 rw[List.mem_singleton.1 hx];exact⟨by unfold checkV;simp[ByteArray.toList_eq],h⟩,by simp⟩
theorem null_good:GoodR [nullG]:=⟨fun x hx=>by
 rw[List.mem_singleton.1 hx];exact⟨by unfold checkV nullG;simp[ByteArray.toList_eq],by unfold nullG;simp⟩,by simp⟩
theorem fine_good {r:List Val}(h:GoodR r):Fine r:=⟨fun x hx=>Nat.le_trans (good_size (h.good x hx).1) (by omega),fun x hx=>(h.good x hx).2⟩
theorem keyErr_goodG {r:List Val}(h:GoodR r):keyErr r=0:=by
 unfold keyErr;rw[if_neg (by have:=h.few;omega)]
 exact firstNZ_none fun x hx=>by
  obtain⟨y,hy,rfl⟩:=List.mem_map.1 hx;exact(h.good y hy).1
end Go.Proofs.YtjhbeecmdgglgaaGreatDoor
namespace Go.Proofs.YtjhbeecmdgglgaaGreatDoor
open Go.RowKit Go.Maps
theorem chgI:EInfo Tryz.prog 48 2 32:=by
 have h:(Tryz.prog.info? 48).map (fun i=>(i.zero,i.size,i.bytes))=some (some (.agg #[.int .i64 0,.slice none 0 0]),2,32):=by kernel_rfl
 obtain⟨i,hi,h1,h2,h3⟩:=info_parts h;exact⟨i,_,hi,h1,h2,h3,rfl,by omega⟩
structure OwnC (w:World) (base:Nat) (v:Value) (l:List Chn):Prop where
 own:w.ownsRow base 48 2 v l.length (chnCells l)
 rows: ∀c∈l,Sl w c.v c.r.length (rowCells c.r)
 far: ∀c∈l,∀k,c.v.ownBlock=some k→base≤k∧k<w.heap.size∧v.ownBlock≠some k
theorem OwnC.chs {w:World}{base:Nat}{v:Value}{l:List Chn}(h:OwnC w base v l):Chs w v l:=⟨Sl.of_own h.own,h.rows⟩
theorem OwnC.below {w w':World}{base:Nat}{v:Value}{l:List Chn}(h:OwnC w base v l)(hb:Below w.heap.size w w'):OwnC w' base v l:=
 ⟨own_below h.own hb,fun c hc=>(h.rows c hc).below hb,fun c hc k hk=>⟨(h.far c hc k hk).1,Nat.lt_of_lt_of_le (h.far c hc k hk).2.1 hb.size,(h.far c hc k hk).2.2⟩⟩
theorem OwnC.alloc {w:World}{base:Nat}{v:Value}{l:List Chn}(h:OwnC w base v l)(o:Obj):OwnC (w.alloc o) base v l:=h.below (below_alloc w o)
theorem OwnC.drew {w:World}{base:Nat}{v:Value}{l:List Chn}(h:OwnC w base v l):OwnC w.drew base v l:=⟨h.own,h.rows,h.far⟩
theorem OwnC.nil (w:World)(base:Nat):OwnC w base (.slice none 0 0) []:=⟨⟨rfl,.inl ⟨rfl,rfl⟩⟩,nofun,nofun⟩
theorem chnCells_app (a b:List Chn):chnCells (a++b)=chnCells a++chnCells b:=List.flatMap_append
theorem OwnC.snoc {w w':World}{base:Nat}{v v':Value}{l:List Chn}{c:Chn}(h:OwnC w base v l)(hown:w'.ownsRow base 48 2 v' (l.length+1) (chnCells l++c.cells))(hg:w.grownBy w' v.ownBlock)(hat:v'.ownBlock=v.ownBlock∨v'.ownBlock=some w.heap.size)
 (hc:Sl w c.v c.r.length (rowCells c.r)) (hf: ∀k,c.v.ownBlock=some k→base≤k∧k<w.heap.size∧v.ownBlock≠some k):OwnC w' base v' (l++[c]):=by
 have hfar: ∀d∈l++[c],Sl w d.v d.r.length (rowCells d.r)∧ ∀k,d.v.ownBlock=some k→base≤k∧k<w.heap.size∧v.ownBlock≠some k:=by
  intro d hd;rcases List.mem_append.1 hd with hd|hd
  ·exact⟨h.rows d hd,h.far d hd⟩
  ·simp only[List.mem_singleton]at hd;subst hd;exact⟨hc,hf⟩
 refine⟨?_,fun d hd=>sl_grown (hfar d hd).1 hg (fun k hk=>((hfar d hd).2 k hk).2.2),fun d hd k hk=> ?_⟩
 ·rw[chnCells_app,List.length_append]
  simpa[chnCells]using hown
 ·obtain⟨h0,h1,h2⟩:=(hfar d hd).2 k hk
  refine⟨h0,Nat.lt_of_lt_of_le h1 hg.size,fun e=> ?_⟩;rcases hat with e'|e'
  ·exact h2 (e'▸e)
  ·rw[e']at e
   injection e with e;omega
theorem OwnC.set {w:World}{base:Nat}{v:Value}{l:List Chn}(h:OwnC w base v l){p:Addr}(hp:p.block<base)(u:Value):OwnC (w.setCell p u) base v l:=
 ⟨own_set h.own (fun k hk e=>by have:=own_ge h.own k hk;omega) u,fun c hc=>sl_set (h.rows c hc) (fun _ k hk e=>by have:=(h.far c hc k hk).1;omega) u,
  fun c hc k hk=>by have:=h.far c hc k hk;rw[World.size_setCell];exact this⟩
theorem one_chn (W:World)(c:Chn):Sl (W.alloc (.cells #[.int .i64 c.k,c.v] 48)) (.slice (some ⟨W.heap.size,0,none⟩) 1 1) 1 c.cells:=Sl.block (Blk.new W 48 #[.int .i64 c.k,c.v]) 1 1 (Nat.le_refl _) (by decide)
theorem chn_one {w:World}{c:Chn}{n:Nat}{cs:List Value}(h:Sl w c.v n cs): ∀u∈c.cells,u.oneCell'=true:=by
 obtain⟨A,k,hv,-⟩:=h;intro u hu;simp[Chn.cells]at hu;rcases hu with rfl|rfl
 ·rfl
 ·rw[hv];rfl
theorem grown_set {w w':World}{P:Nat}(h:w.grownBy w' (some P))(i:Nat)(u:Value):w.grownBy (w'.setCell ⟨P,i,none⟩ u) (some P):=
 ⟨h.os,h.tape,h.output,by rw[World.size_setCell];exact h.size,fun k hk hn=>(Below.heap_setCell w' ⟨P,i,none⟩ u k (fun e=>hn (by rw[e]))).trans (h.block k hk hn)⟩
set_option maxHeartbeats 4000000 in
set_option maxRecDepth 100000 in
theorem say_any (P:Nat)(v:Value)(out:List Chn)(kind n:Int)(r:List Val)(w0 w:World)(h0:w0.grownBy w (some P))(hP:P<w0.heap.size)(hB:Blk w P 42 #[v])(hO:OwnC w w0.heap.size v out)
 (hl:out.length≤4096) (hr:GoodR r) (hn:0<n∧n≤1099511627776):
 Calls Tryz.prog 110 #[.int .i64 kind,.int .i64 n,.string (str (keyRow r)),.pointer (some ⟨P,0,none⟩)] w fun e w'=>
  (4096<out.length+n∧e= .returned (.bool false)∧w0.grownBy w' (some P)∧w.heap.size≤w'.heap.size)∨
  (out.length+n≤4096∧e= .returned (.bool true)∧ ∃v' out',OwnC w' w0.heap.size v' out'∧ac out'=ac out++List.replicate n.toNat (kind,r)∧Blk w' P 42 #[v']∧w0.grownBy w' (some P)):=by
 have HO:=Lib.hid hO;have HB:=Lib.hid hB;have HG:=Lib.hid h0;have y0:=hB.cell 0 _ rfl;obtain⟨Av,cv,rfl,hc1,hc2,-⟩:=Sl.of_own hO.own;unfold maxLen at hc2;have hw:IntKind.i64.wrap (4096-(out.length:Int))=4096-(out.length:Int):=by rw[IntKind.wrap_i64];omega
 clear hO hB h0;by_cases hq:4096-(out.length:Int)<n
 ·go_enter Tryz.func110,Tryz.ntmps110
  go_wp2;go_ret;exact .inl ⟨by omega,rfl,HG.out,Nat.le_refl _⟩
 ·have hle:out.length+n≤4096:=by omega
  have HBK:=Lib.hid (back_good hr);have hsz:(str (keyRow r)).size≤4611686018427387904:=by rw[str_size];have:=keyRow_short hr;omega
  have HR:=Lib.hid hr;generalize str (keyRow r)=ky at HBK hsz⊢;clear hr;go_enter Tryz.func110,Tryz.ntmps110
  go_wp2_with fail
  go_loopw[8,9,16] (fun _ _ i wr=> ∃(j:Nat) (v':Value) (o:List Chn),i= .int .i64 j∧(j:Int)≤n∧o.length=out.length+j∧Hid (ac o=ac out++List.replicate j (kind,r))∧Hid (OwnC wr w0.heap.size v' o)∧Hid (Blk wr P 42 #[v'])∧w0.grownBy wr (some P)) (fun _ _ i _=>n.toNat-(intOf i).toNat)
  case atStart=>exact⟨0,_,out,rfl,by omega,by omega,Lib.hid (by simp),HO,HB,HG.out⟩
  case round=>
   obtain⟨j,v',o,rfl,hj,hol,HA,HOr,HBr,hgr⟩:=hrel;by_cases hlt:(j:Int)<n
   ·go_wp2_with fail
    refine(back_any2 _ _ hsz).mono ?_;rw[HBK.out];rintro e w2 ⟨vb,rfl,hs2,hf2,hb2⟩;have HS2:=Lib.hid hs2;have HF2:=Lib.hid hf2;obtain⟨A2,c2,rfl,-⟩:=id hs2;have HO2:=Lib.hid (HOr.out.below hb2);have HB2:=Lib.hid (HBr.out.below hb2);have hg2:=hgr.andThen (grown_of_below hb2 (some P)) (fun k hk=> .inr hk);have y1:=HB2.out.cell 0 _ rfl;have hu:Hid (∀k,v'.ownBlock=some k→k<wr.heap.size):=Lib.hid (own_lt HOr.out.own);have HO3:=Lib.hid (HO2.out.alloc (.cells #[.int .i64 kind,.slice A2 r.length c2] 48));have HB3:=Lib.hid (HB2.out.alloc (.cells #[.int .i64 kind,.slice A2 r.length c2] 48));have hg3:=hg2.andThen (grown_of_below (below_alloc w2 (.cells #[.int .i64 kind,.slice A2 r.length c2] 48)) (some P)) (fun k hk=> .inr hk);clear hs2 hf2
    go_wp2_with
     (at_builtin
      refine wpList_app rfl (.tmp 23) (.tmp 27) 42 rfl w0.heap.size 48 2 32 Tryz.underlying42 chgI v' o.length _ rfl HO3.out.own _ 1 (Chn.cells ⟨.slice A2 r.length c2,r,kind⟩) rfl (one_chn w2 ⟨.slice A2 r.length c2,r,kind⟩) rfl (chn_one HS2.out) (by unfold maxLen;omega) (by omega) (by have:=hg3.size;simpa using this) ?_;intro v4 w4 hown4 hg4 hat4;have HOWN4:=Lib.hid hown4;have HAT4:=Lib.hid hat4;have HG4:=Lib.hid hg4;have HB4:=Lib.hid (HB3.out.grown hg4 (fun e=>by have:=own_ge HOr.out.own P e;omega));obtain⟨A4,c4,rfl,-⟩:=Sl.of_own hown4;have y4:=HB4.out.cell 0 _ rfl;have yf:=HB4.out.free 0;clear hown4 hg4 hat4)
    have HN:Hid (OwnC w4 w0.heap.size (.slice A4 (o.length+1) c4) (o++[⟨.slice A2 r.length c2,r,kind⟩])):=Lib.hid (HO3.out.snoc HOWN4.out HG4.out HAT4.out (HS2.out.below (below_alloc _ _)) (fun k hk=>⟨Nat.le_trans hgr.size (HF2.out k hk).1,Nat.lt_of_lt_of_le (HF2.out k hk).2 (by simp),fun e=>Nat.lt_irrefl _ (Nat.lt_of_lt_of_le (hu.out k e) (HF2.out k hk).1)⟩))
    have HAN:Hid (ac (o++[⟨.slice A2 r.length c2,r,kind⟩])=ac out++List.replicate (j+1) (kind,r)):=Lib.hid (by
     rw[List.replicate_succ',←List.append_assoc,←HA.out];simp[ac])
    have HSET:=Lib.hid (HN.out.set (p:=⟨P,0,none⟩) hP (.slice A4 (o.length+1) c4));have HBS:=Lib.hid (HB4.out.set_ 0 (.slice A4 (o.length+1) c4));have hg5:w0.grownBy w4 (some P):=hg3.andThen HG4.out (fun k hk=> .inl (own_ge HOr.out.own k hk));have HG5:=Lib.hid (grown_set hg5 0 (.slice A4 (o.length+1) c4));have HOL:=Lib.hid hol;clear hol;rw[HOL.out]at HN HSET HBS HG5;go_wp2;go_roundw
    case rel=>exact⟨j+1,_,_,by go_num,by omega,by rw[List.length_append,List.length_singleton,HOL.out];omega,HAN.out,HSET.out,HBS.out,HG5.out⟩
    case measure=>simp[intOf];omega
   ·obtain rfl:n=(j:Int):=by omega
    have HGR:=Lib.hid hgr;go_wp2;go_ret
    first
     |exact .inr ⟨hle,rfl,v',o,HOr.out,by simpa using HA.out,HBr.out,HGR.out⟩
     |exact .inr ⟨rfl,v',o,HOr.out,by simpa using HA.out,HBr.out,HGR.out⟩
end Go.Proofs.YtjhbeecmdgglgaaGreatDoor
namespace Go.Proofs.YtjhbeecmdgglgaaGreatDoor
open Go.RowKit Go.Maps
theorem ac_at {m:List Chn}{k:Nat}{x:Chn}(h:m[k]?=some x):(ac m).drop k=(x.k,x.r)::(ac m).drop (k+1):=by
 have h':(ac m)[k]?=some (x.k,x.r):=by unfold ac;rw[List.getElem?_map,h];rfl
 obtain⟨hk,e⟩:=List.getElem?_eq_some_iff.1 h';rw[List.drop_eq_getElem_cons hk,e]
theorem ac_end (m:List Chn):(ac m).drop m.length=[]:=List.drop_of_length_le (by unfold ac;rw[List.length_map];exact Nat.le_refl _)
set_option maxHeartbeats 4000000 in
set_option maxRecDepth 10000 in
theorem cfold_any (v vm:Value)(l:List Cnt)(m:List Chn)(w:World)(h:View w v l)(hf:FineV l)(hs:Chs w vm m)(hfm:FineC m)(hm:Mx w):
 Calls Tryz.prog 21 #[v,vm] w fun e w'=> ∃v' l',e= .returned (.tuple #[v',.int .i64 (foldS l m).2.1,.int .i64 (foldS l m).2.2])∧View w' v' l'∧av l'=(foldS l m).1∧Below w.heap.size w w':=by
 have HV:=Lib.hid h;have HF:=Lib.hid hf;have HS:=Lib.hid hs;have HFM:=Lib.hid hfm;have HM:=Lib.hid hm;have HE:Hid (foldS l m=if chkV l≠0 then([],0,chkV l)else if formC m≠0 then([],0,formC m)else foldR (av l) 0 (ac m)):=Lib.hid rfl;have HCZ:=Lib.hid (chk_zero hf);have HFZ:=Lib.hid (form_zero hfm);generalize foldS l m=R at HE⊢;obtain⟨Av,cv,rfl,-⟩:=id h.sl;obtain⟨Am,cm,rfl,hm1,hm2,-⟩:=id hs.sl;unfold maxLen at hm2;clear h hf hs hfm hm;generalize hk:chkV l=c at HE HCZ;have HK:=Lib.hid hk;generalize hy:formC m=y at HE HFZ;have HY:=Lib.hid hy;clear hk hy;go_enter Tryz.func21,Tryz.ntmps21
 go_wp2_with fail
 refine(checkView_any _ l _ HV.out HF.out HM.out).mono ?_;rw[HK.out];rintro e w1 ⟨rfl,hb1⟩;by_cases hc:c=0
 ·have HE1:=Lib.hid (HE.out.trans (if_neg (fun h=>h hc)))
  have HG:=Lib.hid (HCZ.out hc);have hc':=beqT hc;clear HE HCZ hc
  go_wp2_with fail
  refine(cform_any _ m _ (HS.out.below hb1) HFM.out (HM.out.below hb1)).mono ?_;rw[HY.out];rintro e w2 ⟨rfl,hb2⟩;have hb12:=below_trans hb1 hb2;by_cases hy:y=0
  ·have HE2:=Lib.hid (HE1.out.trans (if_neg (fun h=>h hy)))
   have HGC:=Lib.hid (HFZ.out hy);have hy':=beqT hy;clear HE1 HFZ hy
   go_wp2_with fail
   refine(of_any _ l _ (HV.out.below hb12) HF.out HG.out (HM.out.below hb12)).mono ?_;rintro e w3 ⟨M,rfl,hM,hP,hb3⟩;have hb13:=below_trans hb12 hb3;have hM2:w.heap.size≤M:=by have:=hb12.size;omega
   have hml:m.length≤4096:=HGC.out.few
   go_wp2_with fail
   go_loopw[10,11,12,13,14,29] (fun _ _ _ _ _ i wr=> ∃(k:Nat) (B:AV),k≤m.length∧i= .int .i64 k∧Hid (R=foldR B k ((ac m).drop k))∧Hid (GoodA B)∧Hid (Pile wr M (4096+k) B)∧Below w.heap.size w wr) (fun _ _ _ _ _ i _=>m.length-(intOf i).toNat)
   case atStart=>exact⟨0,av l,by omega,rfl,HE2.out,HG.out.a,hP,hb13⟩
   case round=>
    obtain⟨k,B,hk,rfl,HR,HGA,HP,hbw⟩:=hrel;by_cases hlt:k<m.length
    ·have hx:=List.getElem?_eq_getElem (l:=m) hlt
     generalize m[k]=x at hx;obtain⟨g,off,rfl,-,hcc⟩:=chn_at HS.out.sl rfl hx;obtain⟨d1,d2⟩:=hcc _ hbw;have hmem:=List.mem_of_getElem? hx;have HRW:=Lib.hid (HS.out.rows x hmem);have HFX:=Lib.hid (HFM.out.rows x hmem);have HGX:=Lib.hid (HGC.out.good x hmem).1;have hx1:=(HGC.out.good x hmem).2.1;have hx4:=(HGC.out.good x hmem).2.2;have HR1:Hid (R=foldR B k ((x.k,x.r)::(ac m).drop (k+1))):=Lib.hid (by rw[HR.out,ac_at hx]);clear hx hcc hmem HR;obtain⟨xv,xr,xk⟩:=x;simp only at d1 d2 HRW HFX HGX hx1 hx4 HR1;obtain⟨Ax,cx,rfl,-⟩:=id HRW.out;have hbw2:=hbw.alloc hbw.size (.cells #[.int .i64 xk,.slice Ax xr.length cx] 48);have HSX:=Lib.hid (HRW.out.below hbw2);have kb:=(Blk.new wr 48 #[.int .i64 xk,.slice Ax xr.length cx]);have HP2:=Lib.hid (HP.out.below (below_alloc wr (.cells #[.int .i64 xk,.slice Ax xr.length cx] 48)))
     have HKE:=Lib.hid (keyErr_ok (r:=xr) (by
      have hz:firstNZ (xr.map checkV)=0:=firstNZ_none (by intro y hy;obtain⟨z,hz,rfl⟩:=List.mem_map.1 hy;exact(HGX.out.good z hz).1);unfold keyErr;rw[if_neg (by have:=HGX.out.few;omega),hz]))
     go_wp2_with fail
     refine(key_any _ xr _ HSX.out HFX.out (HM.out.below hbw2)).mono ?_;rw[HKE.out];rintro e w4 ⟨rfl,hb4⟩;have y0:=(kb.below hb4).cell 0 _ rfl;have y1:=(kb.below hb4).cell 1 _ rfl;have HP4:=Lib.hid (HP2.out.below hb4);have hbw4:=below_trans hbw2 hb4;clear HP HP2
     go_wp2_with fail
     refine(cstep_any xk _ _ hx1 hx4).mono ?_;rintro e w5 ⟨rfl,hb5⟩;have HP5:=Lib.hid (HP4.out.below hb5);have hbw5:=below_trans hbw4 hb5;have hs2:=stepI_two xk;have hln:=look_num xr HGA.out.nums
     go_wp2_with fail
     refine(add_any (n:=stepI xk) _ HP5.out (by omega) HGA.out.rises HGX.out (by omega) (by omega)).mono ?_;rintro e w6 ⟨rfl,hP6,hg6⟩;have hb6:Below w.heap.size w w6:=hbw5.grown hg6 hbw5.size (fun j hj=>by cases hj;exact hM2);have HADD:=Lib.hid (fun h0=>GoodA.add (n:=stepI xk) HGA.out HGX.out h0);have HR2:Hid (R=if(addR B xr (stepI xk)).2=0 then foldR (addR B xr (stepI xk)).1 (k+1) ((ac m).drop (k+1))else([],k,(addR B xr (stepI xk)).2)):=HR1;have HP6:=Lib.hid hP6;clear hP6 hg6 HR1 hs2 hln;generalize addR B xr (stepI xk)=P at HADD HR2 HP6;obtain⟨B2,d⟩:=P;simp only at HADD HR2 HP6;by_cases hd:d=0
     ·have HR3:=Lib.hid (HR2.out.trans (if_pos hd))
      have HG3:=Lib.hid (HADD.out hd);have hd':=beqT hd;clear HR2 HADD hd;go_wp2;go_roundw
      case rel=>exact⟨k+1,B2,by omega,by go_num,HR3.out,HG3.out,HP6.out,hb6⟩
      case measure=>simp[intOf];omega
     ·have EE:=Lib.hid (HR2.out.trans (if_neg hd))
      have hd':=beqF hd;clear HR2 HADD hd;go_wp2
      go_ret3
      first
       |exact⟨.slice none 0 0,[],by rw[EE.out];rfl,View.nil _,by rw[EE.out];rfl,hb6⟩
       |exact⟨.slice none 0 0,by rw[EE.out];rfl,[],View.nil _,by rw[EE.out];rfl,hb6⟩
    ·obtain rfl:k=m.length:=by omega
     have EE:Hid (R=(B,0,0)):=Lib.hid (by rw[HR.out,ac_end];rfl);clear HR
     go_wp2_with fail
     refine(view_any _ HP.out HGA.out.rises (by have:=HGA.out.few;omega)).mono ?_;rintro e w5 ⟨v5,l5,rfl,hO5,ha5,hb5⟩;have HO5:=Lib.hid hO5.view;have HA5:=Lib.hid ha5;have hb6:=below_trans hbw hb5;clear hO5 ha5;go_wp2
     go_ret3
     first
      |exact⟨v5,l5,by rw[EE.out];rfl,HO5.out,by rw[EE.out];exact HA5.out,hb6⟩
      |exact⟨v5,by rw[EE.out];rfl,l5,HO5.out,by rw[EE.out];exact HA5.out,hb6⟩
  ·have EE:=Lib.hid (HE1.out.trans (if_pos hy))
   have hy':=beqF hy;clear HE1 HFZ hy;go_wp2
   go_ret3
   first
    |exact⟨.slice none 0 0,[],by rw[EE.out];rfl,View.nil _,by rw[EE.out];rfl,hb12⟩
    |exact⟨.slice none 0 0,by rw[EE.out];rfl,[],View.nil _,by rw[EE.out];rfl,hb12⟩
 ·have EE:=Lib.hid (HE.out.trans (if_pos hc))
  have hc':=beqF hc;clear HE HCZ hc;go_wp2
  go_ret3
  first
   |exact⟨.slice none 0 0,[],by rw[EE.out];rfl,View.nil _,by rw[EE.out];rfl,hb1⟩
   |exact⟨.slice none 0 0,by rw[EE.out];rfl,[],View.nil _,by rw[EE.out];rfl,hb1⟩
end Go.Proofs.YtjhbeecmdgglgaaGreatDoor
namespace Go.Proofs.YtjhbeecmdgglgaaGreatDoor
open Go.RowKit
end Go.Proofs.YtjhbeecmdgglgaaGreatDoor
namespace Go.Proofs.YtjhbeecmdgglgaaGreatDoor
open Go.RowKit
def cellsL (l:List Int) (r:List Val):List Val:=l.map fun c=>r.getD c.toNat nullG
set_option maxHeartbeats 4000000 in
set_option maxRecDepth 10000 in
theorem rgroupOf_any (p:Pl)(vr:Value)(r:List Val)(w:World)(hg:Sl w p.vg p.group.length (intCells p.group))(hr:Sl w vr r.length (rowCells r))(hx: ∀c∈p.group,0≤c∧c<(r.length:Nat))(h8:p.group.length≤8):
 Calls Tryz.prog 67 #[.agg #[.int .i64 p.kind,.int .i64 p.mode,.int .i64 p.low,.int .i64 p.high,.int .i64 p.size,.int .i64 p.limit,p.vl,p.vr,p.vk,p.vq,.bool p.grouped,p.vg,p.va],vr] w fun e w'=> ∃v',e= .returned v'∧w'.ownsRow (w.heap.size+1) 68 3 v' (cellsG p r).length (rowCells (cellsG p r))∧Below w.heap.size w w':=by
 have HG:=Lib.hid hg;have HR:=Lib.hid hr;have HX:=Lib.hid hx;obtain⟨A4,c4,h4,n4,m4,-⟩:=id hg;obtain⟨Ar,cr,rfl,nr,mr,-⟩:=id hr;unfold maxLen at m4 mr;rw[h4]at HG⊢;have HLC:Hid ((cellsG p r).length=p.group.length):=Lib.hid (by simp[cellsG]);have HCG:Hid (∀_:Nat,cellsG p r=cellsL p.group r):=Lib.hid (fun _=>rfl);have hB:=below_alloc w (.cells #[.int .i64 p.kind,.int .i64 p.mode,.int .i64 p.low,.int .i64 p.high,.int .i64 p.size,.int .i64 p.limit,p.vl,p.vr,p.vk,p.vq,.bool p.grouped,.slice A4 p.group.length c4,p.va] 25);have K0:=Blk.new w 25 #[.int .i64 p.kind,.int .i64 p.mode,.int .i64 p.low,.int .i64 p.high,.int .i64 p.size,.int .i64 p.limit,p.vl,p.vr,p.vk,p.vq,.bool p.grouped,.slice A4 p.group.length c4,p.va];have HK0:=Lib.hid K0;have y11:=K0.cell 11 _ rfl;clear h4 hg hr hx K0;go_enter Tryz.func67,Tryz.ntmps67
 go_wp2_with fail
 go_loopw[5,6] (fun ov i wr=> ∃k:Nat,k≤p.group.length∧i= .int .i64 k∧Hid (wr.ownsRow (w.heap.size+1) 68 3 ov k (rowCells (cellsL (p.group.take k) r)))∧Hid (Blk wr w.heap.size 25 #[.int .i64 p.kind,.int .i64 p.mode,.int .i64 p.low,.int .i64 p.high,.int .i64 p.size,.int .i64 p.limit,p.vl,p.vr,p.vk,p.vq,.bool p.grouped,.slice A4 p.group.length c4,p.va])∧w.heap.size+1≤wr.heap.size∧Below w.heap.size w wr) (fun _ i _=>p.group.length-(intOf i).toNat)
 case atStart=>exact⟨0,by omega,rfl,Lib.hid ⟨rfl,.inl ⟨rfl,rfl⟩⟩,HK0,by simp,hB⟩
 case round=>
  clear y11;obtain⟨k,hk,rfl,HO,HK,hsr,hbr⟩:=hrel;have y11:=HK.out.cell 11 _ rfl;by_cases hlt:k<p.group.length
  ·obtain⟨bg,og,rfl,-,hcg⟩:=int_at HG.out rfl hlt
   have d1:=hcg _ hbr;have gk:p.group[k]?=some (p.group.getD k 0):=by simp[hlt]
   generalize p.group.getD k 0=c at d1 gk;have rx:=HX.out c (List.mem_of_getElem? gk);obtain⟨m,rfl⟩: ∃m:Nat,c=m:=⟨c.toNat,by omega⟩;have hm:m<r.length:=by omega
   have hz:=List.getElem?_eq_getElem (l:=r) hm;generalize r[m]=z at hz;have hst:cellsL (p.group.take (k+1)) r=cellsL (p.group.take k) r++[r.getD ((m:Int)).toNat nullG]:=map_step (f:=fun c:Int=>r.getD c.toNat nullG) gk;have hmn:r.getD ((m:Int)).toNat nullG=z:=by simp[List.getD,hz]
   rw[hmn]at hst;have HST:=Lib.hid hst;clear hst;obtain⟨bz,oz,rfl,-,hcz⟩:=val_at HR.out rfl hz;obtain⟨z0,z1,z2⟩:=hcz _ hbr;obtain⟨zk,zn,zs⟩:=z;simp only at z0 z1 z2 HST;have HO1:=Lib.hid (HO.out.alloc (.cells #[.int .i64 zk,.int .i64 zn,.string zs] 68));have HV1:=Lib.hid (Sl.block (Blk.new wr 68 #[.int .i64 zk,.int .i64 zn,.string zs]) 1 1 (Nat.le_refl _) (by decide));have HB1:=Lib.hid (hbr.alloc hbr.size (.cells #[.int .i64 zk,.int .i64 zn,.string zs] 68));have HGE:=Lib.hid (own_ge HO.out);have HK1:=Lib.hid (HK.out.alloc (.cells #[.int .i64 zk,.int .i64 zn,.string zs] 68));have m0':(0:Int)≤(m:Int):=by omega
   have m1':(m:Int)<(r.length:Int):=by omega
   have HSR:=Lib.hid hsr;clear hz hcz hcg hmn gk rx HK hsr HO
   go_wp2_with (at_builtin;refine wpList_app rfl (.tmp 14) (.tmp 23) 43 rfl (w.heap.size+1) 68 3 32 Tryz.underlying43 valJ _ k _ rfl HO1.out _ 1 [.int .i64 zk,.int .i64 zn,.string zs] rfl HV1.out rfl (by simp[Value.oneCell']) ?_ ?_ ?_ ?_)
   ·unfold maxLen;omega
   ·omega
   ·have:=HSR.out;simp;omega
   ·intro v3 w3 hown3 hg3 hat3
    have hb3:=below_grown HB1.out hg3 (fun j hj=>by have:=HGE.out j hj;omega)
    have H3:Hid (w3.ownsRow (w.heap.size+1) 68 3 v3 (k+1) (rowCells (cellsL (p.group.take (k+1)) r))):=Lib.hid (by
     rw[HST.out,rcApp,rowCells_one1];exact hown3)
    have HK3:=Lib.hid (HK1.out.grown hg3 (fun e=>by have:=HGE.out _ e;omega));have hs3:w.heap.size+1≤w3.heap.size:=by have h1:=hg3.size;have:=HSR.out;simp at h1;omega
    clear hown3 hg3 hat3;go_wp2;go_roundw
    case rel=>exact⟨k+1,by omega,by go_num,H3,HK3,hs3,hb3⟩
    case measure=>simp[intOf];omega
  ·obtain rfl:k=p.group.length:=by omega
   rw[List.take_length,←HCG.out 0]at HO;have HO2:=Lib.hid (show wr.ownsRow (w.heap.size+1) 68 3 u5 (cellsG p r).length (rowCells (cellsG p r))from by rw[HLC.out];exact HO.out);clear HO HK;go_wp2;go_ret;exact⟨_,rfl,HO2.out,hbr⟩
end Go.Proofs.YtjhbeecmdgglgaaGreatDoor
namespace Go.Proofs.YtjhbeecmdgglgaaGreatDoor
open Go.RowKit
theorem wpList_append_run {P:Program}{w w':World}{ops:Array Oper}{rest:List Oper}{o:Oper}{a:Act}{Q:Exit→Act→World→Prop}{v':Value}(hgd:o.guard=none)(s x:Operand)(t tn:TypeId)
 (ho:o.op= .call {callee:= .builtin .append,args:= #[s,x],argTypes:= #[t,tn]}) (sv xv:Value) (hs:a.eval s=sv) (hx:a.eval x=xv)
 (hrun:(Builtin.append_ #[t,tn] o.type #[sv,xv]).run P w= .ok v' w') (h:wpList P ops Q rest (a.put o.dst v') w'):wpList P ops Q (o::rest) a w:=
 wpList_plain hgd fun _ hK=>by
  unfold Oper.wp execOp;simp only[ho,resolve,invoke,builtin,Sem.run_bind,Sem.run_pure,Result.andThen_ok,List.map_toArray,List.map_cons,List.map_nil,hs,hx,hrun];exact hK _ _ h
theorem own_drew {w:World}{base:Nat}{e:TypeId}{size:Nat}{v:Value}{n:Nat}{xs:List Value}(h:w.ownsRow base e size v n xs):w.drew.ownsRow base e size v n xs:=h
end Go.Proofs.YtjhbeecmdgglgaaGreatDoor
namespace Go.Proofs.YtjhbeecmdgglgaaGreatDoor
open Go.RowKit
structure OwnT (w:World) (base:Nat) (v:Value) (l:List Tl):Prop where
 own:w.ownsRow base 181 4 v l.length (tlCells l)
theorem OwnT.snoc {w w':World}{base:Nat}{v v':Value}{l:List Tl}{c:Tl}(h:OwnT w base v l)(hown:w'.ownsRow base 181 4 v' (l.length+1) (tlCells l++c.cells))(hg:w.grownBy w' v.ownBlock)(hat:v'.ownBlock=v.ownBlock∨v'.ownBlock=some w.heap.size)
 (hc:True) (hf:True):OwnT w' base v' (l++[c]):=⟨by rw[tlCells_app,List.length_append];simpa[tlCells]using hown⟩
theorem OwnT.laid {w w':World}{base i:Nat}{v v':Value}{l:List Tl}{c:Tl}(h:OwnT w base v l)(hi:i≤l.length)(hown:w'.ownsRow base 181 4 v' (l.length+1) (tlCells (l.take i)++(c.cells++tlCells (l.drop i))))(hg:w.grownBy w' v.ownBlock)(hat:v'.ownBlock=v.ownBlock∨ ∀k,v'.ownBlock=some k→w.heap.size≤k)
 (hc:True) (hf:True):OwnT w' base v' (l.take i++c::l.drop i):=⟨by
 rw[show(l.take i++c::l.drop i).length=l.length+1 by simp;omega,tlCells_app,show tlCells (c::l.drop i)=c.cells++tlCells (l.drop i)from rfl];exact hown⟩
end Go.Proofs.YtjhbeecmdgglgaaGreatDoor
namespace Go.Proofs.YtjhbeecmdgglgaaGreatDoor
open Go.RowKit
def setsL:List Value→Nat→List Value→List Value
 |xs,_,[]=>xs
 |xs,o,v::r=>setsL (xs.set o v) (o+1) r
theorem setsL_out: ∀ {vs xs:List Value} {o:Nat},xs.length≤o→setsL xs o vs=xs
 |[],_,_,_=>rfl
 |v::r,xs,o,h=>by
  unfold setsL;rw[List.set_eq_of_length_le h];exact setsL_out (by omega)
theorem setsL_in: ∀ {vs xs:List Value} {o:Nat},o+vs.length≤xs.length→setsL xs o vs=xs.take o++vs++xs.drop (o+vs.length)
 |[],xs,o,h=>by simp[setsL]
 |v::r,xs,o,h=>by
  simp only[List.length_cons]at h;unfold setsL;rw[setsL_in (by rw[List.length_set];omega),List.take_add_one,List.take_set_of_le (Nat.le_refl _),List.getElem?_set_self (by omega),List.drop_set_of_lt (by omega),List.length_cons,show o+1+r.length=o+(r.length+1) by omega];simp
theorem own_setCells {base:Nat}{e:TypeId}{size g n cap:Nat}: ∀ {vs:List Value} {w:World} {xs:List Value} {o:Nat},w.ownsRow base e size (.slice (some ⟨g,0,none⟩) n cap) n xs→
 (w.setCells g o vs).ownsRow base e size (.slice (some ⟨g,0,none⟩) n cap) n (setsL xs o vs)∧w.grownBy (w.setCells g o vs) (some g)
 |[],w,xs,o,h=>⟨h,World.grownBy.refl w _⟩
 |v::r,w,xs,o,h=>by
  obtain⟨h1,h2⟩:=h.stored o v;obtain⟨h3,h4⟩:=own_setCells (vs:=r) (o:=o+1) h1;exact⟨h3,grown_trans h2 h4⟩
theorem run_clear_wide {P:Program}(w:World)(t e ty:TypeId)(z:Value)(zs:List Value)(ht:P.underlying t=some (.slice e))(hv: ∀w,(zeroValue e).run P w= .ok z w)(b o n c:Nat)(hn:0<n)(hz:(Builtin.zeroCells z.cells n).toList=zs)(h1: ∀v∈zs,v.oneCell'=true)
 (hc: ∀j,j<zs.length→(w.cell? ⟨b,o+j,none⟩).isSome=true) (hf: ∀j,j<zs.length→w.frozen? ⟨b,o+j,none⟩=false):
 (Builtin.clear_ #[t] ty #[.slice (some ⟨b,o,none⟩) n c]).run P w= .ok (.tuple #[]) (w.setCells b o zs):=by
 have hst:=run_storeCells_cells (P:=P) b o zs 0 w (by simpa using hc) (by simpa using hf) h1;simp only[Nat.add_zero]at hst;obtain⟨m,rfl⟩: ∃m,n=m+1:=⟨n-1,by omega⟩;simp[Builtin.clear_,run_underlying ht,hv,hz,hst]
def zT:List Value:=[.int .i64 0,.int .i64 0,.string ⟨#[]⟩,.int .i64 0]
end Go.Proofs.YtjhbeecmdgglgaaGreatDoor
namespace Go.Proofs.YtjhbeecmdgglgaaGreatDoor
open Go.RowKit
structure PosT (l:List Tl) (v:Val) (i:Nat):Prop where
 le:i≤l.length
 low: ∀j y,j<i→l[j]?=some y→cmpV y.v v<0
 high: ∀j y,i≤j→l[j]?=some y→0≤cmpV y.v v
structure UpT (l:List Tl):Prop where
 good: ∀x∈l,GoodR [x.v]
 rise:l.Pairwise fun a b=>cmpV a.v b.v<0
end Go.Proofs.YtjhbeecmdgglgaaGreatDoor
namespace Go.Proofs.YtjhbeecmdgglgaaGreatDoor
open Go.RowKit
theorem OwnT.below {w w':World}{base:Nat}{v:Value}{l:List Tl}(h:OwnT w base v l)(hb:Below w.heap.size w w'):OwnT w' base v l:=⟨own_below h.own hb⟩
end Go.Proofs.YtjhbeecmdgglgaaGreatDoor
namespace Go.Proofs.YtjhbeecmdgglgaaGreatDoor
open Go.RowKit Go.Maps
structure Turned (F:Nat→Prop) (w w':World):Prop where
 os:w'.os=w.os
 tape:w'.tape=w.tape
 output:w'.output=w.output
 size:w.heap.size≤w'.heap.size
 same: ∀k,k<w.heap.size→ ¬F k→w'.heap[k]?=w.heap[k]?
theorem Turned.refl (F:Nat→Prop)(w:World):Turned F w w:=⟨rfl,rfl,rfl,Nat.le_refl _,fun _ _ _=>rfl⟩
theorem Turned.trans {F:Nat→Prop}{a b c:World}(h:Turned F a b)(k:Turned F b c):Turned F a c:=
 ⟨k.os.trans h.os,k.tape.trans h.tape,k.output.trans h.output,Nat.le_trans h.size k.size,fun i hi hf=>(k.same i (Nat.lt_of_lt_of_le hi h.size) hf).trans (h.same i hi hf)⟩
theorem Turned.imp {F G:Nat→Prop}{w w':World}(h:Turned F w w')(hi: ∀k,k<w.heap.size→F k→G k):Turned G w w':=⟨h.os,h.tape,h.output,h.size,fun k hk hg=>h.same k hk fun hf=>hg (hi k hk hf)⟩
theorem Turned.transN {F G:Nat→Prop}{a b c:World}(h:Turned F a b)(k:Turned G b c)(hi: ∀i,i<a.heap.size→G i→F i):Turned F a c:=
 ⟨k.os.trans h.os,k.tape.trans h.tape,k.output.trans h.output,Nat.le_trans h.size k.size,fun i hl hf=>(k.same i (Nat.lt_of_lt_of_le hl h.size) fun hg=>hf (hi i hl hg)).trans (h.same i hl hf)⟩
theorem turned_grown {w w':World}{row:Option Nat}(h:w.grownBy w' row):Turned (fun k=>row=some k) w w':=⟨h.os,h.tape,h.output,h.size,fun k hk hf=>h.block k hk (fun e=>hf e.symm)⟩
theorem turned_below {F:Nat→Prop}{w w':World}(h:Below w.heap.size w w'):Turned F w w':=⟨h.os,h.tape,h.output,h.size,fun k hk _=>h.block k hk⟩
theorem turned_set (w:World)(p:Addr)(u:Value):Turned (fun k=>k=p.block) w (w.setCell p u):=⟨rfl,rfl,rfl,by rw[World.size_setCell];exact Nat.le_refl _,fun k _ hf=>Below.heap_setCell w p u k hf⟩
theorem Turned.below {F:Nat→Prop}{w w':World}{base:Nat}(h:Turned F w w')(hb:base≤w.heap.size)(hf: ∀k,F k→base≤k):Below base w w':=⟨h.os,h.tape,h.output,h.size,fun k hk=>h.same k (by omega) fun e=>by have:=hf k e;omega⟩
theorem below_turned {F:Nat→Prop}{a w w':World}(hb:Below a.heap.size a w)(h:Turned F w w')(hf: ∀k,F k→a.heap.size≤k):Below a.heap.size a w':=hb.trans (h.below hb.size hf)
theorem blk_turned {F:Nat→Prop}{w w':World}{g:Nat}{t:TypeId}{cs:Array Value}(h:Blk w g t cs)(ht:Turned F w w')(hg: ¬F g):Blk w' g t cs:=(ht.same g h.lt hg).trans h
end Go.Proofs.YtjhbeecmdgglgaaGreatDoor
namespace Go.Proofs.YtjhbeecmdgglgaaGreatDoor
open Go.RowKit Go.Maps
theorem sl_turned {F:Nat→Prop}{w w':World}{v:Value}{n:Nat}{cs:List Value}(h:Sl w v n cs)(ht:Turned F w w')(hg: ∀k,v.ownBlock=some k→ ¬F k):Sl w' v n cs:=by
 obtain⟨A,c,rfl,h1,h2,h0,h3⟩:=h;refine⟨A,c,rfl,h1,h2,h0,fun hne=> ?_⟩;obtain⟨b,off,rfl,hc⟩:=h3 hne;refine⟨b,off,rfl,fun j u hj=> ?_⟩;have h4:=hc j u hj;rw[World.cell?_of_block (ht.same b (World.block_lt_of_cell? w _ h4) (hg b rfl))];exact h4
theorem own_turned {F:Nat→Prop}{w w':World}{base:Nat}{e:TypeId}{size n:Nat}{v:Value}{xs:List Value}(h:w.ownsRow base e size v n xs)(ht:Turned F w w')(hg: ∀k,v.ownBlock=some k→ ¬F k):w'.ownsRow base e size v n xs:=by
 refine⟨h.1,?_⟩;rcases h.2 with hn|⟨g,cap,cur,rfl,hb,hgg,rest⟩
 ·exact .inl hn
 ·exact .inr ⟨g,cap,cur,rfl,hb,(ht.same g (Array.getElem?_eq_some_iff.1 hgg).1 (hg g rfl)).trans hgg,rest⟩
theorem map_turned {F:Nat→Prop}{w w':World}{R:Value→Option (DataW Unit×List MemPlace)}{M n:Nat}{D:DataW Unit}(h:w.ownsMap Tryz.prog 9 R M n D)(ht:Turned F w w')(hM: ¬F M):w'.ownsMap Tryz.prog 9 R M n D:=by
 have hlt:=h.lt;obtain⟨es,clock,hb,r⟩:=h;exact⟨es,clock,(ht.same M hlt hM).trans hb,r⟩
def GBk (b:Nat) (x:Gm) (k:Nat):Prop:=k=b∨x.v.ownBlock=some k∨x.vb.ownBlock=some k∨ ∃q∈x.bags,q.1.ownBlock=some k
structure GpO (w:World) (base b:Nat) (x:Gm):Prop where
 cell:Blk w b 126 #[x.v,.int .i64 x.n,x.vb]
 row:Sl w x.v x.r.length (rowCells x.r)
 sl:w.ownsRow base 155 1 x.vb x.bags.length (x.bags.map (·.1))
 bag: ∀q∈x.bags,w.ownsRow base 181 4 q.1 q.2.length (tlCells q.2)
 range: ∀k,GBk b x k→base≤k∧k<w.heap.size
 bv:x.v.ownBlock≠some b
 bvb:x.vb.ownBlock≠some b
 bq: ∀q∈x.bags,q.1.ownBlock≠some b
 vvb: ∀k,x.v.ownBlock=some k→x.vb.ownBlock≠some k
 vq: ∀k,x.v.ownBlock=some k→ ∀q∈x.bags,q.1.ownBlock≠some k
 vbq: ∀k,x.vb.ownBlock=some k→ ∀q∈x.bags,q.1.ownBlock≠some k
 pair:x.bags.Pairwise fun p q=> ∀k,p.1.ownBlock=some k→q.1.ownBlock≠some k
theorem GpO.turned {F:Nat→Prop}{w w':World}{base b:Nat}{x:Gm}(h:GpO w base b x)(ht:Turned F w w')(hf: ∀k,GBk b x k→ ¬F k):GpO w' base b x:=
 ⟨blk_turned h.cell ht (hf b (.inl rfl)),sl_turned h.row ht fun k hk=>hf k (.inr (.inl hk)),own_turned h.sl ht fun k hk=>hf k (.inr (.inr (.inl hk))),fun q hq=>own_turned (h.bag q hq) ht fun k hk=>hf k (.inr (.inr (.inr ⟨q,hq,hk⟩))),
  fun k hk=>⟨(h.range k hk).1,Nat.lt_of_lt_of_le (h.range k hk).2 ht.size⟩,h.bv,h.bvb,h.bq,h.vvb,h.vq,h.vbq,h.pair⟩
theorem GpO.below {w w':World}{base b:Nat}{x:Gm}(h:GpO w base b x)(hb:Below w.heap.size w w'):GpO w' base b x:=h.turned (turned_below (F:=fun _=>False) hb) fun _ _ hf=>hf
theorem GpO.ok {w:World}{base b:Nat}{x:Gm}(h:GpO w base b x):x.ok w:=⟨h.row,Sl.of_own h.sl,fun q hq=>Sl.of_own (h.bag q hq)⟩
theorem GpO.setN {w:World}{base b:Nat}{x:Gm}(h:GpO w base b x)(n:Int):GpO (w.setCell ⟨b,1,none⟩ (.int .i64 n)) base b ⟨x.v,x.r,n,x.vb,x.bags⟩:=by
 have ht:=turned_set w ⟨b,1,none⟩ (.int .i64 n)
 refine⟨h.cell.set_ 1 (.int .i64 n),sl_turned h.row ht fun k hk e=>h.bv (by rw[hk];exact congrArg some e),own_turned h.sl ht fun k hk e=>h.bvb (by rw[hk];exact congrArg some e),fun q hq=>own_turned (h.bag q hq) ht fun k hk e=>h.bq q hq (by rw[hk];exact congrArg some e),
  fun k hk=> ?_,h.bv,h.bvb,h.bq,h.vvb,h.vq,h.vbq,h.pair⟩
 have:=h.range k hk;rw[World.size_setCell];exact this
theorem GpO.setBag {w w':World}{base b g cap i:Nat}{x:Gm}{q:Value×List Tl}{u:Value}{l:List Tl}(h:GpO w base b x)(hvb:x.vb= .slice (some ⟨g,0,none⟩) x.bags.length cap)(hq:x.bags[i]?=some q)(hg:w.grownBy w' q.1.ownBlock)(ho:OwnT w' base u l)(hu: ∀k,u.ownBlock=some k→q.1.ownBlock=some k∨w.heap.size≤k):
 GpO (w'.setCell ⟨g,i,none⟩ u) base b ⟨x.v,x.r,x.n,x.vb,x.bags.set i (u,l)⟩∧Turned (fun k=>q.1.ownBlock=some k∨k=g) w (w'.setCell ⟨g,i,none⟩ u):=by
 have hil:i<x.bags.length:=(List.getElem?_eq_some_iff.1 hq).1;have hqm:q∈x.bags:=List.mem_of_getElem? hq;have hgb:x.vb.ownBlock=some g:=by rw[hvb];rfl
 have ht1:=turned_grown hg;have ht2:=turned_set w' ⟨g,i,none⟩ u;have ht:Turned (fun k=>q.1.ownBlock=some k∨k=g) w (w'.setCell ⟨g,i,none⟩ u):=(ht1.imp fun k _ h=>Or.inl h).trans (ht2.imp fun k _ h=>Or.inr h);have hgs:=h.range g (.inr (.inr (.inl hgb)));have hgr: ∀k,q.1.ownBlock=some k→base≤k∧k<w.heap.size:=fun k hk=>h.range k (.inr (.inr (.inr ⟨q,hqm,hk⟩)))
 have hug:u.ownBlock≠some g:=fun e=>by
  rcases hu g e with h1|h1
  ·exact h.vbq g hgb q hqm h1
  ·omega
 have hset: ∀p∈x.bags.set i (u,l),p=(u,l)∨ ∃j,j≠i∧x.bags[j]?=some p:=fun p hp=>by
  obtain⟨j,hj⟩:=List.mem_iff_getElem?.1 hp;by_cases hne:i=j
  ·subst hne
   rw[List.getElem?_set_self hil]at hj;injection hj with hj;exact .inl hj.symm
  ·rw[List.getElem?_set_ne hne]at hj
   exact .inr ⟨j,fun e=>hne e.symm,hj⟩
 have hoth: ∀ {j:Nat} {p:Value×List Tl},j≠i→x.bags[j]?=some p→ ∀k,p.1.ownBlock=some k→q.1.ownBlock≠some k:=fun{j p} hne hp k hk e=>by
  obtain⟨h1,e1⟩:=List.getElem?_eq_some_iff.1 hp;obtain⟨h2,e2⟩:=List.getElem?_eq_some_iff.1 hq;rcases Nat.lt_or_ge j i with hlt|hge
  ·have:=List.pairwise_iff_getElem.1 h.pair j i h1 h2 hlt
   rw[e1,e2]at this;exact this k hk e
  ·have:=List.pairwise_iff_getElem.1 h.pair i j h2 h1 (by omega)
   rw[e1,e2]at this;exact this k e hk
 have hold: ∀ {j:Nat} {p:Value×List Tl},x.bags[j]?=some p→ ∀k,p.1.ownBlock=some k→k<w.heap.size∧base≤k:=fun{j p} hp k hk=>by
  have:=h.range k (.inr (.inr (.inr ⟨p,List.mem_of_getElem? hp,hk⟩)));omega
 have hsz:w.heap.size≤(w'.setCell ⟨g,i,none⟩ u).heap.size:=ht.size;have huw: ∀k,u.ownBlock=some k→k<(w'.setCell ⟨g,i,none⟩ u).heap.size:=fun k hk=>by rw[World.size_setCell];exact(ho.own.lt k hk).2
 have hub: ∀k,u.ownBlock=some k→base≤k:=fun k hk=>(ho.own.lt k hk).1;refine⟨⟨?_,?_,?_,fun p hp=> ?_,fun k hk=> ?_,h.bv,h.bvb,fun p hp e=> ?_,h.vvb,fun k hk p hp e=> ?_,fun k hk p hp e=> ?_,?_⟩,ht⟩
 ·refine blk_turned h.cell ht fun hf=> ?_
  rcases hf with hf|hf
  ·exact h.bq q hqm hf
  ·exact h.bvb (hf▸hgb)
 ·refine sl_turned h.row ht fun k hk hf=> ?_
  rcases hf with hf|hf
  ·exact h.vq k hk q hqm hf
  ·exact h.vvb k hk (hf▸hgb)
 ·have h1:w'.ownsRow base 155 1 (.slice (some ⟨g,0,none⟩) x.bags.length cap) x.bags.length (x.bags.map (·.1)):=by
   rw[←hvb];exact own_turned h.sl ht1 fun k hk hf=>h.vbq k hk q hqm hf
  have h2:=(h1.stored i u).1;show(w'.setCell ⟨g,i,none⟩ u).ownsRow base 155 1 x.vb (x.bags.set i (u,l)).length ((x.bags.set i (u,l)).map (·.1));rw[hvb,List.length_set,List.map_set];exact h2
 ·rcases hset p hp with rfl|⟨j,hj,hjp⟩
  ·exact own_turned ho.own ht2 fun k hk hf=>hug (by rw[hk];exact congrArg some hf)
  ·refine own_turned (h.bag p (List.mem_of_getElem? hjp)) ht fun k hk hf=> ?_
   rcases hf with hf|hf
   ·exact hoth hj hjp k hk hf
   ·exact h.vbq k (hf▸hgb) p (List.mem_of_getElem? hjp) hk
 ·rcases hk with hk|hk|hk|⟨p,hp,hk⟩
  ·have:=h.range k (.inl hk);omega
  ·have:=h.range k (.inr (.inl hk));omega
  ·have:=h.range k (.inr (.inr (.inl hk)));omega
  ·rcases hset p hp with rfl|⟨j,hj,hjp⟩
   ·exact⟨hub k hk,huw k hk⟩
   ·have:=hold hjp k hk;omega
 ·rcases hset p hp with rfl|⟨j,hj,hjp⟩
  ·rcases hu b e with h1|h1
   ·exact h.bq q hqm h1
   ·have:=(h.range b (.inl rfl)).2;omega
  ·exact h.bq p (List.mem_of_getElem? hjp) e
 ·rcases hset p hp with rfl|⟨j,hj,hjp⟩
  ·rcases hu k e with h1|h1
   ·exact h.vq k hk q hqm h1
   ·have:=(h.range k (.inr (.inl hk))).2;omega
  ·exact h.vq k hk p (List.mem_of_getElem? hjp) e
 ·rcases hset p hp with rfl|⟨j,hj,hjp⟩
  ·rcases hu k e with h1|h1
   ·exact h.vbq k hk q hqm h1
   ·have:=(h.range k (.inr (.inr (.inl hk)))).2;omega
  ·exact h.vbq k hk p (List.mem_of_getElem? hjp) e
 ·rw[List.pairwise_iff_getElem]
  intro m n hm hn hmn k hk e
  have hnew: ∀ {j:Nat} {p:Value×List Tl},j≠i→x.bags[j]?=some p→p.1.ownBlock=some k→u.ownBlock=some k→False:=fun{j p} hj hp hk1 hk2=>by
   rcases hu k hk2 with h1|h1
   ·exact hoth hj hp k hk1 h1
   ·have:=(hold hp k hk1).1;omega
  rw[List.length_set]at hm hn;have em:=List.getElem?_eq_getElem hm;have en:=List.getElem?_eq_getElem hn;rw[List.getElem_set]at hk e;split at hk
  ·rename_i h1
   split at e
   ·omega
   ·exact hnew (by omega) en e hk
  ·rename_i h1
   split at e
   ·exact hnew (by omega) em hk e
   ·exact List.pairwise_iff_getElem.1 h.pair m n hm hn hmn k hk e
def ptrE (v:Value):Option (DataW Unit×List MemPlace):=match v with
 | .pointer none=>some (.lit (.int .i64 0),[])
 | .pointer (some ⟨b,0,none⟩)=>some (.lit (.int .i64 ((b:Int)+1)),[])
 |_=>none
theorem ptrE_inv {v:Value}{n:Int}{ps:List MemPlace}(h:ptrE v=some (.lit (.int .i64 n),ps)):(n=0∧v= .pointer none)∨ ∃b:Nat,n=(b:Int)+1∧v= .pointer (some ⟨b,0,none⟩):=by
 unfold ptrE at h;split at h
 ·injection h with h;injection h with h1 h2;injection h1 with h1;injection h1 with h1 h1;exact .inl ⟨h1.symm,rfl⟩
 ·injection h with h;injection h with h1 h2;injection h1 with h1;injection h1 with h1 h1;exact .inr ⟨_,h1.symm,rfl⟩
 ·cases h
def ax (X:List (Nat×Gm)):AV:=X.map fun p=>(p.2.r,(p.1:Int)+1)
def gx (X:List (Nat×Gm)):List Gp:=X.map fun p=>p.2.gp
structure GMap (w:World) (base M N:Nat) (X:List (Nat×Gm)):Prop where
 map: ∃n,n≤N∧w.ownsMap Tryz.prog 9 ptrE M n (mkD (ax X))
 mb:base≤M
 each: ∀p∈X,GpO w base p.1 p.2
 far: ∀p∈X,¬GBk p.1 p.2 M
 apart:X.Pairwise fun p q=> ∀k,GBk p.1 p.2 k→ ¬GBk q.1 q.2 k
def MBk (M:Nat) (X:List (Nat×Gm)) (k:Nat):Prop:=k=M∨ ∃p∈X,GBk p.1 p.2 k
theorem GMap.lt {w:World}{base M N:Nat}{X:List (Nat×Gm)}(h:GMap w base M N X):M<w.heap.size:=by
 obtain⟨n,-,h⟩:=h.map;exact h.lt
theorem GMap.range {w:World}{base M N:Nat}{X:List (Nat×Gm)}(h:GMap w base M N X){k:Nat}(hk:MBk M X k):base≤k∧k<w.heap.size:=by
 rcases hk with rfl|⟨p,hp,hk⟩
 ·exact⟨h.mb,h.lt⟩
 ·exact(h.each p hp).range k hk
theorem GMap.turned {F:Nat→Prop}{w w':World}{base M N:Nat}{X:List (Nat×Gm)}(h:GMap w base M N X)(ht:Turned F w w')(hf: ∀k,MBk M X k→ ¬F k):GMap w' base M N X:=by
 obtain⟨n,hn,hm⟩:=h.map;exact⟨⟨n,hn,map_turned hm ht (hf M (.inl rfl))⟩,h.mb,fun p hp=>(h.each p hp).turned ht fun k hk=>hf k (.inr ⟨p,hp,hk⟩),h.far,h.apart⟩
theorem GMap.below {w w':World}{base M N:Nat}{X:List (Nat×Gm)}(h:GMap w base M N X)(hb:Below w.heap.size w w'):GMap w' base M N X:=h.turned (turned_below (F:=fun _=>False) hb) fun _ _ hf=>hf
end Go.Proofs.YtjhbeecmdgglgaaGreatDoor
namespace Go.Proofs.YtjhbeecmdgglgaaGreatDoor
open Go.RowKit Go.Maps
end Go.Proofs.YtjhbeecmdgglgaaGreatDoor
namespace Go.Proofs.YtjhbeecmdgglgaaGreatDoor
open Go.RowKit
end Go.Proofs.YtjhbeecmdgglgaaGreatDoor
namespace Go.Proofs.YtjhbeecmdgglgaaGreatDoor
open Go.RowKit Go.Maps
theorem GMap.snoc {w w2 w3:World}{base M N b:Nat}{X:List (Nat×Gm)}{x:Gm}(h:GMap w base M N X)(hb:Below w.heap.size w w2)(ho:GpO w2 w.heap.size b x)(hm: ∃n,n≤N+1∧w3.ownsMap Tryz.prog 9 ptrE M n (mkD (ax (X++[(b,x)]))))(hg:w2.grownBy w3 (some M))(hbase:base≤w.heap.size):GMap w3 base M (N+1) (X++[(b,x)]):=by
 have ht:=turned_grown hg;have hlt:=h.lt;have hr: ∀k,GBk b x k→w.heap.size≤k:=fun k hk=>(ho.range k hk).1;refine⟨hm,h.mb,fun p hp=> ?_,fun p hp=> ?_,?_⟩
 ·rcases List.mem_append.1 hp with hp|hp
  ·exact(((h.each p hp).below hb).turned ht fun k hk e=>h.far p hp (by injection e with e;rw[e];exact hk))
  ·rw[List.mem_singleton.1 hp]
   have h1:=ho.turned ht fun k hk e=>by injection e with e;have:=hr k hk;omega
   exact⟨h1.cell,h1.row,own_le h1.sl hbase,fun q hq=>own_le (h1.bag q hq) hbase,fun k hk=>⟨Nat.le_trans hbase (h1.range k hk).1,(h1.range k hk).2⟩,h1.bv,h1.bvb,h1.bq,h1.vvb,h1.vq,h1.vbq,h1.pair⟩
 ·rcases List.mem_append.1 hp with hp|hp
  ·exact h.far p hp
  ·rw[List.mem_singleton.1 hp]
   exact fun hk=>by have:=hr M hk;omega
 ·refine List.pairwise_append.2 ⟨h.apart,List.pairwise_singleton _ _,fun p hp q hq k hk e=> ?_⟩
  rw[List.mem_singleton.1 hq]at e;have:=hr k e;have:=((h.each p hp).range k hk).2;omega
theorem ax_rows (X:List (Nat×Gm)):(ax X).map (·.1)=(gx X).map (·.r):=by
 unfold ax gx;rw[List.map_map,List.map_map];rfl
end Go.Proofs.YtjhbeecmdgglgaaGreatDoor
