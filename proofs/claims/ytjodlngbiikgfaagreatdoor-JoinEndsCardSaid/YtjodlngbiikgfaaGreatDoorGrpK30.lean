/-Joins: Check. (Printed by genjn19.py.) -/
import Derived.Test.YtjodlngbiikgfaaGreatDoorGrpK17
import Derived.Test.YtjodlngbiikgfaaGreatDoorGrpK19
import Derived.Test.YtjodlngbiikgfaaGreatDoorGrpK8
import Derived.Test.YtjodlngbiikgfaaGreatDoorGrpK9
import Derived.Test.YtjodlngbiikgfaaGreatDoorGrpK14
import Derived.Test.YtjodlngbiikgfaaGreatDoorGrpK18
import Derived.Maps.RangeWalk
set_option linter.unusedSimpArgs false
set_option linter.unusedVariables false
namespace Go.Proofs.YtjodlngbiikgfaaGreatDoor
open Go.RowKit Go.Maps
open tm (fitsB fits_of fits_yes fits_any)
section
open Classical
noncomputable def bufE (a b v:Value):Option (DataW Unit×List MemPlace):=if v=a then some (.lit (.int .i64 1),[])else if v=b then some (.lit (.int .i64 2),[])else none
noncomputable def bufD (a b:Value):DataW Unit:=if b=a then .lit (.int .i64 1)else .lit (.int .i64 2)
theorem bufE_l (a b:Value):bufE a b a=some (.lit (.int .i64 1),[]):=if_pos rfl
theorem bufE_r (a b:Value):bufE a b b=some (bufD a b,[]):=by
 unfold bufE bufD;by_cases h:b=a
 ·rw[if_pos h,if_pos h]
 ·rw[if_neg h,if_neg h,if_pos rfl]
theorem bufE_some {a b v:Value}{y:DataW Unit×List MemPlace}(h:bufE a b v=some y):v=a∨v=b:=by
 unfold bufE at h;by_cases h1:v=a
 ·exact .inl h1
 ·rw[if_neg h1]at h
  by_cases h2:v=b
  ·exact .inr h2
  ·rw[if_neg h2]at h;cases h
theorem bufE_one {a b v:Value}{y:DataW Unit×List MemPlace}(h:bufE a b v=some y)(hy:y.1= .lit (.int .i64 1)):v=a:=by
 unfold bufE at h;by_cases h1:v=a
 ·exact h1
 ·rw[if_neg h1]at h
  by_cases h2:v=b
  ·rw[if_pos h2]at h
   injection h with h;rw[←h]at hy;injection hy with hy;injection hy with _ hy;exact absurd hy (by decide)
  ·rw[if_neg h2]at h;cases h
theorem bufE_two {a b v:Value}{y:DataW Unit×List MemPlace}(h:bufE a b v=some y)(hy:y.1=bufD a b):v=b:=by
 unfold bufD at hy;by_cases hab:b=a
 ·rw[if_pos hab]at hy
  rw[hab];exact bufE_one h hy
 ·rw[if_neg hab]at hy
  rcases bufE_some h with h1|h1
  ·unfold bufE at h
   rw[if_pos h1]at h;injection h with h;rw[←h]at hy;injection hy with hy;injection hy with _ hy;exact absurd hy (by decide)
  ·exact h1
end
noncomputable def bufM (a b:Value):DataW Unit:=((DataW.map []).put (.int .i64 1) (.lit (.int .i64 1))).put (.int .i64 2) (bufD a b)
theorem bufM_has {a b:Value}{z:Lit}(h:Maps.has (bufM a b) z=true):z= .int .i64 1∨z= .int .i64 2:=by
 by_cases h2:z= .int .i64 2
 ·exact .inr h2
 ·by_cases h1:z= .int .i64 1
  ·exact .inl h1
  ·unfold bufM at h
   rw[has_put_other h2,has_put_other h1]at h;cases h
theorem bufM_has1 (a b:Value):Maps.has (bufM a b) (.int .i64 1)=true:=by
 unfold bufM;rw[has_put_other (by intro h;injection h with _ h;exact absurd h (by decide)),has_put_same ⟨[],rfl⟩ (isKey_int 1)]
theorem bufM_has2 (a b:Value):Maps.has (bufM a b) (.int .i64 2)=true:=by
 unfold bufM;exact has_put_same (isMap_put ⟨[],rfl⟩ _ _) (isKey_int 2) _
theorem bufM_at1 (a b:Value)(z:DataW Unit):(bufM a b).atKey (.int .i64 1) z= .lit (.int .i64 1):=by
 unfold bufM;rw[atKey_put_other (by intro h;injection h with _ h;exact absurd h (by decide)),atKey_put_same ⟨[],rfl⟩ (isKey_int 1)]
theorem bufM_at2 (a b:Value)(z:DataW Unit):(bufM a b).atKey (.int .i64 2) z=bufD a b:=by
 unfold bufM;exact atKey_put_same (isMap_put ⟨[],rfl⟩ _ _) (isKey_int 2) _ _
theorem wpList_insert_own {H:Type}{P:Program}(w:World){ops:Array Oper}{rest:List Oper}{o:Oper}{a:Act}{Q:Exit→Act→World→Prop}
 (hg:o.guard=none) (m x v:Operand) (t:TypeId) (hop:o.op=Op.insert t m x v)
 (k e:TypeId) (K:Keyed P k) (ht:P.underlying t=some (.map k e)) (R:Value→Option (DataW H×List MemPlace)) (b n:Nat) (D:DataW H)
 (hm:a.eval m= .map (some b)) (hown:w.ownsMap P k R b n D) (hn:n<maxLen) (key val:Value) (kl:Lit) (hx:a.eval x=key) (hv:a.eval v=val) (hkey:keyOf P k key=some kl)
 (d:DataW H) (ps:List MemPlace) (hval:R val=some (d,ps))
 (hK: ∀w',w'.ownsMap P k R b (n+1) (D.put kl d)→w.grownBy w' (some b)→wpList P ops Q rest (a.put o.dst undef) w'):
 wpList P ops Q (o::rest) a w:=by
 refine wpList_plain hg fun K' hK'=> ?_;obtain⟨w',hrun,r1,r2⟩:=hown.update K ht hn hkey hval;unfold Oper.wp;simp[execOp,hop,hm,hx,hv,hrun,Result.andThen];exact hK' _ _ (hK w' r1 r2)
theorem mark_btw (m:Int):btw m noM 1099511627776=(m==noM||fitsB m):=by
 unfold btw noM fitsB;rw[Bool.eq_iff_iff];simp;omega
theorem chk_len {p:Pl}{s:Jn}{left:Int→Bool}{S:List Int}(h:Chk p s left S):S.length≤s.left.all.length+s.right.all.length:=by
 have h1:=h.pm.length_eq;rw[List.length_append]at h1;have a1:(if left 1=true then[]else sideN s 1).length≤s.left.all.length:=by split<;>first|exact Nat.zero_le _|(unfold sideN;rw[List.length_map];exact Nat.le_refl _)
 have a2:(if left 2=true then[]else sideN s 2).length≤s.right.all.length:=by split<;>first|exact Nat.zero_le _|(unfold sideN;rw[List.length_map];exact Nat.le_refl _)
 omega
theorem rowR_is {p:Pl}(h:checkP p=0)(side:Int)(r:List Val):rowR p side r=rowE p side r:=if_pos h
theorem strike_left (left:Lit→Bool)(d x:Int):(left (.int .i64 x)&& !(Lit.int .i64 x).sameKey (.int .i64 d))=(left (.int .i64 x)&& !(x==d)):=by
 congr 1
 congr 1
 unfold Lit.sameKey;rw[Bool.eq_iff_iff];simp
theorem entOk_of {p:Pl}{d q:Int}{e:En}(h:entOk p d q e=true):e.s<q∧rowE p d e.r=0∧(keyFor p d e.r).2=true∧(keyFor p d e.r).1.toList=e.key:=by
 unfold entOk at h;simpa using h
theorem entOk_mk {p:Pl}{d q:Int}{e:En}(h1:e.s<q)(h2:rowE p d e.r=0)(h3:(keyFor p d e.r).2=true)(h4:(keyFor p d e.r).1.toList=e.key):entOk p d q e=true:=by
 unfold entOk;simp[h1,h2,h3,h4]
theorem nodup_count {l:List Int}(h:l.Nodup)(x:Int):l.count x≤1:=List.nodup_iff_count.1 h x
set_option maxHeartbeats 16000000 in
set_option maxRecDepth 10000 in
theorem jcheck_any (p:Pl)(s:Jv)(w:World)(hp:p.ok w)(hf:p.fit)(hs:s.ok w)(hsf:s.fit)(hm:Mx w):
 Calls Tryz.prog 15 #[.agg #[.int .i64 p.kind,.int .i64 p.mode,.int .i64 p.low,.int .i64 p.high,.int .i64 p.size,.int .i64 p.limit,p.vl,p.vr,p.vk,p.vq,.bool p.grouped,p.vg,p.va],.agg #[.int .i64 s.l.limit,s.l.vm,s.l.vr,.int .i64 s.r.limit,s.r.vm,s.r.vr,.int .i64 s.lm,.int .i64 s.rm,.int .i64 s.seq]] w fun r w'=>r= .returned (.int .i64 (checkJ p s.jn))∧Below w.heap.size w w':=by
 obtain⟨A0,c0,h0,-⟩:=id hp.l;obtain⟨A1,c1,h1,-⟩:=id hp.r;obtain⟨A2,c2,h2,-⟩:=id hp.k;obtain⟨A3,c3,h3,-⟩:=id hp.q;obtain⟨A4,c4,h4,-⟩:=id hp.g;obtain⟨A5,c5,h5,-⟩:=id hp.a;obtain⟨B0,d0,g0,-⟩:=id hs.l.mem.sl;obtain⟨B1,d1,g1,-⟩:=id hs.l.sl;obtain⟨B2,d2,g2,-⟩:=id hs.r.mem.sl;obtain⟨B3,d3,g3,-⟩:=id hs.r.sl;have HPV:=Lib.hid (And.intro h0 (And.intro h1 (And.intro h2 (And.intro h3 (And.intro h4 h5)))));have HSV:=Lib.hid (And.intro g0 (And.intro g1 (And.intro g2 g3)));obtain⟨R,hR⟩: ∃q,checkJ p s.jn=q:=⟨_,rfl⟩;obtain⟨E,hE⟩: ∃q,checkP p=q:=⟨_,rfl⟩;have hB1:=(below_alloc w (.cells #[.int .i64 p.kind,.int .i64 p.mode,.int .i64 p.low,.int .i64 p.high,.int .i64 p.size,.int .i64 p.limit,.slice A0 p.left.length c0,.slice A1 p.right.length c1,.slice A2 p.lkeys.length c2,.slice A3 p.rkeys.length c3,.bool p.grouped,.slice A4 p.group.length c4,.slice A5 p.aggs.length c5] 25)).alloc (by rw[World.size_alloc];omega) (.cells #[.int .i64 s.l.limit,.slice B0 s.l.mem.length d0,.slice B1 s.l.runs.length d1,.int .i64 s.r.limit,.slice B2 s.r.mem.length d2,.slice B3 s.r.runs.length d3,.int .i64 s.lm,.int .i64 s.rm,.int .i64 s.seq] 31);have k0:=(Blk.new w 25 #[.int .i64 p.kind,.int .i64 p.mode,.int .i64 p.low,.int .i64 p.high,.int .i64 p.size,.int .i64 p.limit,.slice A0 p.left.length c0,.slice A1 p.right.length c1,.slice A2 p.lkeys.length c2,.slice A3 p.rkeys.length c3,.bool p.grouped,.slice A4 p.group.length c4,.slice A5 p.aggs.length c5]).alloc (.cells #[.int .i64 s.l.limit,.slice B0 s.l.mem.length d0,.slice B1 s.l.runs.length d1,.int .i64 s.r.limit,.slice B2 s.r.mem.length d2,.slice B3 s.r.runs.length d3,.int .i64 s.lm,.int .i64 s.rm,.int .i64 s.seq] 31);have k1:=Blk.new (w.alloc (.cells #[.int .i64 p.kind,.int .i64 p.mode,.int .i64 p.low,.int .i64 p.high,.int .i64 p.size,.int .i64 p.limit,.slice A0 p.left.length c0,.slice A1 p.right.length c1,.slice A2 p.lkeys.length c2,.slice A3 p.rkeys.length c3,.bool p.grouped,.slice A4 p.group.length c4,.slice A5 p.aggs.length c5] 25)) 31 #[.int .i64 s.l.limit,.slice B0 s.l.mem.length d0,.slice B1 s.l.runs.length d1,.int .i64 s.r.limit,.slice B2 s.r.mem.length d2,.slice B3 s.r.runs.length d3,.int .i64 s.lm,.int .i64 s.rm,.int .i64 s.seq];have k4:((w.alloc (.cells #[.int .i64 p.kind,.int .i64 p.mode,.int .i64 p.low,.int .i64 p.high,.int .i64 p.size,.int .i64 p.limit,.slice A0 p.left.length c0,.slice A1 p.right.length c1,.slice A2 p.lkeys.length c2,.slice A3 p.rkeys.length c3,.bool p.grouped,.slice A4 p.group.length c4,.slice A5 p.aggs.length c5] 25)).alloc (.cells #[.int .i64 s.l.limit,.slice B0 s.l.mem.length d0,.slice B1 s.l.runs.length d1,.int .i64 s.r.limit,.slice B2 s.r.mem.length d2,.slice B3 s.r.runs.length d3,.int .i64 s.lm,.int .i64 s.rm,.int .i64 s.seq] 31)).heap.size=w.heap.size+1+1:=by rw[World.size_alloc,World.size_alloc]
 simp only[World.size_alloc]at k1;obtain⟨W1,hW1⟩: ∃V,(w.alloc (.cells #[.int .i64 p.kind,.int .i64 p.mode,.int .i64 p.low,.int .i64 p.high,.int .i64 p.size,.int .i64 p.limit,.slice A0 p.left.length c0,.slice A1 p.right.length c1,.slice A2 p.lkeys.length c2,.slice A3 p.rkeys.length c3,.bool p.grouped,.slice A4 p.group.length c4,.slice A5 p.aggs.length c5] 25)).alloc (.cells #[.int .i64 s.l.limit,.slice B0 s.l.mem.length d0,.slice B1 s.l.runs.length d1,.int .i64 s.r.limit,.slice B2 s.r.mem.length d2,.slice B3 s.r.runs.length d3,.int .i64 s.lm,.int .i64 s.rm,.int .i64 s.seq] 31)=V:=⟨_,rfl⟩;rw[hW1]at hB1 k0 k1 k4;have HB1:=Lib.hid hB1;have HKP:=Lib.hid k0;have HKS:=Lib.hid k1;have HSZ:=Lib.hid k4;have HRR:=Lib.hid hR;have HEE:=Lib.hid hE
 have HCP:Hid (Calls Tryz.prog 32 #[.agg #[.int .i64 p.kind,.int .i64 p.mode,.int .i64 p.low,.int .i64 p.high,.int .i64 p.size,.int .i64 p.limit,.slice A0 p.left.length c0,.slice A1 p.right.length c1,.slice A2 p.lkeys.length c2,.slice A3 p.rkeys.length c3,.bool p.grouped,.slice A4 p.group.length c4,.slice A5 p.aggs.length c5]] W1 fun r w'=>r= .returned (.int .i64 E)∧Below W1.heap.size W1 w'):=Lib.hid (by
  have h:=check_any p W1 (hp.below hB1) hf;rw[h0,h1,h2,h3,h4,h5,hE]at h;exact h)
 have HCL:Hid (∀V,Below W1.heap.size W1 V→Calls Tryz.prog 43 #[.agg #[.int .i64 s.l.limit,.slice B0 s.l.mem.length d0,.slice B1 s.l.runs.length d1]] V fun r w'=>r= .returned (.int .i64 (checkB s.l.bu))∧Below V.heap.size V w'):=Lib.hid (fun V hV=>by
  have h:=bcheck_any s.l V (hs.l.below (below_trans hB1 hV)) hsf.l (hm.below (below_trans hB1 hV));unfold Buf.agg at h;rw[g0,g1]at h;exact h)
 have HCR:Hid (∀V,Below W1.heap.size W1 V→Calls Tryz.prog 43 #[.agg #[.int .i64 s.r.limit,.slice B2 s.r.mem.length d2,.slice B3 s.r.runs.length d3]] V fun r w'=>r= .returned (.int .i64 (checkB s.r.bu))∧Below V.heap.size V w'):=Lib.hid (fun V hV=>by
  have h:=bcheck_any s.r V (hs.r.below (below_trans hB1 hV)) hsf.r (hm.below (below_trans hB1 hV));unfold Buf.agg at h;rw[g2,g3]at h;exact h)
 have HALL:Hid (∀(b:Buf),b=s.l∨b=s.r→checkB b.bu=0→ ∀V,Below W1.heap.size W1 V→Calls Tryz.prog 27 #[.agg #[.int .i64 b.limit,b.vm,b.vr]] V fun e w'=> ∃v l,e= .returned (.tuple #[v,.int .i64 0])∧OwnE w' V.heap.size v l∧ens l=sortE b.bu.all∧Below V.heap.size V w'):=Lib.hid (fun b hb hz V hV=>by
  have hbo:b.ok w:=by rcases hb with rfl|rfl;exact hs.l;exact hs.r
  have hbf:b.fit:=by rcases hb with rfl|rfl;exact hsf.l;exact hsf.r
  have h:=all_any b V (hbo.below (below_trans hB1 hV)) hbf (hm.below (below_trans hB1 hV));unfold Buf.agg at h;rw[hz,if_pos rfl]at h;exact h)
 have HKEY:Hid (∀(d:Int) (v:Value) (r:List Val) V,Below W1.heap.size W1 V→Sl V v r.length (rowCells r)→Fine r→Calls Tryz.prog 45 #[.agg #[.int .i64 p.kind,.int .i64 p.mode,.int .i64 p.low,.int .i64 p.high,.int .i64 p.size,.int .i64 p.limit,.slice A0 p.left.length c0,.slice A1 p.right.length c1,.slice A2 p.lkeys.length c2,.slice A3 p.rkeys.length c3,.bool p.grouped,.slice A4 p.group.length c4,.slice A5 p.aggs.length c5],.int .i64 d,v] V fun e w'=>e= .returned (.tuple #[.string (keyOfR p d r).1,.bool (keyOfR p d r).2,.int .i64 (rowR p d r)])∧Below V.heap.size V w'):=Lib.hid (fun d v r V hV hr hfr=>by
  have h:=keyOf_any p d v r V (hp.below (below_trans hB1 hV)) hf hr hfr (hm.below (below_trans hB1 hV));rw[h0,h1,h2,h3,h4,h5]at h;exact h)
 have HFE:Hid ((∀e∈s.l.bu.all,FineE e)∧ ∀e∈s.r.bu.all,FineE e):=Lib.hid ⟨hsf.l.all,hsf.r.all⟩;rw[h0,h1,h2,h3,h4,h5,g0,g1,g2,g3,hR];have hmm:= @run_makeMap Tryz.prog;have p0:=HKP.out.cellR 0 rfl;have p1:=HKP.out.cellR 1 rfl;have p2:=HKP.out.cellR 2 rfl;have p3:=HKP.out.cellR 3 rfl;have p4:=HKP.out.cellR 4 rfl;have p5:=HKP.out.cellR 5 rfl;have p6:=HKP.out.cellR 6 rfl;have p7:=HKP.out.cellR 7 rfl;have p8:=HKP.out.cellR 8 rfl;have p9:=HKP.out.cellR 9 rfl;have p10:=HKP.out.cellR 10 rfl;have p11:=HKP.out.cellR 11 rfl;have p12:=HKP.out.cellR 12 rfl;have s0:=HKS.out.cellR 0 rfl;have s1:=HKS.out.cellR 1 rfl;have s2:=HKS.out.cellR 2 rfl;have s3:=HKS.out.cellR 3 rfl;have s4:=HKS.out.cellR 4 rfl;have s5:=HKS.out.cellR 5 rfl;have s6:=HKS.out.cellR 6 rfl;have s7:=HKS.out.cellR 7 rfl;have s8:=HKS.out.cellR 8 rfl;clear hp hf hs hsf hm h0 h1 h2 h3 h4 h5 g0 g1 g2 g3 hB1 k0 k1 k4 hR hE;go_enter Tryz.func15,Tryz.ntmps15
 go_upto_region 1 with fail
 first|rw[hW1]|skip
 clear hW1
 go_wp2_with fail
 refine Calls.mono (by with_reducible exact HCP.out) ?_;rintro r x2 ⟨rfl,hb2⟩;have HX2:=Lib.hid hb2;have HKP2:=Lib.hid (HKP.out.below hb2);have HKS2:=Lib.hid (HKS.out.below hb2);clear hb2 HCP;clear p0 p1 p2 p3 p4 p5 p6 p7 p8 p9 p10 p11 p12 s0 s1 s2 s3 s4 s5 s6 s7 s8;by_cases hE0:E=0
 case' neg=>
  have hEb:(E != 0)=true:=by simpa using hE0
  have HZ0:Hid (R=E):=Lib.hid (by rw[←HRR.out,←HEE.out];exact chk_plan (by rw[HEE.out];exact hE0));clear hE0;go_wp2;go_ret;exact⟨by rw[HZ0.out];rfl,below_trans HB1.out HX2.out⟩
 have hEb:(E != 0)=false:=by rw[hE0];rfl
 have HP0:Hid (checkP p=0):=Lib.hid (HEE.out.trans hE0);clear hE0;have s0:=HKS2.out.cellR 0 rfl;have s1:=HKS2.out.cellR 1 rfl;have s2:=HKS2.out.cellR 2 rfl;have s3:=HKS2.out.cellR 3 rfl;have s4:=HKS2.out.cellR 4 rfl;have s5:=HKS2.out.cellR 5 rfl;have HX3:Hid (Below W1.heap.size W1 (x2.alloc (.cells #[.int .i64 s.l.limit,.slice B0 s.l.mem.length d0,.slice B1 s.l.runs.length d1,.int .i64 s.r.limit,.slice B2 s.r.mem.length d2,.slice B3 s.r.runs.length d3] 29))):=Lib.hid (HX2.out.alloc HX2.out.size _);have HKB:=Lib.hid (Blk.new x2 29 #[.int .i64 s.l.limit,.slice B0 s.l.mem.length d0,.slice B1 s.l.runs.length d1,.int .i64 s.r.limit,.slice B2 s.r.mem.length d2,.slice B3 s.r.runs.length d3]);obtain⟨B,hB⟩: ∃q,x2.heap.size=q:=⟨_,rfl⟩;obtain⟨W3,hW3⟩: ∃V,x2.alloc (.cells #[.int .i64 s.l.limit,.slice B0 s.l.mem.length d0,.slice B1 s.l.runs.length d1,.int .i64 s.r.limit,.slice B2 s.r.mem.length d2,.slice B3 s.r.runs.length d3] 29)=V:=⟨_,rfl⟩;rw[hW3]at HX3 HKB;rw[hB]at HKB
 go_upto_region 5 with fail
 try rw[hW3]
 try rw[hB]
 clear hW3 hB s0 s1 s2 s3 s4 s5
 go_loopw[7,8,32] (fun _ _ iv wr=> ∃k:Nat,iv= .int .i64 k∧k≤2∧Hid (1≤k→checkB s.l.bu=0)∧Hid (2≤k→checkB s.r.bu=0)∧Below W3.heap.size W3 wr) (fun _ _ iv _=>2-(intOf iv).toNat)
 case atStart=>exact⟨0,rfl,by omega,Lib.hid fun h=>absurd h (by decide),Lib.hid fun h=>absurd h (by decide),Below.refl _ _⟩
 case round=>
  rename World=>wr
  obtain⟨k,rfl,hk,H1,H2,hbw⟩:=hrel;have hkc:k=0∨k=1∨k=2:=by omega
  rcases hkc with rfl|rfl|rfl
  case inl=>
   have b0:=(HKB.out.below hbw).cellR 0 rfl;have b1:=(HKB.out.below hbw).cellR 1 rfl;have b2:=(HKB.out.below hbw).cellR 2 rfl;have HBW:=Lib.hid hbw;clear hbw H1 H2
   go_wp2_with fail
   refine Calls.mono (by with_reducible exact HCL.out _ (below_trans HX3.out (HBW.out.alloc HBW.out.size _))) ?_;rintro r x5 ⟨rfl,hb5⟩;have HBW5:Hid (Below W3.heap.size W3 x5):=Lib.hid (below_trans (HBW.out.alloc HBW.out.size _) hb5);clear hb5;by_cases hz:checkB s.l.bu=0
   case' neg=>
    have hzb:(checkB s.l.bu != 0)=true:=by simpa using hz
    have HZ0:Hid (R=checkB s.l.bu):=Lib.hid (by rw[←HRR.out];exact chk_left HP0.out (show ¬checkB s.jn.left=0 from hz));clear hz;go_wp2;go_ret;exact⟨by rw[HZ0.out];rfl,below_trans HB1.out (below_trans HX3.out HBW5.out)⟩
   have hzb:(checkB s.l.bu != 0)=false:=by rw[hz];rfl
   have HZZ:=Lib.hid hz;clear hz;go_wp2;go_roundw
   case rel=>exact⟨1,rfl,by omega,Lib.hid fun _=>HZZ.out,Lib.hid fun h=>absurd h (by decide),HBW5.out⟩
   case measure=>simp[intOf]
  case inr.inl=>
   have HCZ:=Lib.hid (H1.out (by decide));have b0:=(HKB.out.below hbw).cellR 3 rfl;have b1:=(HKB.out.below hbw).cellR 4 rfl;have b2:=(HKB.out.below hbw).cellR 5 rfl;have HBW:=Lib.hid hbw;clear hbw H1 H2
   go_wp2_with fail
   refine Calls.mono (by with_reducible exact HCR.out _ (below_trans HX3.out (HBW.out.alloc HBW.out.size _))) ?_;rintro r x5 ⟨rfl,hb5⟩;have HBW5:Hid (Below W3.heap.size W3 x5):=Lib.hid (below_trans (HBW.out.alloc HBW.out.size _) hb5);clear hb5;by_cases hz:checkB s.r.bu=0
   case' neg=>
    have hzb:(checkB s.r.bu != 0)=true:=by simpa using hz
    have HZ0:Hid (R=checkB s.r.bu):=Lib.hid (by rw[←HRR.out];exact chk_right HP0.out (show checkB s.jn.left=0 from HCZ.out) (show ¬checkB s.jn.right=0 from hz));clear hz;go_wp2;go_ret;exact⟨by rw[HZ0.out];rfl,below_trans HB1.out (below_trans HX3.out HBW5.out)⟩
   have hzb:(checkB s.r.bu != 0)=false:=by rw[hz];rfl
   have HZZ:=Lib.hid hz;clear hz;go_wp2;go_roundw
   case rel=>exact⟨2,rfl,by omega,Lib.hid fun _=>HCZ.out,Lib.hid fun _=>HZZ.out,HBW5.out⟩
   case measure=>simp[intOf]
  case inr.inr=>
   have HCZL:=Lib.hid (H1.out (by decide));have HCZR:=Lib.hid (H2.out (by decide));have HX4:Hid (Below W1.heap.size W1 wr):=Lib.hid (below_trans HX3.out hbw);have HKP4:=Lib.hid (HKP.out.below HX4.out);have HKS4:=Lib.hid (HKS.out.below HX4.out);clear hbw H1 H2 hk HX3 HKB HX2 HKP2 HKS2;have s6:=HKS4.out.cellR 6 rfl;have s7:=HKS4.out.cellR 7 rfl;have HY5:Hid (Below wr.heap.size wr (wr.alloc (.cells #[.int .i64 s.lm,.int .i64 s.rm] 3))):=Lib.hid (below_alloc wr _);have HKM:=Lib.hid (Blk.new wr 3 #[.int .i64 s.lm,.int .i64 s.rm]);obtain⟨M,hM⟩: ∃q,wr.heap.size=q:=⟨_,rfl⟩;obtain⟨W5,hW5⟩: ∃V,wr.alloc (.cells #[.int .i64 s.lm,.int .i64 s.rm] 3)=V:=⟨_,rfl⟩;rw[hW5]at HY5 HKM;rw[hM]at HKM
   go_upto_region 12 with fail
   try rw[hW5]
   try rw[hM]
   clear hW5 s6 s7
   go_loopw[10,48] (fun _ iv wv=> ∃k:Nat,iv= .int .i64 k∧k≤2∧Hid (1≤k→btw s.lm noM 1099511627776=true)∧Hid (2≤k→btw s.rm noM 1099511627776=true)∧Below W5.heap.size W5 wv) (fun _ iv _=>2-(intOf iv).toNat)
   case atStart=>exact⟨0,rfl,by omega,Lib.hid fun h=>absurd h (by decide),Lib.hid fun h=>absurd h (by decide),Below.refl _ _⟩
   case round=>
    rename World=>wv
    obtain⟨k,rfl,hk,H1,H2,hbv⟩:=hrel;have hkc:k=0∨k=1∨k=2:=by omega
    rcases hkc with rfl|rfl|rfl
    case inl=>
     have m0:=(HKM.out.below hbv).cellR 0 rfl;have HBV:=Lib.hid hbv;clear hbv H1 H2;by_cases hn:s.lm= -1099511627777
     case' pos=>
      have hnb:(s.lm != -1099511627777)=false:=by rw[hn];rfl
      have HMO:Hid (btw s.lm noM 1099511627776=true):=Lib.hid (by rw[mark_btw,show(s.lm==noM)=true from by rw[hn];rfl];rfl);clear hn;go_wp2;go_roundw
      case rel=>
       first
        |exact⟨1,rfl,by omega,Lib.hid fun _=>HMO.out,Lib.hid fun h=>absurd h (by decide),HBV.out⟩
        |((repeat apply Exists.intro);exact⟨⟨1,rfl,by omega,Lib.hid fun _=>HMO.out,Lib.hid fun h=>absurd h (by decide),HBV.out⟩,rfl⟩)
      case measure=>simp[intOf]
     have hnb:(s.lm != -1099511627777)=true:=by simpa using hn
     have HNN:=Lib.hid hn;clear hn;cases hfit:fitsB s.lm with
     |true=>
      have HMO:Hid (btw s.lm noM 1099511627776=true):=Lib.hid (by rw[mark_btw,hfit,Bool.or_true])
      go_wp2_with (go_at_call 44;refine(fits_any _ _).mono ?_;rintro e w' ⟨rfl,rfl⟩)
      go_roundw
      case rel=>
       first
        |exact⟨1,rfl,by omega,Lib.hid fun _=>HMO.out,Lib.hid fun h=>absurd h (by decide),HBV.out⟩
        |((repeat apply Exists.intro);exact⟨⟨1,rfl,by omega,Lib.hid fun _=>HMO.out,Lib.hid fun h=>absurd h (by decide),HBV.out⟩,rfl⟩)
      case measure=>simp[intOf]
     |false=>
      have HMB:Hid (btw s.lm noM 1099511627776=false):=Lib.hid (by rw[mark_btw,hfit,show(s.lm==noM)=false from by simpa[noM]using HNN.out];rfl);have HZ0:Hid (R=3):=Lib.hid (by rw[←HRR.out];exact chk_ranges HP0.out (show checkB s.jn.left=0 from HCZL.out) (show checkB s.jn.right=0 from HCZR.out) (by show(btw s.lm noM 1099511627776&&_)=false;rw[HMB.out];rfl))
      go_wp2_with (go_at_call 44;refine(fits_any _ _).mono ?_;rintro e w' ⟨rfl,rfl⟩)
      go_ret;exact⟨by rw[HZ0.out];rfl,below_trans HB1.out (below_trans HX4.out (below_trans HY5.out HBV.out))⟩
    case inr.inl=>
     have HMZ:=Lib.hid (H1.out (by decide));have m0:=(HKM.out.below hbv).cellR 1 rfl;have HBV:=Lib.hid hbv;clear hbv H1 H2;by_cases hn:s.rm= -1099511627777
     case' pos=>
      have hnb:(s.rm != -1099511627777)=false:=by rw[hn];rfl
      have HMO:Hid (btw s.rm noM 1099511627776=true):=Lib.hid (by rw[mark_btw,show(s.rm==noM)=true from by rw[hn];rfl];rfl);clear hn;go_wp2;go_roundw
      case rel=>
       first
        |exact⟨2,rfl,by omega,Lib.hid fun _=>HMZ.out,Lib.hid fun _=>HMO.out,HBV.out⟩
        |((repeat apply Exists.intro);exact⟨⟨2,rfl,by omega,Lib.hid fun _=>HMZ.out,Lib.hid fun _=>HMO.out,HBV.out⟩,rfl⟩)
      case measure=>simp[intOf]
     have hnb:(s.rm != -1099511627777)=true:=by simpa using hn
     have HNN:=Lib.hid hn;clear hn;cases hfit:fitsB s.rm with
     |true=>
      have HMO:Hid (btw s.rm noM 1099511627776=true):=Lib.hid (by rw[mark_btw,hfit,Bool.or_true])
      go_wp2_with (go_at_call 44;refine(fits_any _ _).mono ?_;rintro e w' ⟨rfl,rfl⟩)
      go_roundw
      case rel=>
       first
        |exact⟨2,rfl,by omega,Lib.hid fun _=>HMZ.out,Lib.hid fun _=>HMO.out,HBV.out⟩
        |((repeat apply Exists.intro);exact⟨⟨2,rfl,by omega,Lib.hid fun _=>HMZ.out,Lib.hid fun _=>HMO.out,HBV.out⟩,rfl⟩)
      case measure=>simp[intOf]
     |false=>
      have HMB:Hid (btw s.rm noM 1099511627776=false):=Lib.hid (by rw[mark_btw,hfit,show(s.rm==noM)=false from by simpa[noM]using HNN.out];rfl);have HZ0:Hid (R=3):=Lib.hid (by rw[←HRR.out];exact chk_ranges HP0.out (show checkB s.jn.left=0 from HCZL.out) (show checkB s.jn.right=0 from HCZR.out) (by show(btw s.lm noM 1099511627776&&(btw s.rm noM 1099511627776&&_))=false;rw[HMB.out];simp))
      go_wp2_with (go_at_call 44;refine(fits_any _ _).mono ?_;rintro e w' ⟨rfl,rfl⟩)
      go_ret;exact⟨by rw[HZ0.out];rfl,below_trans HB1.out (below_trans HX4.out (below_trans HY5.out HBV.out))⟩
    case inr.inr=>
     have HML:=Lib.hid (H1.out (by decide));have HMR:=Lib.hid (H2.out (by decide));have HX6:Hid (Below W1.heap.size W1 wv):=Lib.hid (below_trans HX4.out (below_trans HY5.out hbv));have HKP6:=Lib.hid (HKP.out.below HX6.out);have HKS6:=Lib.hid (HKS.out.below HX6.out);clear hbv H1 H2 hk HX4 HY5 HKM HKP4 HKS4 hM;have s8:=HKS6.out.cellR 8 rfl;by_cases hq0:s.seq<0
     case' pos=>
      have HZ0:Hid (R=3):=Lib.hid (by rw[←HRR.out];exact chk_ranges HP0.out (show checkB s.jn.left=0 from HCZL.out) (show checkB s.jn.right=0 from HCZR.out) (by show(btw s.lm noM 1099511627776&&(btw s.rm noM 1099511627776&&btw s.seq 0 1099511627776))=false;rw[btw_no (n:=s.seq) (by omega)];simp));go_wp2;go_ret;exact⟨by rw[HZ0.out];rfl,below_trans HB1.out HX6.out⟩
     by_cases hq1:s.seq>1099511627776
     case' pos=>
      have HZ0:Hid (R=3):=Lib.hid (by rw[←HRR.out];exact chk_ranges HP0.out (show checkB s.jn.left=0 from HCZL.out) (show checkB s.jn.right=0 from HCZR.out) (by show(btw s.lm noM 1099511627776&&(btw s.rm noM 1099511627776&&btw s.seq 0 1099511627776))=false;rw[btw_no (n:=s.seq) (by omega)];simp));go_wp2;go_ret;exact⟨by rw[HZ0.out];rfl,below_trans HB1.out HX6.out⟩
     have HRG:Hid (rangesJ s.jn=true):=Lib.hid (by show(btw s.lm noM 1099511627776&&(btw s.rm noM 1099511627776&&btw s.seq 0 1099511627776))=true;rw[HML.out,HMR.out,btw_yes (by omega) (by omega)];rfl)
     go_upto_region 19 with fail
     clear hq0 hq1 s8;have HO1:=Lib.hid ((World.ownsMap_made wv Tryz.prog 3 (plainElem (H:=Unit) Tryz.prog 3)).alloc (.map #[] 0));have HO2:=Lib.hid (World.ownsMap_made (wv.alloc (.map #[] 0)) Tryz.prog 3 (bufE (.agg #[.int .i64 s.l.limit,.slice B0 s.l.mem.length d0,.slice B1 s.l.runs.length d1]) (.agg #[.int .i64 s.r.limit,.slice B2 s.r.mem.length d2,.slice B3 s.r.runs.length d3])));have HY7:Hid (Below wv.heap.size wv ((wv.alloc (.map #[] 0)).alloc (.map #[] 0))):=Lib.hid ((below_alloc wv _).alloc (by rw[World.size_alloc];omega) _);obtain⟨M1,hM1⟩: ∃q,wv.heap.size=q:=⟨_,rfl⟩;have HM12:Hid ((wv.alloc (.map #[] 0)).heap.size=M1+1):=Lib.hid (by rw[World.size_alloc,hM1]);have HM1:Hid (W1.heap.size≤M1):=Lib.hid (by rw[←hM1];exact HX6.out.size);rw[HM12.out]at HO2;rw[hM1]at HO1;obtain⟨W7,hW7⟩: ∃V,(wv.alloc (.map #[] 0)).alloc (.map #[] 0)=V:=⟨_,rfl⟩;rw[hW7]at HO1 HO2 HY7;have HKS7:=Lib.hid (HKS6.out.below HY7.out);have HW7:Hid (W7.heap.size=M1+1+1):=Lib.hid (by rw[←hW7,World.size_alloc,World.size_alloc,hM1]);have s0:=HKS7.out.cellR 0 rfl;have s1:=HKS7.out.cellR 1 rfl;have s2:=HKS7.out.cellR 2 rfl;have HK1:Hid (keyOf Tryz.prog 3 (.int .i64 1)=some (.int .i64 1)):=Lib.hid (keyOf_int_mk Tryz.underlying3 (wf_of (by omega)));have HK2:Hid (keyOf Tryz.prog 3 (.int .i64 2)=some (.int .i64 2)):=Lib.hid (keyOf_int_mk Tryz.underlying3 (wf_of (by omega)));have HNN:Hid (0<maxLen∧0+1<maxLen):=Lib.hid (by unfold maxLen;omega)
     go_wp2_with (first
      |(refine wpList_insert_own _ rfl _ _ _ 88 rfl 3 29 lawI Tryz.underlying88 (bufE (.agg #[.int .i64 s.l.limit,.slice B0 s.l.mem.length d0,.slice B1 s.l.runs.length d1]) (.agg #[.int .i64 s.r.limit,.slice B2 s.r.mem.length d2,.slice B3 s.r.runs.length d3])) (M1+1) 1 _ rfl hown8 HNN.out.2 _ _ _ rfl rfl HK2.out _ [] (bufE_r _ _) ?_;intro w9 hown9 hg9)
      |(refine wpList_insert_own _ rfl _ _ _ 88 rfl 3 29 lawI Tryz.underlying88 (bufE (.agg #[.int .i64 s.l.limit,.slice B0 s.l.mem.length d0,.slice B1 s.l.runs.length d1]) (.agg #[.int .i64 s.r.limit,.slice B2 s.r.mem.length d2,.slice B3 s.r.runs.length d3])) (M1+1) 0 _ rfl HO2.out HNN.out.1 _ _ _ rfl rfl HK1.out _ [] (bufE_l _ _) ?_;intro w8 hown8 hg8
        have s3:=(HKS7.out.grown hg8 (by have:=HM1.out;have:=HSZ.out;intro h;injection h;omega)).cellR 3 rfl;have s4:=(HKS7.out.grown hg8 (by have:=HM1.out;have:=HSZ.out;intro h;injection h;omega)).cellR 4 rfl;have s5:=(HKS7.out.grown hg8 (by have:=HM1.out;have:=HSZ.out;intro h;injection h;omega)).cellR 5 rfl)
      |(at_range;refine wpList_range_own _ rfl _ 88 rfl 3 29 lawI Tryz.underlying88 (bufE (.agg #[.int .i64 s.l.limit,.slice B0 s.l.mem.length d0,.slice B1 s.l.runs.length d1]) (.agg #[.int .i64 s.r.limit,.slice B2 s.r.mem.length d2,.slice B3 s.r.runs.length d3])) (M1+1) (0+1+1) (bufM (.agg #[.int .i64 s.l.limit,.slice B0 s.l.mem.length d0,.slice B1 s.l.runs.length d1]) (.agg #[.int .i64 s.r.limit,.slice B2 s.r.mem.length d2,.slice B3 s.r.runs.length d3])) rfl hown9 ?_;intro w10 hrg hg10 hs10)
      |go_in)
     go_frame
     have HX10:Hid (Below W1.heap.size W1 w10):=Lib.hid (below_grown (below_grown (below_grown (below_trans HX6.out HY7.out) hg8 (by have:=HM1.out;intro k h;injection h;omega)) hg9 (by have:=HM1.out;intro k h;injection h;omega)) hg10 (by intro k h;cases h));have HO10:=Lib.hid (((HO1.out.kept hg8 (by intro h;injection h;omega)).kept hg9 (by intro h;injection h;omega)).kept hg10 (by simp));obtain⟨R0,hR0⟩: ∃q,w9.heap.size=q:=⟨_,rfl⟩;have HR0:Hid (M1+1<R0):=Lib.hid (by have h1:=hg8.size;have h2:=hg9.size;have h3:=HW7.out;omega);rw[hR0]at hrg⊢;clear hR0 hg8 hg9 hg10 hs10 s0 s1 s2 s3 s4 s5 hown8 hown9 hM1 hW7 HO1 HO2 HY7 HK1 HK2 HKS7 HNN hmm
     go_loopw[12,13,14,15,17,18,19,20] (fun _ _ _ _ _ _ _ _ wr=> ∃(left:Lit→Bool) (cnt n:Nat) (S:List Int) (D:DataW Unit),wr.ranges Tryz.prog 3 (bufE (.agg #[.int .i64 s.l.limit,.slice B0 s.l.mem.length d0,.slice B1 s.l.runs.length d1]) (.agg #[.int .i64 s.r.limit,.slice B2 s.r.mem.length d2,.slice B3 s.r.runs.length d3])) (M1+1) R0 (0+1+1) (bufM (.agg #[.int .i64 s.l.limit,.slice B0 s.l.mem.length d0,.slice B1 s.l.runs.length d1]) (.agg #[.int .i64 s.r.limit,.slice B2 s.r.mem.length d2,.slice B3 s.r.runs.length d3])) left cnt∧wr.ownsMap Tryz.prog 3 (plainElem (H:=Unit) Tryz.prog 3) M1 n D∧Hid (n≤S.length)∧Hid (∀z,left z=true→z= .int .i64 1∨z= .int .i64 2)∧Hid (Counts D S)∧Hid (Chk p s.jn (fun d=>left (.int .i64 d)) S)∧Hid (Turned (fun k=>k=M1∨k=R0) w10 wr)) (fun _ _ _ _ _ _ _ _ wr=>wr.rangeLeft (M1+1) R0)
     case atStart=>exact⟨_,_,0,[],_,hrg,HO10.out,Lib.hid (Nat.le_refl 0),Lib.hid fun z=>bufM_has,Lib.hid counts_none,Lib.hid (Chk.start (bufM_has1 _ _) (bufM_has2 _ _)),Lib.hid (Turned.refl _ _)⟩
     case round=>
      rename World=>wr
      clear hrg HO10;obtain⟨left,cnt,n,S,D,hrg,hown,HNS,HLF,HCT,HCK,HT⟩:=hrel;have HXR:Hid (Below W1.heap.size W1 wr):=Lib.hid (below_turned HX10.out HT.out (fun k hk=>by have h1:=HM1.out;have h2:=HR0.out;rcases hk with h|h<;>omega))
      go_wp2_with (first
       |(at_next;refine wpList_next_ranges _ rfl _ rfl 3 lawI (bufE (.agg #[.int .i64 s.l.limit,.slice B0 s.l.mem.length d0,.slice B1 s.l.runs.length d1]) (.agg #[.int .i64 s.r.limit,.slice B2 s.r.mem.length d2,.slice B3 s.r.runs.length d3])) (Value.int .i64) (fun v:Value=>v) (fun key kl hk=>by obtain⟨x,hx,_⟩:=Maps.keyOf_int_inv Tryz.underlying3 hk;exact⟨x,hx⟩) (fun v y _=>⟨v,rfl⟩) (M1+1) R0 (0+1+1) _ _ _ rfl hrg ?_ ?_)
       |go_in)
      ·intro hc0 hl0
       have HZ0:Hid (R=0):=Lib.hid (by rw[←HRR.out];exact HCK.out.done (fun d=>hl0 _) HP0.out (show checkB s.jn.left=0 from HCZL.out) (show checkB s.jn.right=0 from HCZR.out) HRG.out);clear hc0 hl0;go_wp2;go_ret;exact⟨by rw[HZ0.out];rfl,below_trans HB1.out HXR.out⟩
      ·intro x c kl yd yp w11 cnt2 hkey hlk hv hat hrg2 hlt hg2 hs2 hen
       obtain⟨x',ex,rfl,-⟩:=Maps.keyOf_int_inv Tryz.underlying3 hkey;injection ex with _ ex;subst ex
       have hx12:x=1∨x=2:=by
        rcases HLF.out _ hlk with h|h
        ·injection h with _ h;exact .inl h
        ·injection h with _ h;exact .inr h
       have hcc: ∃b:Buf,(b=s.l∨b=s.r)∧b.bu=s.jn.buf x∧ ∃Am cm Ar cr,b.vm= .slice Am b.mem.length cm∧b.vr= .slice Ar b.runs.length cr∧c= .agg #[.int .i64 b.limit,.slice Am b.mem.length cm,.slice Ar b.runs.length cr]:=by
        rcases hx12 with rfl|rfl
        ·exact⟨s.l,.inl rfl,rfl,B0,d0,B1,d1,HSV.out.1,HSV.out.2.1,bufE_one hv ((hat .nil).symm.trans (bufM_at1 _ _ _))⟩
        ·exact⟨s.r,.inr rfl,rfl,B2,d2,B3,d3,HSV.out.2.2.1,HSV.out.2.2.2,bufE_two hv ((hat .nil).symm.trans (bufM_at2 _ _ _))⟩
       obtain⟨b,hb,hbu,Am,cm,Ar,cr,hvm,hvr,rfl⟩:=hcc;have HXX:=Lib.hid hx12;have HBB:=Lib.hid hb;have HBU:=Lib.hid hbu;have HLK:=Lib.hid hlk;have HLE:=Lib.hid hrg.left_eq;have HLT:=Lib.hid hlt;have HCB:Hid (checkB b.bu=0):=Lib.hid (by rcases hb with rfl|rfl;exact HCZL.out;exact HCZR.out);have HFB:Hid (∀e∈b.bu.all,FineE e):=Lib.hid (by rcases hb with rfl|rfl;exact HFE.out.1;exact HFE.out.2)
       have HAB:Hid (∀V,Below W1.heap.size W1 V→Calls Tryz.prog 27 #[.agg #[.int .i64 b.limit,.slice Am b.mem.length cm,.slice Ar b.runs.length cr]] V fun e w'=> ∃v l,e= .returned (.tuple #[v,.int .i64 0])∧OwnE w' V.heap.size v l∧ens l=sortE b.bu.all∧Below V.heap.size V w'):=Lib.hid (fun V hV=>by
        have h:=HALL.out b hb HCB.out V hV;rw[hvm,hvr]at h;exact h)
       have HX11:Hid (Below W1.heap.size W1 w11):=Lib.hid (below_grown HXR.out hg2 (by have h1:=HM1.out;have h2:=HR0.out;intro k h;injection h;omega));have HT11:Hid (Turned (fun k=>k=M1∨k=R0) w10 w11):=Lib.hid (HT.out.trans ((turned_grown hg2).imp fun k _ h=>by injection h with h;exact .inr h.symm));have HO11:=Lib.hid (hown.kept hg2 (by have h2:=HR0.out;intro h;injection h;omega));have HR11:=Lib.hid hrg2;have HKP11:=Lib.hid (HKP.out.below HX11.out);have p5:=(HKP11.out.below (below_alloc w11 (.cells #[.int .i64 b.limit,.slice Am b.mem.length cm,.slice Ar b.runs.length cr] 29))).cellR 5 rfl;clear hx12 hb hbu hlk hv hat hrg2 hlt hg2 hs2 hkey hrg hown HT HXR hvm hvr;by_cases hlim:b.limit=p.limit
       case' neg=>
        have hlb:(b.limit != p.limit)=true:=by simpa using hlim
        have HZ0:Hid (R=1):=Lib.hid (by rw[←HRR.out];exact jchk_bad HP0.out (show checkB s.jn.left=0 from HCZL.out) (show checkB s.jn.right=0 from HCZR.out) HRG.out (bad_limit HXX.out (by rw[←HBU.out];exact hlim)));clear hlim;go_wp2;go_ret;exact⟨by rw[HZ0.out];rfl,below_trans HB1.out (HX11.out.alloc HX11.out.size _)⟩
       have hlb:(b.limit != p.limit)=false:=by rw[hlim];simp
       have HLIM:=Lib.hid hlim;clear hlim
       go_wp2_with fail
       refine Calls.mono (by with_reducible exact HAB.out _ (HX11.out.alloc HX11.out.size _)) ?_;rintro r x14 ⟨va,l,rfl,hOE,hens,hb14⟩;obtain⟨Av,cv,hva,-⟩:=Sl.of_own hOE.own;subst hva;have hgb:w11.grownBy x14 none:=(World.grownBy_alloc w11 (.cells #[.int .i64 b.limit,.slice Am b.mem.length cm,.slice Ar b.runs.length cr] 29) none).andThen (grown_of_below hb14 none) (by intro j hj;cases hj);have HT14:Hid (Turned (fun k=>k=M1∨k=R0) w10 x14):=Lib.hid (HT11.out.trans (turned_below ((below_alloc w11 _).trans (hb14.mono (by rw[World.size_alloc];omega)))));have HX14:Hid (Below W1.heap.size W1 x14):=Lib.hid (below_trans (HX11.out.alloc HX11.out.size _) hb14);have hR14:=HR11.out.kept hgb (by simp) (by simp);have hO14:=HO11.out.kept hgb (by simp);have HOE:=Lib.hid hOE;have HENS:=Lib.hid hens;have HMB:Hid (M1<w11.heap.size+1):=Lib.hid (by have:=HO11.out.lt;omega);have HSX:Hid ((w11.alloc (.cells #[.int .i64 b.limit,.slice Am b.mem.length cm,.slice Ar b.runs.length cr] 29)).heap.size=w11.heap.size+1):=Lib.hid (World.size_alloc _ _);have HPERM:Hid ((ens l).Perm (s.jn.buf x).all):=Lib.hid (by rw[hens,←HBU.out];exact sortE_perm (check_zeroB.1 HCB.out).alone);have HLN:Hid (l.length≤4096):=Lib.hid (by rw[←ens_len l,hens,(sortE_perm (check_zeroB.1 HCB.out).alone).length_eq];exact(check_zeroB.1 HCB.out).few);have hll:l.length≤4096:=HLN.out;clear hOE hens hb14 hgb p5 HR11 HO11 hen
       go_wp2_with fail
       go_loopw[17,18,19,20,93] (fun _ _ _ _ iv wq=> ∃(k n1:Nat) (D1:DataW Unit),k≤l.length∧iv= .int .i64 k∧wq.ranges Tryz.prog 3 (bufE (.agg #[.int .i64 s.l.limit,.slice B0 s.l.mem.length d0,.slice B1 s.l.runs.length d1]) (.agg #[.int .i64 s.r.limit,.slice B2 s.r.mem.length d2,.slice B3 s.r.runs.length d3])) (M1+1) R0 (0+1+1) (bufM (.agg #[.int .i64 s.l.limit,.slice B0 s.l.mem.length d0,.slice B1 s.l.runs.length d1]) (.agg #[.int .i64 s.r.limit,.slice B2 s.r.mem.length d2,.slice B3 s.r.runs.length d3])) (fun z=>left z&& !z.sameKey (.int .i64 x)) cnt2∧wq.ownsMap Tryz.prog 3 (plainElem (H:=Unit) Tryz.prog 3) M1 n1 D1∧Hid (n1≤n+k)∧Hid (Counts D1 (S++((ens l).take k).map (·.s)))∧Hid ((S++((ens l).take k).map (·.s)).Nodup)∧Hid (∀e∈(ens l).take k,entOk p x s.seq e=true)∧Hid (Turned (fun k=>k=M1) x14 wq)) (fun _ _ _ _ iv _=>l.length-(intOf iv).toNat)
       case atStart=>exact⟨0,n,D,by omega,rfl,hR14,hO14,Lib.hid (Nat.le_refl _),Lib.hid (by rw[List.take_zero,List.map_nil,List.append_nil];exact HCT.out),Lib.hid (by rw[List.take_zero,List.map_nil,List.append_nil];exact HCK.out.nd),Lib.hid nofun,Lib.hid (Turned.refl _ _)⟩
       case round=>
        rename World=>wq
        clear hR14 hO14;obtain⟨k,n1,D1,hk,rfl,hrq,hoq,HN1,HCQ,HND,HEK,HTQ⟩:=hrel;have HXQ:Hid (Below W1.heap.size W1 wq):=Lib.hid (below_turned HX14.out HTQ.out (fun k hk=>by rw[hk];exact HM1.out));by_cases hlt:k<l.length
        ·have hy:=List.getElem?_eq_getElem (l:=l) hlt
         generalize l[k]=y at hy;have HYE:Hid ((ens l)[k]?=some y.e):=Lib.hid (ens_at hy);have HYM:Hid (y.e∈(s.jn.buf x).all):=Lib.hid (HPERM.out.mem_iff.1 (List.mem_of_getElem? HYE.out));have HFY:Hid (FineE y.e):=Lib.hid (HFB.out y.e (by rw[HBU.out];exact HYM.out));have hOQ:=HOE.out.turned HTQ.out (fun k hk e=>by have h1:=(HOE.out.range hk).1;have h2:=HMB.out;have h3:=HSX.out;omega);have hrow:=hOQ.rows y (List.mem_of_getElem? hy);obtain⟨Ax,cx,hvx,-⟩:=id hrow;obtain⟨bb,off,hA,-,hcs⟩:=ent_at (Sl.of_own hOQ.own) rfl hy;subst hA;have hc:=hcs wq (Below.refl _ wq);rw[hvx]at hc hrow;obtain⟨f0,f1,f2,f3,f4⟩:=hc;have HROW:=Lib.hid hrow;have hBQ:=below_alloc wq (.cells #[.string (str y.e.key),.int .i64 y.e.t,.int .i64 y.e.s,.slice Ax y.e.r.length cx,.bool y.e.met] 63);have HXA:Hid (Below W1.heap.size W1 (wq.alloc (.cells #[.string (str y.e.key),.int .i64 y.e.t,.int .i64 y.e.s,.slice Ax y.e.r.length cx,.bool y.e.met] 63))):=Lib.hid (HXQ.out.alloc HXQ.out.size _);have HE17:=Lib.hid (Blk.new wq 63 #[.string (str y.e.key),.int .i64 y.e.t,.int .i64 y.e.s,.slice Ax y.e.r.length cx,.bool y.e.met]);have HKPQ:=Lib.hid (HKP.out.below HXA.out);obtain⟨KY,hKY⟩: ∃q,(keyOfR p x y.e.r).1=q:=⟨_,rfl⟩;obtain⟨Q,hQ⟩: ∃q,(keyOfR p x y.e.r).2=q:=⟨_,rfl⟩;obtain⟨ER,hER⟩: ∃q,rowR p x y.e.r=q:=⟨_,rfl⟩
         have HKC:Hid (Calls Tryz.prog 45 #[.agg #[.int .i64 p.kind,.int .i64 p.mode,.int .i64 p.low,.int .i64 p.high,.int .i64 p.size,.int .i64 p.limit,.slice A0 p.left.length c0,.slice A1 p.right.length c1,.slice A2 p.lkeys.length c2,.slice A3 p.rkeys.length c3,.bool p.grouped,.slice A4 p.group.length c4,.slice A5 p.aggs.length c5],.int .i64 x,.slice Ax y.e.r.length cx] (wq.alloc (.cells #[.string (str y.e.key),.int .i64 y.e.t,.int .i64 y.e.s,.slice Ax y.e.r.length cx,.bool y.e.met] 63)) fun e w'=>e= .returned (.tuple #[.string KY,.bool Q,.int .i64 ER])∧Below (wq.alloc (.cells #[.string (str y.e.key),.int .i64 y.e.t,.int .i64 y.e.s,.slice Ax y.e.r.length cx,.bool y.e.met] 63)).heap.size (wq.alloc (.cells #[.string (str y.e.key),.int .i64 y.e.t,.int .i64 y.e.s,.slice Ax y.e.r.length cx,.bool y.e.met] 63)) w'):=Lib.hid (by
          have h:=HKEY.out x (.slice Ax y.e.r.length cx) y.e.r _ HXA.out (hrow.below hBQ) HFY.out.row;rw[hKY,hQ,hER]at h;exact h)
         have HKYE:=Lib.hid hKY;have HQE:=Lib.hid hQ;have HERE:=Lib.hid hER;have k0:(0:Int)≤(k:Int):=by omega
         have k1:(k:Int)<(l.length:Int):=by omega
         have hrQ:=hrq.alloc (.cells #[.string (str y.e.key),.int .i64 y.e.t,.int .i64 y.e.s,.slice Ax y.e.r.length cx,.bool y.e.met] 63);have hoQ:=hoq.alloc (.cells #[.string (str y.e.key),.int .i64 y.e.t,.int .i64 y.e.s,.slice Ax y.e.r.length cx,.bool y.e.met] 63);have HTA:Hid (Turned (fun k=>k=M1) x14 (wq.alloc (.cells #[.string (str y.e.key),.int .i64 y.e.t,.int .i64 y.e.s,.slice Ax y.e.r.length cx,.bool y.e.met] 63))):=Lib.hid (HTQ.out.trans (turned_below hBQ));obtain⟨P,hP⟩: ∃q,wq.heap.size=q:=⟨_,rfl⟩;have HPM:Hid (M1<P):=Lib.hid (by have:=hoq.lt;omega);rw[hP]at HE17;obtain⟨W17,hW17⟩: ∃V,wq.alloc (.cells #[.string (str y.e.key),.int .i64 y.e.t,.int .i64 y.e.s,.slice Ax y.e.r.length cx,.bool y.e.met] 63)=V:=⟨_,rfl⟩;rw[hW17]at HXA HE17 HKPQ HKC hrQ hoQ HTA;have p0:=HKPQ.out.cellR 0 rfl;have p1:=HKPQ.out.cellR 1 rfl;have p2:=HKPQ.out.cellR 2 rfl;have p3:=HKPQ.out.cellR 3 rfl;have p4:=HKPQ.out.cellR 4 rfl;have p5:=HKPQ.out.cellR 5 rfl;have p6:=HKPQ.out.cellR 6 rfl;have p7:=HKPQ.out.cellR 7 rfl;have p8:=HKPQ.out.cellR 8 rfl;have p9:=HKPQ.out.cellR 9 rfl;have p10:=HKPQ.out.cellR 10 rfl;have p11:=HKPQ.out.cellR 11 rfl;have p12:=HKPQ.out.cellR 12 rfl;have e3:=HE17.out.cellR 3 rfl;have HRQ:=Lib.hid hrQ;have HOQ:=Lib.hid hoQ;clear hy hOQ hrow hvx hcs hBQ hKY hQ hER hrq hoq HOE HKP11 hrQ hoQ
         go_upto_region 29 with fail
         try rw[hW17]
         try rw[hP]
         clear hW17 f0 f1 f2 f3 f4
         go_wp2_with fail
         refine Calls.mono (by with_reducible exact HKC.out) ?_;rintro r x18 ⟨rfl,hb18⟩;have HE18:=Lib.hid (HE17.out.below hb18);have HR18:=Lib.hid (HRQ.out.kept (grown_of_below hb18 none) (by simp) (by simp));have HO18:=Lib.hid (HOQ.out.kept (grown_of_below hb18 none) (by simp));have HT18:Hid (Turned (fun k=>k=M1) x14 x18):=Lib.hid (HTA.out.trans (turned_below hb18));have HXB18:Hid (Below W1.heap.size W1 x18):=Lib.hid (below_trans HXA.out hb18);have HKS18:=Lib.hid (HKS.out.below HXB18.out);clear hb18 e3 HKC HRQ HOQ HTA HXA HE17 HKPQ p0 p1 p2 p3 p4 p5 p6 p7 p8 p9 p10 p11 p12;obtain⟨q,hq⟩: ∃q,(S++((ens l).take k).map (·.s)).count y.e.s=q:=⟨_,rfl⟩;have hq1:q≤1:=by rw[←hq];exact nodup_count HND.out _
         have HQC:=Lib.hid hq;have hwf:(Lit.int .i64 y.e.s).wf=true:=wf_of HFY.out.seq;have HKY:Hid (keyOf Tryz.prog 3 (.int .i64 y.e.s)=some (.int .i64 y.e.s)):=Lib.hid (keyOf_int_mk Tryz.underlying3 hwf);have HC18:Hid (D1.atKey (.int .i64 y.e.s) (.lit (.int .i64 0))= .lit (.int .i64 (q:Int))):=Lib.hid (by rw[←hq];exact HCQ.out.2 _ hwf);have HC19:Hid ((D1.put (.int .i64 y.e.s) (.lit (.int .i64 ((q:Int)+1)))).atKey (.int .i64 y.e.s) (.lit (.int .i64 0))= .lit (.int .i64 ((q:Int)+1))):=Lib.hid (atKey_put_same HCQ.out.1 (isKey_int _) _ _);have HCN:Hid (Counts (D1.put (.int .i64 y.e.s) (.lit (.int .i64 ((q:Int)+1)))) ((S++((ens l).take k).map (·.s))++[y.e.s])):=Lib.hid (by rw[←hq];exact counts_put HCQ.out);have HWQ:Hid ((Lit.int .i64 ((q:Int)+1)).wf=true):=Lib.hid (wf_of (by omega))
         have HNM:Hid (n1<maxLen):=Lib.hid (by
          have h1:=HN1.out;have h2:=HNS.out;have h3:=chk_len HCK.out;have h4:=(check_zeroB.1 HCZL.out).few;have h5:=(check_zeroB.1 HCZR.out).few;have h6:s.jn.left.all.length=s.l.bu.all.length:=rfl;have h7:s.jn.right.all.length=s.r.bu.all.length:=rfl;unfold maxLen;omega)
         have HSN:Hid (S++((ens l).take (k+1)).map (·.s)=(S++((ens l).take k).map (·.s))++[y.e.s]):=Lib.hid (by rw[List.take_add_one,HYE.out,Option.toList_some,List.map_append,List.append_assoc];rfl);clear hq hwf;have e2:=HE18.out.cellR 2 rfl
         go_upto_region 31 with(first
          |(at_lookup;refine wpList_lookup_own_int _ rfl _ _ 87 rfl 3 3 .i64 lawI Tryz.underlying87 Tryz.underlying3 (zeroI _) M1 n1 _ rfl HO18.out _ _ rfl HKY.out ?_;intro c hat hwc;obtain rfl:=lit_inj (hat.symm.trans HC18.out);clear hat hwc)
          |(at_mapUpdate;refine wpList_mapUpdate_own _ rfl _ _ _ 87 rfl 3 3 lawI Tryz.underlying87 _ M1 n1 _ rfl HO18.out HNM.out _ _ _ rfl rfl HKY.out _ [] (plainElem_int Tryz.underlying3 HWQ.out) ?_;intro w19 hown19 hg19)
          |go_in)
         have HO19:=Lib.hid hown19;have HR19:=Lib.hid (HR18.out.kept hg19 (by intro h;injection h;omega) (by have:=HR0.out;intro h;injection h;omega));have HT19:Hid (Turned (fun k=>k=M1) x14 w19):=Lib.hid (HT18.out.trans ((turned_grown hg19).imp fun k _ h=>(Option.some.inj h).symm));have HXB19:Hid (Below w.heap.size w w19):=Lib.hid (below_trans HB1.out (below_grown HXB18.out hg19 (by have:=HM1.out;intro k h;injection h;omega)));have hpm:some M1≠some P:=by have:=HPM.out;intro h;injection h;omega
         clear e2;have e0:=(HE18.out.grown hg19 hpm).cellR 0 rfl;have e2:=(HE18.out.grown hg19 hpm).cellR 2 rfl;have s8:=(HKS18.out.grown hg19 (by have h1:=HM1.out;have h2:=HSZ.out;intro h;injection h;omega)).cellR 8 rfl;clear hown19 hg19 hpm HO18 HR18 HT18 HXB18 HC18 HE18 HKS18;by_cases hc1:ER=0
         case' neg=>
          have hcb:(ER != 0)=true:=by simpa using hc1
          have HZ0:Hid (R=1):=Lib.hid (by rw[←HRR.out];exact jchk_bad HP0.out (show checkB s.jn.left=0 from HCZL.out) (show checkB s.jn.right=0 from HCZR.out) HRG.out (bad_ent HXX.out HYM.out fun h=>hc1 (by rw[←HERE.out,rowR_is HP0.out];exact(entOk_of h).2.1)));go_wp2;go_ret;exact⟨by rw[HZ0.out];rfl,HXB19.out⟩
         have hcb:(ER != 0)=false:=by rw[hc1];rfl
         have HRW0:Hid (rowR p x y.e.r=0):=Lib.hid (HERE.out.trans hc1);clear hc1;by_cases hq2:Q=true
         case' neg=>
          have hqf:Q=false:=by simpa using hq2
          subst hqf;have HZ0:Hid (R=1):=Lib.hid (by rw[←HRR.out];exact jchk_bad HP0.out (show checkB s.jn.left=0 from HCZL.out) (show checkB s.jn.right=0 from HCZR.out) HRG.out (bad_ent HXX.out HYM.out fun h=>by have h2:=(entOk_of h).2.2.1;rw[←show keyOfR p x y.e.r=keyFor p x y.e.r from if_pos HRW0.out,HQE.out]at h2;cases h2));go_wp2;go_ret;exact⟨by rw[HZ0.out];rfl,HXB19.out⟩
         subst hq2;by_cases hky:KY.toList=y.e.key
         case' neg=>
          have kb:(KY.toList==(str y.e.key).toList)=false:=by rw[str_toList];simpa using hky
          have HZ0:Hid (R=1):=Lib.hid (by rw[←HRR.out];exact jchk_bad HP0.out (show checkB s.jn.left=0 from HCZL.out) (show checkB s.jn.right=0 from HCZR.out) HRG.out (bad_ent HXX.out HYM.out fun h=>hky (by have h2:=(entOk_of h).2.2.2;rw[←show keyOfR p x y.e.r=keyFor p x y.e.r from if_pos HRW0.out,HKYE.out]at h2;exact h2)));go_wp2;go_ret;exact⟨by rw[HZ0.out];rfl,HXB19.out⟩
         have kb:(KY.toList==(str y.e.key).toList)=true:=by rw[str_toList];simpa using hky
         have HKYV:=Lib.hid hky;clear hky;by_cases hs4:y.e.s≥s.seq
         case' pos=>
          have HZ0:Hid (R=1):=Lib.hid (by rw[←HRR.out];exact jchk_bad HP0.out (show checkB s.jn.left=0 from HCZL.out) (show checkB s.jn.right=0 from HCZR.out) HRG.out (bad_ent HXX.out HYM.out fun h=>by have h2:y.e.s<s.seq:=(entOk_of h).1;omega));go_wp2;go_ret;exact⟨by rw[HZ0.out];rfl,HXB19.out⟩
         have HS4:=Lib.hid hs4;obtain⟨c2,hrun2,hat2,-⟩:=HO19.out.lookup_int (t:=87) lawI Tryz.underlying87 Tryz.underlying3 (zeroI _) HKY.out;obtain rfl:=lit_inj (hat2.symm.trans HC19.out);clear hat2;by_cases hq0:q=0
         case' neg=>
          have hq5:(q:Int)+1>1:=by omega
          have HZ0:Hid (R=1):=Lib.hid (by rw[←HRR.out];exact jchk_bad HP0.out (show checkB s.jn.left=0 from HCZL.out) (show checkB s.jn.right=0 from HCZR.out) HRG.out (bad_seq HCK.out HXX.out HLK.out HPERM.out HYE.out (List.count_pos_iff.1 (by rw[HQC.out];omega))));go_wp2;go_ret;exact⟨by rw[HZ0.out];rfl,HXB19.out⟩
         have hq5: ¬(q:Int)+1>1:=by omega
         have HNI:Hid (y.e.s∉S++((ens l).take k).map (·.s)):=Lib.hid (List.count_eq_zero.1 (HQC.out.trans hq0))
         have HEO:Hid (entOk p x s.seq y.e=true):=Lib.hid (by
          have hk2:keyOfR p x y.e.r=keyFor p x y.e.r:=if_pos HRW0.out;refine entOk_mk (by have:=HS4.out;omega) ((rowR_is HP0.out _ _).symm.trans HRW0.out) (by rw[←hk2];exact HQE.out) (by rw[←hk2,HKYE.out];exact HKYV.out))
         clear hq0;go_wp2;go_roundw
         case rel=>
          exact⟨k+1,n1+1,_,by omega,by go_num,HR19.out,HO19.out,Lib.hid (by have:=HN1.out;omega),Lib.hid (by rw[HSN.out];exact HCN.out),Lib.hid (by
           rw[HSN.out];refine List.nodup_append.2 ⟨HND.out,List.pairwise_singleton _ _,?_⟩;intro a ha b hb e;rw[List.mem_singleton.1 hb]at e;exact HNI.out (e▸ha)),Lib.hid (by
           intro e he;rw[List.take_add_one,HYE.out]at he;rcases List.mem_append.1 he with he|he
           ·exact HEK.out e he
           ·rw[List.mem_singleton.1 (show e∈[y.e]from he)];exact HEO.out),HT19⟩
         case measure=>simp[intOf];omega
        ·obtain rfl:k=l.length:=by omega
         have hge: ¬(l.length:Int)<(l.length:Int):=by omega
         have HTK:Hid ((ens l).take l.length=ens l):=Lib.hid (List.take_of_length_le (by rw[ens_len];exact Nat.le_refl _));have HQR:=Lib.hid hrq;have HQO:=Lib.hid hoq;clear hrq hoq;go_wp2;go_roundw
         case rel=>
          exact⟨_,cnt2,n1,S++(ens l).map (·.s),D1,HQR.out,HQO.out,Lib.hid (by rw[List.length_append,List.length_map,ens_len];have h1:=HN1.out;have h2:=HNS.out;omega),Lib.hid (fun z hz=>HLF.out z (by simp only[Bool.and_eq_true]at hz;exact hz.1)),Lib.hid (by have h:=HCQ.out;rw[HTK.out]at h;exact h),Lib.hid (HCK.out.next (d:=x) HXX.out HLK.out (fun d=>strike_left left x d) (by rw[←HBU.out];exact HLIM.out) HPERM.out (by have h:=HEK.out;rw[HTK.out]at h;exact h) (by have h:=HND.out;rw[HTK.out]at h;exact h)),Lib.hid (HT14.out.trans (HTQ.out.imp fun k _ h=> .inl h))⟩
         case measure=>rw[HQR.out.left_eq,HLE.out];exact HLT.out
end Go.Proofs.YtjodlngbiikgfaaGreatDoor
