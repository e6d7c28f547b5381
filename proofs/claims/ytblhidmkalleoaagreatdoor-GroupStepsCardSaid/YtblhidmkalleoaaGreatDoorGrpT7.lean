/-The reference's Copy, and Own: a view of one's own. -/
import Derived.Test.YtblhidmkalleoaaGreatDoorGrpT5
import Derived.Test.YtblhidmkalleoaaGreatDoorGrpT6
set_option linter.unusedSimpArgs false
set_option linter.unusedVariables false
namespace Go.Proofs.YtblhidmkalleoaaGreatDoor
open Go.RowKit
theorem cntI:EInfo Tryz.prog 115 2 32:=by
 have h:(Tryz.prog.info? 115).map (fun i=>(i.zero,i.size,i.bytes))=some (some (.agg #[.slice none 0 0,.int .i64 0]),2,32):=by kernel_rfl
 obtain⟨i,hi,h1,h2,h3⟩:=info_parts h;exact⟨i,_,hi,h1,h2,h3,rfl,by omega⟩
structure OwnV (w:World) (base:Nat) (v:Value) (l:List Cnt):Prop where
 own:w.ownsRow base 115 2 v l.length (cntCells l)
 rows: ∀c∈l,Sl w c.v c.r.length (rowCells c.r)
 far: ∀c∈l,∀k,c.v.ownBlock=some k→k<w.heap.size∧v.ownBlock≠some k
theorem OwnV.view {w:World}{base:Nat}{v:Value}{l:List Cnt}(h:OwnV w base v l):View w v l:=⟨Sl.of_own h.own,h.rows⟩
theorem OwnV.below {w w':World}{base:Nat}{v:Value}{l:List Cnt}(h:OwnV w base v l)(hb:Below w.heap.size w w'):OwnV w' base v l:=
 ⟨own_below h.own hb,fun c hc=>(h.rows c hc).below hb,fun c hc k hk=>⟨Nat.lt_of_lt_of_le (h.far c hc k hk).1 hb.size,(h.far c hc k hk).2⟩⟩
theorem OwnV.nil (w:World)(base:Nat):OwnV w base (.slice none 0 0) []:=⟨⟨rfl,.inl ⟨rfl,rfl⟩⟩,nofun,nofun⟩
theorem cntCells_app (a b:List Cnt):cntCells (a++b)=cntCells a++cntCells b:=List.flatMap_append
theorem OwnV.snoc {w w':World}{base:Nat}{v v':Value}{l:List Cnt}{c:Cnt}(h:OwnV w base v l)(hown:w'.ownsRow base 115 2 v' (l.length+1) (cntCells l++c.cells))(hg:w.grownBy w' v.ownBlock)(hat:v'.ownBlock=v.ownBlock∨v'.ownBlock=some w.heap.size)
 (hc:Sl w c.v c.r.length (rowCells c.r)) (hf: ∀k,c.v.ownBlock=some k→k<w.heap.size∧v.ownBlock≠some k):OwnV w' base v' (l++[c]):=by
 have hfar: ∀d∈l++[c],Sl w d.v d.r.length (rowCells d.r)∧ ∀k,d.v.ownBlock=some k→k<w.heap.size∧v.ownBlock≠some k:=by
  intro d hd;rcases List.mem_append.1 hd with hd|hd
  ·exact⟨h.rows d hd,h.far d hd⟩
  ·simp only[List.mem_singleton]at hd;subst hd;exact⟨hc,hf⟩
 refine⟨?_,fun d hd=>sl_grown (hfar d hd).1 hg (fun k hk=>((hfar d hd).2 k hk).2),fun d hd k hk=> ?_⟩
 ·rw[cntCells_app,List.length_append]
  simpa[cntCells]using hown
 ·obtain⟨h1,h2⟩:=(hfar d hd).2 k hk
  refine⟨Nat.lt_of_lt_of_le h1 hg.size,?_⟩;rcases hat with hat|hat
  ·rw[hat];exact h2
  ·rw[hat];intro e;injection e with e;omega
end Go.Proofs.YtblhidmkalleoaaGreatDoor
