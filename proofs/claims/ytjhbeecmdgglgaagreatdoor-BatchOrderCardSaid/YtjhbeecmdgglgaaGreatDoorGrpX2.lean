/-Values: what a cell is; Check, and the reference's CheckValue. -/
import Derived.Test.YtjhbeecmdgglgaaGreatDoorGrpX1
set_option linter.unusedSimpArgs false
set_option linter.unusedVariables false
namespace Go.Proofs.YtjhbeecmdgglgaaGreatDoor
open Go.RowKit
structure Val where
 k:Int
 n:Int
 s:ByteArray
def Val.cells (v:Val):List Value:=[.int .i64 v.k,.int .i64 v.n,.string v.s]
theorem Val.cells_len (v:Val):v.cells.length=3:=rfl
def Val.agg (v:Val):Value:= .agg #[.int .i64 v.k,.int .i64 v.n,.string v.s]
def rowCells (l:List Val):List Value:=l.flatMap Val.cells
def Val.ok (v:Val):Prop:= -9223372036854775808≤v.k∧v.k≤9223372036854775807∧ -9223372036854775808≤v.n∧v.n≤9223372036854775807∧v.s.size≤9223372036854775807
def checkV (v:Val):Int:=
 if v.k=0 then(if v.n≠0∨v.s.toList.isEmpty=false then 1 else 0)
 else if v.k=1 then(if(v.n≠0∧v.n≠1)∨v.s.toList.isEmpty=false then 1 else 0)
 else if v.k=2 then(if v.s.toList.isEmpty=false then 1 else 0)
 else if v.k=3 then(if v.n≠0 then 1 else if 64<v.s.size then 2 else 0)
 else 4
set_option maxRecDepth 100000 in
theorem run_eq_val (k n k' n':Int)(s s':ByteArray)(W:World):(Op.equalIn 10000 68 (.agg #[.int .i64 k,.int .i64 n,.string s]) (.agg #[.int .i64 k',.int .i64 n',.string s'])).run Tryz.prog W= .ok (k==k'&&(n==n'&&s.toList==s'.toList)) W:=by
 cases h1:k==k'<;>cases h2:n==n'<;>cases h3:s.toList==s'.toList<;>go_simp
theorem run_neq_val (k n k' n':Int)(s s':ByteArray)(W:World):(binOp .neq 68 (.agg #[.int .i64 k,.int .i64 n,.string s]) (.agg #[.int .i64 k',.int .i64 n',.string s'])).run Tryz.prog W= .ok (.bool (!(k==k'&&(n==n'&&s.toList==s'.toList)))) W:=by
 rw[run_neq_struct,run_eq_val];rfl
theorem beqT {a b:Int}(h:a=b):(a==b)=true:=by simp[h]
theorem beqF {a b:Int}(h:a≠b):(a==b)=false:=by simp[h]
theorem bneT {a b:Int}(h:a≠b):(a != b)=true:=by simp[h]
theorem bneF {a b:Int}(h:a=b):(a != b)=false:=by simp[h]
theorem val_cases (v:Val):
 (v.k=0∧v.n≠0∧checkV v=1)∨(v.k=0∧v.n=0∧v.s.toList.isEmpty=false∧checkV v=1)∨(v.k=0∧v.n=0∧v.s.toList.isEmpty=true∧checkV v=0)∨
 (v.k=1∧v.n≠0∧v.n≠1∧checkV v=1)∨(v.k=1∧v.n=0∧v.s.toList.isEmpty=false∧checkV v=1)∨(v.k=1∧v.n=0∧v.s.toList.isEmpty=true∧checkV v=0)∨
 (v.k=1∧v.n=1∧v.s.toList.isEmpty=false∧checkV v=1)∨(v.k=1∧v.n=1∧v.s.toList.isEmpty=true∧checkV v=0)∨
 (v.k=2∧v.s.toList.isEmpty=false∧checkV v=1)∨(v.k=2∧v.s.toList.isEmpty=true∧checkV v=0)∨
 (v.k=3∧v.n≠0∧checkV v=1)∨(v.k=3∧v.n=0∧64<v.s.size∧checkV v=2)∨(v.k=3∧v.n=0∧v.s.size≤64∧checkV v=0)∨
 (v.k<0∧checkV v=4)∨(3<v.k∧checkV v=4):=by
 unfold checkV;by_cases h0:v.k=0
 ·by_cases hn:v.n=0<;>cases hs:v.s.toList.isEmpty<;>simp[h0,hn]
 ·by_cases h1:v.k=1
  ·by_cases hn:v.n=0
   ·cases hs:v.s.toList.isEmpty<;>simp[h1,hn]
   ·by_cases hm:v.n=1
    ·cases hs:v.s.toList.isEmpty<;>simp[h1,hm]
    ·simp[h1,hn,hm]
  ·by_cases h2:v.k=2
   ·cases hs:v.s.toList.isEmpty<;>simp[h2]
   ·by_cases h3:v.k=3
    ·by_cases hn:v.n=0
     ·by_cases hz:64<v.s.size
      ·simp[h3,hn,hz]
      ·simp[h3,hn,hz];omega
     ·simp[h3,hn]
    ·have:v.k<0∨3<v.k:=by omega
     simp[h0,h1,h2,h3];exact this
set_option maxHeartbeats 4000000 in
set_option maxRecDepth 10000 in
theorem check_val (v:Val)(w:World)(hs:v.s.size≤9223372036854775807):
 Calls Tryz.prog 102 #[.agg #[.int .i64 v.k,.int .i64 v.n,.string v.s]] w fun e w'=>e= .returned (.int .i64 (checkV v))∧Below w.heap.size w w':=by
 obtain⟨k,n,s⟩:=v;have hne:=fun a b=>run_neq_val a n b 0 ⟨#[]⟩ ⟨#[]⟩;have H:=val_cases ⟨k,n,s⟩;simp only at H hs⊢;generalize checkV ⟨k,n,s⟩=c at H⊢;rcases H with⟨h1,h2,rfl⟩|⟨h1,h2,h3,rfl⟩|⟨h1,h2,h3,rfl⟩|⟨h1,h2,h3,rfl⟩|⟨h1,h2,h3,rfl⟩|⟨h1,h2,h3,rfl⟩|⟨h1,h2,h3,rfl⟩|⟨h1,h2,h3,rfl⟩|⟨h1,h3,rfl⟩|⟨h1,h3,rfl⟩|⟨h1,h2,rfl⟩|⟨h1,h2,h3,rfl⟩|⟨h1,h2,h3,rfl⟩|⟨h1,rfl⟩|⟨h1,rfl⟩
 all_goals
  first|subst h1|skip
  first|subst h2|(have hb2:=beqF h2)|skip
  go_enter Tryz.func102,Tryz.ntmps102
  go_wp2;go_ret;exact⟨rfl,(below_alloc _ _).alloc (by simp) _⟩
set_option maxHeartbeats 4000000 in
set_option maxRecDepth 10000 in
theorem rcheck_val (v:Val)(w:World)(hs:v.s.size≤9223372036854775807):
 Calls Tryz.prog 124 #[.agg #[.int .i64 v.k,.int .i64 v.n,.string v.s]] w fun e w'=>e= .returned (.int .i64 (checkV v))∧Below w.heap.size w w':=by
 obtain⟨k,n,s⟩:=v;have H:=val_cases ⟨k,n,s⟩
 have hz:s.toList.isEmpty=true→s.size=0:=by
  intro h;rw[ByteArray.toList_eq]at h;obtain⟨⟨x⟩⟩:=s;simp at h;subst h;rfl
 simp only at H hs⊢;generalize checkV ⟨k,n,s⟩=c at H⊢;rcases H with⟨h1,h2,rfl⟩|⟨h1,h2,h3,rfl⟩|⟨h1,h2,h3,rfl⟩|⟨h1,h2,h4,rfl⟩|⟨h1,h2,h3,rfl⟩|⟨h1,h2,h3,rfl⟩|⟨h1,h2,h3,rfl⟩|⟨h1,h2,h3,rfl⟩|⟨h1,h3,rfl⟩|⟨h1,h3,rfl⟩|⟨h1,h2,rfl⟩|⟨h1,h2,h5,rfl⟩|⟨h1,h2,h5,rfl⟩|⟨h1,rfl⟩|⟨h1,rfl⟩
 all_goals
  first|subst h1|skip
  first|subst h2|(have hb2:=beqF h2)|skip
  first|(have hb4:=beqF h4)|skip
  first|(have hz3:=Nat.le_of_eq (hz h3))|skip
  clear hz;go_enter Tryz.func124,Tryz.ntmps124
  go_wp2
  all_goals
   go_ret;exact⟨rfl,below_alloc _ _⟩
def ordI (a b:Int):Int:=if a<b then-1 else if b<a then 1 else 0
set_option maxHeartbeats 400000 in
set_option maxRecDepth 10000 in
theorem order_any (a b:Int)(w:World):Calls Tryz.prog 138 #[.int .i64 a,.int .i64 b] w fun e w'=>e= .returned (.int .i64 (ordI a b))∧w=w':=by
 by_cases h1:a<b
 ·have e1:=Lib.hid (show ordI a b= -1 from if_pos h1)
  go_enter Tryz.func138,Tryz.ntmps138
  go_wp2;go_ret;exact⟨by rw[e1.out];rfl,rfl⟩
 ·by_cases h2:b<a
  ·have e1:=Lib.hid (show ordI a b=1 from by unfold ordI;rw[if_neg h1,if_pos h2])
   go_enter Tryz.func138,Tryz.ntmps138
   go_wp2;go_ret;exact⟨by rw[e1.out];rfl,rfl⟩
  ·have e1:=Lib.hid (show ordI a b=0 from by unfold ordI;rw[if_neg h1,if_neg h2])
   go_enter Tryz.func138,Tryz.ntmps138
   go_wp2;go_ret;exact⟨by rw[e1.out];rfl,rfl⟩
set_option maxHeartbeats 400000 in
set_option maxRecDepth 10000 in
theorem isnan_any (a:Int)(w:World):Calls Tryz.prog 156 #[.int .i64 a] w fun e w'=>e= .returned (.bool false)∧w=w':=by
 go_enter Tryz.func156,Tryz.ntmps156
 go_wp2;go_ret;exact⟨ret_bool (by simp),rfl⟩
set_option maxHeartbeats 400000 in
set_option maxRecDepth 10000 in
theorem cmp_any (a b:Int)(w:World):Calls Tryz.prog 119 #[.int .i64 a,.int .i64 b] w fun e w'=>e= .returned (.int .i64 (ordI a b))∧w=w':=by
 by_cases h1:a<b
 ·have e1:=Lib.hid (show ordI a b= -1 from if_pos h1)
  go_enter Tryz.func119,Tryz.ntmps119
  go_wp2_with (go_at_call 156;refine(isnan_any _ _).mono ?_;rintro e w' ⟨rfl,rfl⟩)
  go_ret;exact⟨by rw[e1.out];rfl,rfl⟩
 ·by_cases h2:b<a
  ·have e1:=Lib.hid (show ordI a b=1 from by unfold ordI;rw[if_neg h1,if_pos h2])
   go_enter Tryz.func119,Tryz.ntmps119
   go_wp2_with (go_at_call 156;refine(isnan_any _ _).mono ?_;rintro e w' ⟨rfl,rfl⟩)
   go_ret;exact⟨by rw[e1.out];rfl,rfl⟩
  ·have e1:=Lib.hid (show ordI a b=0 from by unfold ordI;rw[if_neg h1,if_neg h2])
   go_enter Tryz.func119,Tryz.ntmps119
   go_wp2_with (go_at_call 156;refine(isnan_any _ _).mono ?_;rintro e w' ⟨rfl,rfl⟩)
   go_ret;exact⟨by rw[e1.out];rfl,rfl⟩
end Go.Proofs.YtjhbeecmdgglgaaGreatDoor
