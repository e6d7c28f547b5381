/-
  A drawn region inside a round, walked as a plain one.
-/
import Derived.Test.YteabfalklgffmaaDoorBuf20
import Derived.OrdersHeld
set_option linter.unusedSimpArgs false
set_option linter.unusedVariables false
namespace Go.Proofs.YteabfalklgffmaaDoor
open Go.RowKit

def noDefer (ops : Array Oper) : Bool := ops.toList.all fun o => match o.op with | .defer _ => false | _ => true
theorem noDefer_spec {ops : Array Oper} (h : noDefer ops = true) {i : Nat} {o : Oper} (hi : ops[i]? = some o) : ∀ c, o.op ≠ .defer c := fun c e => by
  have h1 := List.all_eq_true.1 h o (by rw [← Array.getElem?_toList] at hi; exact List.mem_of_getElem? hi)
  rw [e] at h1
  cases h1
theorem opIn_of {P : Program} {ops : Array Oper} {Q : Exit → Act → World → Prop} (l n : Nat) (hd : noDefer ops = true) (hL : ¬ LetsOut Q) (i : Nat) {K K' : Act → World → Prop} (hK : ∀ a w, K a w → K' a w) {a : Act} {w : World} (h : wpOp P ops Q i K a w) :
    wpOpIn (Fence.wide.inRound l) n P ops Q i K' a w := by
  unfold wpOp at h
  unfold wpOpIn
  cases hi : ops[i]? with
  | none => rw [hi] at h; exact hK _ _ h
  | some o =>
    rw [hi] at h
    simp only at h ⊢
    split at h
    · rename_i hw
      rw [if_pos hw]
      rcases h with h | ⟨-, h⟩
      · refine ⟨fun f _ => trivial, ?_⟩
        rw [Oper.semAt_plain _ _ _ (noDefer_spec hd hi)]
        unfold Oper.wp at h
        generalize (execOp a.eval o).run P w = r at h ⊢
        cases r with
        | ok x w' =>
          cases x with
          | value v => exact hK _ _ h
          | skip => exact hK _ _ h
          | defer d => exact hK _ _ h
          | enter f args =>
            refine ⟨nofun, CallsIn.inRound l (callsIn_wide.2 (Calls.mono h fun e w'' he => ?_))⟩
            cases e with
            | returned u => exact hK _ _ he
            | panicked c => exact he
            | outgrown => exact he
          | row row args => exact ⟨nofun, fun c cs _ => let ⟨v, w'', r, s⟩ := h c cs; ⟨v, w'', hK _ _ r, stepsIn_wide.2 s⟩⟩
          | _ => exact h.elim
        | halt x w' => cases x <;> first | exact h | exact h.elim
      · exact absurd h hL
    · rename_i hw
      rw [if_neg hw]
      exact ⟨fun f _ => trivial, hK _ _ h⟩
theorem anyIn_of {P : Program} {md : Region.Mode} {ops : Array Oper} {Q : Exit → Act → World → Prop} (l n : Nat) (hd : noDefer ops = true) (hL : ¬ LetsOut Q) : ∀ (fuel : Nat) (listed : Array Bool) (a : Act) (w : World), wpAny P md ops Q fuel listed a w → wpAnyIn (Fence.wide.inRound l) n P md ops Q fuel listed a w
  | 0, _, _, _, h => h
  | fuel + 1, listed, a, w, h => ⟨h.1, fun i hi => opIn_of l n hd hL i (fun _ _ => anyIn_of l n hd hL fuel _ _ _) (h.2 i hi)⟩
theorem regionIn_held {P : Program} {ops : Array Oper} {Q : Exit → Act → World → Prop} {S : World → Prop} {l n id : Nat} {a : Act} {w : World} (hm : P.follows .mixedOrders = true) (hd : noDefer ops = true) (hL : ¬ LetsOut Q) (hS : S w.drew)
    (h : S w.drew → wpAnyH P .any ops Q S ops.size (Array.replicate ops.size false) a w.drew) : (Code.region id ops true).wpIn (Fence.wide.inRound l) n P Q a w :=
  wpIn_region_any hm (anyIn_of l n hd hL _ _ _ _ (wpAny_of_held _ _ _ _ (h hS)))

end Go.Proofs.YteabfalklgffmaaDoor
