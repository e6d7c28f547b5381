/-
  What strings.ReplaceAll makes of a text in a key: no program in sight but the library's word for it.
-/
import Derived.Test.YtelmlagolmabpaaDoorValue7
namespace Go.Proofs.YtelmlagolmabpaaDoor
open Go.RowKit

theorem index_zero (l : List UInt8) : (Lib.index l [0] = -1 ∧ ∀ b ∈ l, b ≠ 0) ∨ (∃ p r, l = p ++ 0 :: r ∧ (∀ b ∈ p, b ≠ 0) ∧ Lib.index l [0] = (p.length : Int)) := by
  induction l with
  | nil => exact .inl ⟨rfl, by simp⟩
  | cons b l ih =>
    by_cases hb : b = 0
    · subst hb
      exact .inr ⟨[], l, rfl, by simp, by simp [Lib.index]⟩
    · have e : Lib.index (b :: l) [0] = if Lib.index l [0] == -1 then -1 else Lib.index l [0] + 1 := by
        rw [Lib.index, if_neg]
        simp only [List.isPrefixOf, Bool.and_true, beq_iff_eq]
        exact fun h => hb h.symm
      rcases ih with ⟨h1, h2⟩ | ⟨p, r, rfl, h2, h3⟩
      · left
        rw [e, h1]
        refine ⟨rfl, fun x hx => ?_⟩
        rcases List.mem_cons.1 hx with rfl | hx
        · exact hb
        · exact h2 x hx
      · right
        refine ⟨b :: p, r, rfl, fun x hx => ?_, ?_⟩
        · rcases List.mem_cons.1 hx with rfl | hx
          · exact hb
          · exact h2 x hx
        · rw [e, h3, if_neg]
          · simp
          · simp
theorem esc_plain {l : List UInt8} (h : ∀ b ∈ l, b ≠ 0) : esc l = l := by
  induction l with
  | nil => rfl
  | cons b l ih => rw [esc_cons, if_neg (h b (by simp)), ih fun x hx => h x (by simp [hx])]; rfl
theorem replace_zero (fuel : Nat) : ∀ l : List UInt8, l.length < fuel → Lib.replaceK [0] [0, 255] (Lib.countFrom [0] fuel l) l = esc l := by
  induction fuel with
  | zero => intro l h; omega
  | succ fuel ih =>
    intro l hl
    rw [Lib.countFrom]
    rcases index_zero l with ⟨h1, h2⟩ | ⟨p, r, rfl, h2, h3⟩
    · rw [h1]
      show Lib.replaceK _ _ 0 l = _
      rw [Lib.replaceK, esc_plain h2]
    · have hne : ¬ (Lib.index (p ++ 0 :: r) [0] == -1) = true := by rw [h3]; simp
      rw [if_neg hne, h3, Nat.add_comm]
      have hd : (p ++ 0 :: r).drop (((p.length : Nat) : Int).toNat + [(0 : UInt8)].length) = r := by
        have e : ((p.length : Nat) : Int).toNat + [(0 : UInt8)].length = p.length + 1 := by simp
        rw [e, List.drop_append]
        simp
      rw [Lib.replaceK_hit _ _ _ _ p.length h3]
      rw [hd]
      have hd2 : (p ++ 0 :: r).drop (p.length + [(0 : UInt8)].length) = r := by simp
      rw [hd2, ih r (by simp at hl; omega)]
      rw [esc_append, esc_cons, esc_plain h2, List.take_append]
      simp
theorem replaceAll_zero (l : List UInt8) : Lib.replaceAll l [0] [0, 255] = esc l := by
  unfold Lib.replaceAll Lib.replace Lib.replaceNum Lib.count
  rw [if_neg (by decide), if_pos (.inl (by decide))]
  exact replace_zero _ l (by omega)

/-- The variable of Go's library that strings.ReplaceAll's callees read. -/
def Mx (w : World) : Prop := ∃ m : Int, w.cell? ⟨0, 0, none⟩ = some (.int .i64 m)
theorem Mx.below {w w' : World} (h : Mx w) (hb : Below w.heap.size w w') : Mx w' := by
  obtain ⟨m, hm⟩ := h
  exact ⟨m, cell_below hb hm⟩

theorem replaceAll_any (s : ByteArray) (w : World) (hs : s.size ≤ 64) (hm : Mx w) :
    Calls Tryd.prog 94 #[.string s, .string ⟨#[0]⟩, .string ⟨#[0, 255]⟩] w fun e w' => e = .returned (.string (str (esc s.toList))) ∧ Below w.heap.size w w' := by
  obtain ⟨m, hm⟩ := hm
  have h1 := Lib.countB_le ⟨#[0]⟩ (by decide) s.size s (Nat.le_refl _)
  have h2 : (⟨#[0, 255]⟩ : ByteArray).size = 2 := rfl
  refine (Tryd.strings_ReplaceAll s ⟨#[0]⟩ ⟨#[0, 255]⟩ m w (by omega) hm (by decide) (by rw [h2]; omega)).mono ?_
  rintro e w' ⟨rfl, hb⟩
  refine ⟨?_, hb⟩
  have : Lib.replaceAll s.data.toList [0] [0, 255] = esc s.toList := by rw [replaceAll_zero, ByteArray.toList_eq]
  show Ending.returned (.string ⟨(Lib.replaceAll s.data.toList [0] [0, 255]).toArray⟩) = _
  rw [this]
  rfl

end Go.Proofs.YtelmlagolmabpaaDoor
