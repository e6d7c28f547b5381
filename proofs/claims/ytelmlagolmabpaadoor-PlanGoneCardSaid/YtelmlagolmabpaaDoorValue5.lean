/-
  Bytes: a number's eight bytes; the reference's cellKey and Key.
-/
import Derived.Test.YtelmlagolmabpaaDoorValue4
namespace Go.Proofs.YtelmlagolmabpaaDoor
open Go.RowKit

def byteV (b : UInt8) : Value := .int .u8 (b.toNat : Int)
def bytesV (l : List UInt8) : List Value := l.map byteV
def str (l : List UInt8) : ByteArray := ⟨l.toArray⟩
theorem str_size (l : List UInt8) : (str l).size = l.length := by simp [str, ByteArray.size]
theorem str_append (a b : List UInt8) : str a ++ str b = str (a ++ b) := by
  apply ByteArray.ext
  simp [str]
theorem str_toList (l : List UInt8) : (str l).toList = l := by rw [ByteArray.toList_eq]; simp [str]
theorem str_of (s : ByteArray) : str s.toList = s := by
  rw [ByteArray.toList_eq]
  obtain ⟨⟨x⟩⟩ := s
  rfl

theorem run_str (W : World) (g off c : Nat) (l : List UInt8) (hc : ∀ j u, (bytesV l)[j]? = some u → W.cell? ⟨g, off + j, none⟩ = some u) :
    (convert 116 9 (.slice (some ⟨g, off, none⟩) l.length c)).run Tryd.prog W = .ok (.string (str l)) W :=
  run_convert_bytes_back W 116 9 5 ⟨g, off, none⟩ c l Tryd.underlying116 Tryd.underlying5 Tryd.underlying9 (fun j hj => by
    have := hc j (byteV l[j]) (by simp [bytesV, hj])
    unfold Addr.add
    split
    · rename_i h; subst h; simpa [byteV] using this
    · simpa [byteV] using this)
/-- 'string([]byte(..))' of one byte that has just been laid. -/
theorem run_str1 (W : World) (b : UInt8) : (convert 116 9 (.slice (some ⟨W.heap.size, 0, none⟩) 1 1)).run Tryd.prog (W.alloc (.cells #[.int .u8 (b.toNat : Int)] 5)) = .ok (.string (str [b])) (W.alloc (.cells #[.int .u8 (b.toNat : Int)] 5)) :=
  run_str _ _ 0 1 [b] fun j u hj => by
    have := (Blk.new W 5 #[.int .u8 (b.toNat : Int)]).cell j u (by simpa [bytesV, byteV] using hj)
    simpa using this

def byteAt (m k : Nat) : UInt8 := UInt8.ofNat (m / 2 ^ (56 - 8 * k))
def be8 (m : Nat) : List UInt8 := (List.range 8).map (byteAt m)
theorem be8_len (m : Nat) : (be8 m).length = 8 := by simp [be8]
theorem be8_take (m k : Nat) (hk : k < 8) : (be8 m).take (k + 1) = (be8 m).take k ++ [byteAt m k] := by
  rw [List.take_add_one]
  simp [be8, hk]
theorem byteAt_eq (m k : Nat) : ((m : Int) / 2 ^ (56 - 8 * k) % 256) = ((byteAt m k).toNat : Int) := by
  simp [byteAt, UInt8.toNat_ofNat']
theorem u64_nat (n : Int) : ∃ m : Nat, IntKind.u64.wrap n = (m : Int) ∧ m < 18446744073709551616 := by
  have h : 0 ≤ IntKind.u64.wrap n ∧ IntKind.u64.wrap n < 18446744073709551616 := by
    rw [IntKind.wrap_u64]; omega
  exact ⟨(IntKind.u64.wrap n).toNat, by omega, by omega⟩

set_option maxHeartbeats 1000000 in
set_option maxRecDepth 10000 in
theorem eight_any (n : Int) (m : Nat) (w : World) (hm : IntKind.u64.wrap n = (m : Int)) :
    Calls Tryd.prog 105 #[.int .i64 n] w fun e w' => e = .returned (.string (str (be8 m))) ∧ Below w.heap.size w w' := by
  have HM := Lib.hid hm
  clear hm
  go_enter Tryd.func105, Tryd.ntmps105
  go_wp2
  go_loopw [3, 4] (fun s i wr => ∃ (k : Nat) (x : ByteArray), k ≤ 8 ∧ i = .int .i64 (56 - 8 * (k : Int)) ∧ s = .string x ∧ x.size ≤ k ∧ Hid (x = str ((be8 m).take k)) ∧ Below w.heap.size w wr) (fun _ i _ => (intOf i + 8).toNat)
  case atStart => exact ⟨0, ⟨#[]⟩, by omega, rfl, rfl, by simp [ByteArray.size], rfl, Below.refl _ _⟩
  case round =>
    obtain ⟨k, x, hk, rfl, rfl, hsz, HX, hbw⟩ := hrel
    by_cases hlt : k < 8
    · have hb : IntKind.u64.wrap n / 2 ^ (56 - 8 * k) % 256 = ((byteAt m k).toNat : Int) := by rw [HM.out, byteAt_eq]
      have hs := run_str1 wr (byteAt m k)
      have hs1 := str_size [byteAt m k]
      simp only [List.length_cons, List.length_nil, Nat.zero_add] at hs1
      go_wp2
      go_roundw
      case rel =>
        refine ⟨k + 1, _, by omega, ?_, rfl, ?_, ?_, hbw.alloc hbw.size _⟩
        · congr 1; omega
        · rw [ByteArray.size_append]; omega
        · show _ = _
          rw [HX.out, str_append, be8_take _ _ hlt]
      case measure => simp [intOf]; omega
    · obtain rfl : k = 8 := by omega
      go_wp2
      go_ret
      have hx : x = str (be8 m) := by rw [HX.out, List.take_of_length_le (by rw [be8_len]; omega)]
      exact ⟨by rw [hx]; rfl, hbw⟩

end Go.Proofs.YtelmlagolmabpaaDoor
