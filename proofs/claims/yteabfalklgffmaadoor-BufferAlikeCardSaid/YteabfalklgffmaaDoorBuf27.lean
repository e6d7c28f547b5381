/-
  New; a first look at buffers.
-/
import Derived.Test.YteabfalklgffmaaDoorBuf26
set_option linter.unusedSimpArgs false
set_option linter.unusedVariables false
namespace Go.Proofs.YteabfalklgffmaaDoor
open Go.RowKit

def newB (limit : Int) : Int × Int := if inB limit 1 64 = true then (limit, 0) else (0, 3)
set_option maxHeartbeats 2000000 in
set_option maxRecDepth 10000 in
theorem new_any (limit : Int) (w : World) : Calls Tryd.prog 5 #[.int .i64 limit] w fun e w' => e = .returned (.tuple #[.agg #[.int .i64 (newB limit).1, .slice none 0 0, .slice none 0 0], .int .i64 (newB limit).2]) ∧ Below w.heap.size w w' := by
  have HR : Hid (newB limit = if inB limit 1 64 = true then (limit, 0) else (0, 3)) := Lib.hid rfl
  generalize newB limit = R at HR ⊢
  have hB := below_alloc w (.cells #[.int .i64 0, .slice none 0 0, .slice none 0 0] 25)
  have hB3 := below_alloc w (.cells #[.int .i64 limit, .slice none 0 0, .slice none 0 0] 25)
  have K := Blk.new w 25 #[.int .i64 0, .slice none 0 0, .slice none 0 0]
  have K3 := Lib.hid (Blk.new w 25 #[.int .i64 limit, .slice none 0 0, .slice none 0 0])
  by_cases h1 : 1 ≤ limit
  · by_cases h2 : limit ≤ 64
    · have EE := Lib.hid (HR.out.trans (if_pos (inB_yes h1 h2)))
      have z0 := K3.out.cell 0 (.int .i64 limit) rfl
      have z1 := K3.out.cell 1 (.slice none 0 0) rfl
      have z2 := K3.out.cell 2 (.slice none 0 0) rfl
      clear HR K
      go_enter Tryd.func5, Tryd.ntmps5
      go_wp2
      refine bodyPost_ret (v := .tuple #[.agg #[.int .i64 limit, .slice none 0 0, .slice none 0 0], .int .i64 0]) (by simp [results, Tryd.results5, go_sem, z0, z1, z2]) rfl ?_
      exact ⟨by rw [EE.out], hB3⟩
    · have EE := Lib.hid (HR.out.trans (if_neg (by rw [inB_no (by omega)]; simp)))
      have z0 := K.cell 0 (.int .i64 0) rfl
      have z1 := K.cell 1 (.slice none 0 0) rfl
      have z2 := K.cell 2 (.slice none 0 0) rfl
      clear HR K3
      go_enter Tryd.func5, Tryd.ntmps5
      go_wp2
      refine bodyPost_ret (v := .tuple #[.agg #[.int .i64 0, .slice none 0 0, .slice none 0 0], .int .i64 3]) (by simp [results, Tryd.results5, go_sem, z0, z1, z2]) rfl ?_
      exact ⟨by rw [EE.out], hB⟩
  · have EE := Lib.hid (HR.out.trans (if_neg (by rw [inB_no (by omega)]; simp)))
    have z0 := K.cell 0 (.int .i64 0) rfl
    have z1 := K.cell 1 (.slice none 0 0) rfl
    have z2 := K.cell 2 (.slice none 0 0) rfl
    clear HR K3
    go_enter Tryd.func5, Tryd.ntmps5
    go_wp2
    refine bodyPost_ret (v := .tuple #[.agg #[.int .i64 0, .slice none 0 0, .slice none 0 0], .int .i64 3]) (by simp [results, Tryd.results5, go_sem, z0, z1, z2]) rfl ?_
    exact ⟨by rw [EE.out], hB⟩
theorem fit_of {b : Buf} (hl : -9223372036854775808 ≤ b.limit ∧ b.limit ≤ 9223372036854775807) (he : ∀ e ∈ b.bu.all, FineE e) (hn : b.bu.all.length ≤ 1000000) (hr : b.bu.runs.length ≤ 1000000) : b.fit := by
  have hm : ∀ x ∈ b.mem, x.e ∈ b.bu.all := fun x hx => by unfold Bu.all Bu.parts; exact List.mem_flatten.2 ⟨b.bu.mem, by simp, List.mem_map.2 ⟨x, hx, rfl⟩⟩
  have hq : ∀ p ∈ b.runs, ens p.2 ∈ b.bu.parts := fun p hp => List.mem_cons_of_mem _ (List.mem_map.2 ⟨p, hp, rfl⟩)
  have hlen : ∀ l ∈ b.bu.parts, l.length ≤ b.bu.all.length := by
    have : ∀ (L : List (List En)) (l : List En), l ∈ L → l.length ≤ L.flatten.length := by
      intro L l hl
      obtain ⟨a, c, rfl⟩ := List.append_of_mem hl
      simp
      omega
    exact fun l hl => this _ l hl
  refine ⟨hl, fun x hx => he _ (hm x hx), fun p hp x hx => he _ (List.mem_flatten.2 ⟨_, hq p hp, List.mem_map.2 ⟨x, hx, rfl⟩⟩), ?_, fun p hp => ?_, ?_⟩
  · have := hlen b.bu.mem (by simp [Bu.parts])
    rw [show b.bu.mem.length = b.mem.length from ens_len _] at this
    omega
  · have := hlen _ (hq p hp)
    rw [ens_len] at this
    omega
  · rw [show b.bu.runs.length = b.runs.length from List.length_map _] at hr
    omega

def e1B : En := ⟨[], 1, 1, [], false⟩
def e2B : En := ⟨[], 2, 2, [], false⟩
def e3B : En := ⟨[], 3, 3, [], false⟩
theorem put1 : putS ⟨1, [], []⟩ e3B = (⟨1, [e3B], []⟩, 0) := by kernel_rfl
theorem put2 : putS ⟨1, [e3B], []⟩ e2B = (⟨1, [], [[e2B, e3B]]⟩, 0) := by kernel_rfl
theorem put3 : putS ⟨1, [], [[e2B, e3B]]⟩ e1B = (⟨1, [e1B], [[e2B, e3B]]⟩, 0) := by kernel_rfl
theorem put4 : (putS ⟨1, [e1B], [[e2B, e3B]]⟩ e2B).2 = 10 := by kernel_rfl
theorem scan1 : scanL ⟨1, [e1B], [[e2B, e3B]]⟩ [] 2 9 = [e2B, e3B] := by kernel_rfl
theorem check1 : checkB ⟨1, [e1B], [[e2B, e3B]]⟩ = 0 := by kernel_rfl
def stB (n : Nat) : Bu := match n with
  | 3 => ⟨1, [], []⟩
  | 2 => ⟨1, [e3B], []⟩
  | 1 => ⟨1, [], [[e2B, e3B]]⟩
  | _ => ⟨1, [e1B], [[e2B, e3B]]⟩
theorem stB_put (n : Nat) (h1 : 1 ≤ n) (h3 : n ≤ 3) : putS (stB n) ⟨[], n, n, [], false⟩ = (stB (n - 1), 0) := by
  match n, h1, h3 with
  | 1, _, _ => exact put3
  | 2, _, _ => exact put2
  | 3, _, _ => exact put1
theorem fineB (n : Nat) (h : n ≤ 3) : FineE ⟨[], n, n, [], false⟩ := ⟨⟨nofun, nofun⟩, by show _ ∧ _; simp only; omega, by show _ ∧ _; simp only; omega, by simp, by simp⟩
theorem stB_fit {b : Buf} {n : Nat} (h : b.bu = stB n) (hn : n ≤ 3) : b.fit := by
  have hl : b.limit = 1 := by
    have := congrArg Bu.limit h
    match n, hn with
    | 0, _ => exact this
    | 1, _ => exact this
    | 2, _ => exact this
    | 3, _ => exact this
  have h1 : FineE e1B := fineB 1 (by omega)
  have h2 : FineE e2B := fineB 2 (by omega)
  have h3 : FineE e3B := fineB 3 (by omega)
  refine fit_of (by omega) ?_ ?_ ?_
  · rw [h]
    match n, hn with
    | 0, _ => intro e he; simp [stB, Bu.all, Bu.parts] at he; rcases he with rfl | rfl | rfl <;> assumption
    | 1, _ => intro e he; simp [stB, Bu.all, Bu.parts] at he; rcases he with rfl | rfl <;> assumption
    | 2, _ => intro e he; simp [stB, Bu.all, Bu.parts] at he; subst he; assumption
    | 3, _ => intro e he; simp [stB, Bu.all, Bu.parts] at he
  · rw [h]
    match n, hn with
    | 0, _ => decide
    | 1, _ => decide
    | 2, _ => decide
    | 3, _ => decide
  · rw [h]
    match n, hn with
    | 0, _ => decide
    | 1, _ => decide
    | 2, _ => decide
    | 3, _ => decide

end Go.Proofs.YteabfalklgffmaaDoor
