/- The contracts of bitrange.Bits and of the reference's Bits. -/
import Derived.Test.YtohjfnhgibedpaaDoorCf
import Derived.Laws.MakeOwn
import Derived.Laws.OwnMore
import Derived.Deep.OwnRows
import Derived.OwnWalk
namespace Go.Proofs.YtohjfnhgibedpaaDoor
open Go.RowKit SpM
set_option linter.unusedVariables false
set_option maxRecDepth 20000

theorem intInfo : (Tryd.prog.info? 3).map (fun i => (i.zero, i.size, i.bytes)) = some (some (.int .i64 0), 1, 8) := by kernel_rfl

/-- a row of n integers that the call itself made. -/
def RowF (w : World) (B n : Nat) (f : Nat → Int) : Prop := (∀ j, j < n → w.cell? ⟨B, j, none⟩ = some (.int .i64 (f j))) ∧ (∀ j, w.frozen? ⟨B, j, none⟩ = false)
theorem cell_blk {w : World} {g : Nat} {cs : Array Value} {T : TypeId} (h : w.heap[g]? = some (.cells cs T)) (j : Nat) : w.cell? ⟨g, j, none⟩ = cs[j]? := by simp [World.cell?, h]
theorem frozen_blk {w : World} {g : Nat} {cs : Array Value} {T : TypeId} (h : w.heap[g]? = some (.cells cs T)) (j : Nat) : w.frozen? ⟨g, j, none⟩ = false := by simp [World.frozen?, h]
theorem rowF_made (w : World) (T : TypeId) (n : Nat) : RowF (w.alloc (.cells (madeCells #[.int .i64 0] n) T)) w.heap.size n (fun _ => 0) := by
  have hh : (w.alloc (.cells (madeCells #[.int .i64 0] n) T)).heap[w.heap.size]? = some (.cells (madeCells #[.int .i64 0] n) T) := heap_alloc_new _ _
  refine ⟨fun j hj => ?_, fun j => frozen_blk hh j⟩
  rw [cell_blk hh, ← Array.getElem?_toList, toList_madeCells_one, List.getElem?_replicate, if_pos hj]
theorem rowF_set {w : World} {B n k : Nat} {f : Nat → Int} (h : RowF w B n f) (hk : k < n) (v : Int) : RowF (w.setCell ⟨B, k, none⟩ (.int .i64 v)) B n (fun j => if j = k then v else f j) := by
  refine ⟨fun j hj => ?_, fun j => by rw [World.frozen?_setCell]; exact h.2 j⟩
  dsimp only
  by_cases hjk : j = k
  · subst hjk
    rw [World.cell?_setCell_same _ _ _ (h.1 j hj), if_pos rfl]
  · rw [World.cell?_setCell_other _ _ _ _ (by intro e; injection e with _ e2; omega), if_neg hjk]
    exact h.1 j hj

/-- the bits of a number. -/
def bitsL (m : Int) (n : Nat) : List Int := (List.range n).map fun i => m / 2 ^ i % 2
theorem bitsL_length (m : Int) (n : Nat) : (bitsL m n).length = n := by simp [bitsL]
theorem bitsL_get (m : Int) (n j : Nat) (hj : j < n) : (bitsL m n).getD j 0 = m / 2 ^ j % 2 := by
  rw [List.getD_eq_getElem?_getD, List.getElem?_eq_getElem (by rw [bitsL_length]; exact hj)]
  simp [bitsL]
theorem bitsL_succ (m : Int) (n : Nat) : bitsL m (n + 1) = bitsL m n ++ [m / 2 ^ n % 2] := by
  simp [bitsL, List.range_succ]

/-- what Bits answers. -/
def BitsOut (m : Int) (n : Nat) (w : World) (e : Ending) (w' : World) : Prop :=
  ∃ B, e = .returned (.tuple #[.slice (some ⟨B, 0, none⟩) n n, .int .i64 0]) ∧ Cells w' B (bitsL m n) ∧ Below w.heap.size w w'

theorem pow16 {n : Nat} (h : n ≤ 16) : 1 ≤ (2 : Int) ^ n ∧ (2 : Int) ^ n ≤ 65536 := by
  have h1 : (2 : Int) ^ n = ((2 ^ n : Nat) : Int) := by simp
  have h2 : 2 ^ n ≤ 2 ^ 16 := Nat.pow_le_pow_right (by omega) h
  have h3 : 0 < 2 ^ n := Nat.two_pow_pos n
  rw [h1]; omega

set_option maxHeartbeats 3200000 in
theorem bits_ok (m : Int) (n : Nat) (h1 : 1 ≤ n) (h2 : n ≤ 16) (h0 : 0 ≤ m) (hm : m < 2 ^ n) (w : World) :
    Calls Tryd.prog 9 #[.int .i64 m, .int .i64 n] w (BitsOut m n w) := by
  have hmm := fun W => run_make_row' (P := Tryd.prog) 26 3 (.int .i64 0) 8 Tryd.underlying26 intInfo rfl .i64 .i64 n (by omega) (by omega) W
  obtain ⟨q1, q2⟩ := pow16 h2
  obtain ⟨M, hM⟩ : ∃ M, (2 : Int) ^ n = M := ⟨_, rfl⟩
  rw [hM] at q1 q2 hm
  have hsh : wrap64 ((2 : Int) ^ n) = M := by rw [hM]; exact IntWalk.wrap64_in _ (by omega)
  have d1 : decide ((n : Int) < 1) = false := by simp; omega
  have d2 : decide ((16 : Int) < (n : Int)) = false := by simp; omega
  have d3 : decide (m < 0) = false := by simp; omega
  have d4 : decide (M ≤ m) = false := by simp; omega
  have HR0 := Lib.hid (rowF_made w 3 n)
  clear hM
  go_enter Tryd.func9, Tryd.ntmps9
  go_wp2
  go_loopw [28] (fun i wr => ∃ k : Nat, k ≤ n ∧ i = .int .i64 k ∧ Hid (RowF wr w.heap.size n (fun j => if j < k then m / 2 ^ j % 2 else 0)) ∧ Hid (Below w.heap.size w wr)) (fun i _ => n - (intOf i).toNat)
  case atStart => exact ⟨0, by omega, rfl, by simpa using HR0, Lib.hid (below_box0 _ _)⟩
  case round =>
    obtain ⟨k, hk, rfl, HR, HB⟩ := hrel
    by_cases hlt : k < n
    · have hcell : wr.cell? ⟨w.heap.size, k, none⟩ = some (.int .i64 0) := by
        have h3 := HR.out.1 k hlt
        simp only [Nat.lt_irrefl, if_false] at h3
        exact h3
      have hfz := HR.out.2 k
      have s0 : 0 ≤ m / 2 ^ k := Int.ediv_nonneg h0 (by have := (pow16 (n := k) (by omega)).1; omega)
      have s1 : m / 2 ^ k < 9223372036854775808 := by
        have h3 : m / 2 ^ k ≤ m := Int.ediv_le_self _ h0
        omega
      obtain ⟨s, hs⟩ : ∃ s, m / 2 ^ k = s := ⟨_, rfl⟩
      rw [hs] at s0 s1
      have hand := i64_and1 s s0 s1
      obtain ⟨t, ht⟩ : ∃ t, s % 2 = t := ⟨_, rfl⟩
      rw [ht] at hand
      have hz : 0 ≤ t ∧ t ≤ 1 := by omega
      have HN : Hid (RowF (wr.setCell ⟨w.heap.size, k, none⟩ (.int .i64 t)) w.heap.size n (fun j => if j < k + 1 then m / 2 ^ j % 2 else 0)) := by
        have h3 := rowF_set HR.out hlt t
        have e : (fun j => if j = k then t else if j < k then m / 2 ^ j % 2 else 0) = (fun j => if j < k + 1 then m / 2 ^ j % 2 else 0) := by
          funext j
          by_cases hj : j = k
          · subst hj; rw [if_pos rfl, if_pos (by omega), hs, ht]
          · rw [if_neg hj]
            by_cases hj2 : j < k
            · rw [if_pos hj2, if_pos (by omega)]
            · rw [if_neg hj2, if_neg (by omega)]
        rw [e] at h3
        exact h3
      have HB2 : Hid (Below w.heap.size w (wr.setCell ⟨w.heap.size, k, none⟩ (.int .i64 t))) := Lib.hid (HB.out.setCell (Nat.le_refl _) _)
      have hdiv : ((m : Int) / 2 ^ k) = s := hs
      clear ht HR
      go_wp2
      go_roundw
      case rel => exact ⟨k + 1, by omega, by go_num, HN, HB2⟩
      case measure => simp [intOf]; omega
    · obtain rfl : k = n := by omega
      have HC : Hid (Cells wr w.heap.size (bitsL m k)) := Lib.hid (fun j hj => by
        rw [bitsL_length] at hj
        rw [bitsL_get m k j hj, HR.out.1 j hj]; dsimp only; rw [if_pos hj])
      clear HR hlt
      go_wp2
      go_ret2
      exact ⟨w.heap.size, rfl, HC.out, HB.out⟩
end Go.Proofs.YtohjfnhgibedpaaDoor
