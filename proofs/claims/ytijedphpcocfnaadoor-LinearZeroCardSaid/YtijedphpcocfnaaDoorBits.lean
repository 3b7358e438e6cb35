/- The contracts of bitrange.Bits and of the reference's Bits. -/
import Derived.Test.YtijedphpcocfnaaDoorCf
import Derived.Laws.MakeOwn
import Derived.Laws.OwnMore
import Derived.Deep.OwnRows
import Derived.OwnWalk
namespace Go.Proofs.YtijedphpcocfnaaDoor
open Go.RowKit SpM
set_option linter.unusedVariables false
set_option maxRecDepth 20000

theorem intInfo : (Tryd.prog.info? 3).map (fun i => (i.zero, i.size, i.bytes)) = some (some (.int .i64 0), 1, 8) := by kernel_rfl

/-- a row of n integers that the call itself made. -/
def RowF (w : World) (B n : Nat) (f : Nat → Int) : Prop := (∀ j, j < n → w.cell? ⟨B, j, none⟩ = some (.int .i64 (f j))) ∧ (∀ j, w.frozen? ⟨B, j, none⟩ = false)
theorem cell_blk {w : World} {g : Nat} {cs : Array Value} {T : TypeId} (h : w.heap[g]? = some (.cells cs T)) (j : Nat) : w.cell? ⟨g, j, none⟩ = cs[j]? := by simp [World.cell?, h]
theorem frozen_blk {w : World} {g : Nat} {cs : Array Value} {T : TypeId} (h : w.heap[g]? = some (.cells cs T)) (j : Nat) : w.frozen? ⟨g, j, none⟩ = false := by simp [World.frozen?, h]
theorem rowF_made (w : World) (T : TypeId) (n : Nat) : RowF (w.alloc (.cells (madeCells #[.int .i64 0] n) T)) w.heap.size n (fun _ => 0) := by
  have hh : (w.alloc (.cells (madeCells #[.int .i64 0] n) T)).heap[w.heap.size]? = some (.cells (madeCells #[.int .i64 0] n) T) := heap_alloc_new _ _
  refine ⟨fun j hj => ?_, fun j => frozen_blk hh j⟩
  rw [cell_blk hh, ← Array.getElem?_toList, toList_madeCells_one, List.getElem?_replicate, if_pos hj]
theorem rowF_set {w : World} {B n k : Nat} {f : Nat → Int} (h : RowF w B n f) (hk : k < n) (v : Int) : RowF (w.setCell ⟨B, k, none⟩ (.int .i64 v)) B n (fun j => if j = k then v else f j) := by
  refine ⟨fun j hj => ?_, fun j => by rw [World.frozen?_setCell]; exact h.2 j⟩
  dsimp only
  by_cases hjk : j = k
  · subst hjk
    rw [World.cell?_setCell_same _ _ _ (h.1 j hj), if_pos rfl]
  · rw [World.cell?_setCell_other _ _ _ _ (by intro e; injection e with _ e2; omega), if_neg hjk]
    exact h.1 j hj

/-- the bits of a number. -/
def bitsL (m : Int) (n : Nat) : List Int := (List.range n).map fun i => m / 2 ^ i % 2
theorem bitsL_length (m : Int) (n : Nat) : (bitsL m n).length = n := by simp [bitsL]
theorem bitsL_get (m : Int) (n j : Nat) (hj : j < n) : (bitsL m n).getD j 0 = m / 2 ^ j % 2 := by
  rw [List.getD_eq_getElem?_getD, List.getElem?_eq_getElem (by rw [bitsL_length]; exact hj)]
  simp [bitsL]
theorem bitsL_succ (m : Int) (n : Nat) : bitsL m (n + 1) = bitsL m n ++ [m / 2 ^ n % 2] := by
  simp [bitsL, List.range_succ]

/-- what Bits answers. -/
def BitsOut (m : Int) (n : Nat) (w : World) (e : Ending) (w' : World) : Prop :=
  ∃ B, e = .returned (.tuple #[.slice (some ⟨B, 0, none⟩) n n, .int .i64 0]) ∧ Cells w' B (bitsL m n) ∧ Below w.heap.size w w'

theorem pow16 {n : Nat} (h : n ≤ 16) : 1 ≤ (2 : Int) ^ n ∧ (2 : Int) ^ n ≤ 65536 := by
  have h1 : (2 : Int) ^ n = ((2 ^ n : Nat) : Int) := by simp
  have h2 : 2 ^ n ≤ 2 ^ 16 := Nat.pow_le_pow_right (by omega) h
  have h3 : 0 < 2 ^ n := Nat.two_pow_pos n
  rw [h1]; omega

end Go.Proofs.YtijedphpcocfnaaDoor
