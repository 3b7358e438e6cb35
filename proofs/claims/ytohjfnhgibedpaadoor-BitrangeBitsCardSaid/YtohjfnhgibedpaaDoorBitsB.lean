/- bitrange.Bits at what is out of range, and the bases of the statements of layer 20. -/
import Derived.Test.YtohjfnhgibedpaaDoorRBits
import Derived.Test.YtohjfnhgibedpaaDoorBase
namespace Go.Proofs.YtohjfnhgibedpaaDoor
open Go.RowKit SpM
set_option linter.unusedVariables false
set_option linter.unusedSimpArgs false
set_option maxRecDepth 20000

/-- what Bits answers out of range. -/
def BitsBad (w : World) (e : Ending) (w' : World) : Prop := e = .returned (.tuple #[.slice none 0 0, .int .i64 2]) ∧ Below w.heap.size w w'

theorem bits_bad1 (m n : Int) (h : n < 1) (w : World) : Calls Tryd.prog 9 #[.int .i64 m, .int .i64 n] w (BitsBad w) := by
  have d1 : decide (n < 1) = true := by simp; omega
  go_enter Tryd.func9, Tryd.ntmps9
  go_wp2
  go_ret2
  exact ⟨rfl, Below.refl _ _⟩
theorem bits_bad2 (m n : Int) (h1 : ¬ n < 1) (h : 16 < n) (w : World) : Calls Tryd.prog 9 #[.int .i64 m, .int .i64 n] w (BitsBad w) := by
  have d1 : decide (n < 1) = false := by simp; omega
  have d2 : decide (16 < n) = true := by simp; omega
  go_enter Tryd.func9, Tryd.ntmps9
  go_wp2
  go_ret2
  exact ⟨rfl, Below.refl _ _⟩
theorem bits_bad3 (m n : Int) (h1 : ¬ n < 1) (h2 : ¬ 16 < n) (h : m < 0) (w : World) : Calls Tryd.prog 9 #[.int .i64 m, .int .i64 n] w (BitsBad w) := by
  have d1 : decide (n < 1) = false := by simp; omega
  have d2 : decide (16 < n) = false := by simp; omega
  have d3 : decide (m < 0) = true := by simp; omega
  go_enter Tryd.func9, Tryd.ntmps9
  go_wp2
  go_ret2
  exact ⟨rfl, Below.refl _ _⟩
theorem bits_bad4 (m : Int) (n : Nat) (h1 : 1 ≤ n) (h2 : n ≤ 16) (h0 : 0 ≤ m) (hm : 2 ^ n ≤ m) (w : World) : Calls Tryd.prog 9 #[.int .i64 m, .int .i64 n] w (BitsBad w) := by
  obtain ⟨q1, q2⟩ := pow16 h2
  obtain ⟨M, hM⟩ : ∃ M, (2 : Int) ^ n = M := ⟨_, rfl⟩
  rw [hM] at q1 q2 hm
  have hsh : wrap64 ((2 : Int) ^ n) = M := by rw [hM]; exact IntWalk.wrap64_in _ (by omega)
  have d1 : decide ((n : Int) < 1) = false := by simp; omega
  have d2 : decide ((16 : Int) < (n : Int)) = false := by simp; omega
  have d3 : decide (m < 0) = false := by simp; omega
  have d4 : decide (M ≤ m) = true := by simp; omega
  clear hM
  go_enter Tryd.func9, Tryd.ntmps9
  go_wp2
  go_ret2
  exact ⟨rfl, Below.refl _ _⟩

theorem bases20 (w : World) : Calls Tryd.prog 37 #[] w fun e' w' => e' = .returned (bv 23 11 4 2 3 9) ∧ Below w.heap.size w w' := by
  go_enter Tryd.func37, Tryd.ntmps37
  go_wp2
  exact bodyPost_ret (v := bv 23 11 4 2 3 9) (by simp [results, Tryd.results37, go_sem]) rfl ⟨rfl, below_box0 _ _⟩
end Go.Proofs.YtohjfnhgibedpaaDoor
