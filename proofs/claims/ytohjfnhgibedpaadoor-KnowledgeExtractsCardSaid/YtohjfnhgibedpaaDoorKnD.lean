/- The contracts of packages knowledge and specieref16: proofs that are simulated. -/
import Derived.Test.YtohjfnhgibedpaaDoorKnC
namespace Go.Proofs.YtohjfnhgibedpaaDoor
open Go.RowKit SpM
set_option linter.unusedVariables false

theorem pw_neg {P Q y c : Int} (hP : 2 ≤ P) (hQ : 1 ≤ Q) (hc0 : 0 ≤ c) (hc : c < Q) (hy : memG P Q y = true) : pw (pw y (c % Q) P) ((Q - 1) % Q) P = pw y ((-c) % Q) P := by
  have e1 : c % Q = c := Int.emod_eq_of_lt hc0 hc
  have e2 : (Q - 1) % Q = Q - 1 := Int.emod_eq_of_lt (by omega) (by omega)
  have h0 : 0 ≤ c * (Q - 1) := Int.mul_nonneg hc0 (by omega)
  have e3 : (-c) % Q = (c * (Q - 1)) % Q := by
    rw [show c * (Q - 1) = -c + Q * c by rw [Int.mul_sub, Int.mul_comm c Q]; omega, Int.add_mul_emod_self_left]
  rw [e1, e2, pw_pw _ _ _ _ hc0 (by omega), e3, ← pw_mod hP hQ h0 (memG_pw hy)]

theorem cell_set_far {w : World} {p q : Addr} (x : Value) (h : p.block ≠ q.block) : (w.setCell p x).cell? q = w.cell? q :=
  World.cell?_of_block (Below.heap_setCell w p x q.block (Ne.symm h))

theorem simOut_mk {a c z : Int} {w w1 : World} {r : Nat} {T : TypeId} (hb : Below w.heap.size w w1) (hr : w.heap.size ≤ r) (hlt : r + 1 ≤ w1.heap.size) (x y t : Value) :
    SimOut a c z w (.returned (pv1 w1.heap.size (w1.heap.size + 1) c)) ((((((w1.alloc (.cells #[.int .i64 a] T)).alloc (.cells #[.int .i64 z] T)).setCell ⟨r, 0, none⟩ x).setCell ⟨r, 1, none⟩ y).setCell ⟨r, 2, none⟩ t)) := by
  have e : (w1.alloc (.cells #[.int .i64 a] T)).heap.size = w1.heap.size + 1 := by simp
  have c1 : Cells ((w1.alloc (.cells #[.int .i64 a] T)).alloc (.cells #[.int .i64 z] T)) w1.heap.size [a] := (cells1 w1 T a).below (below_box0 _ _)
  have c2 : Cells ((w1.alloc (.cells #[.int .i64 a] T)).alloc (.cells #[.int .i64 z] T)) (w1.heap.size + 1) [z] := cells1' w1 _ T z
  refine ⟨_, _, rfl, fun k hk => ?_, fun k hk => ?_, below_set3 (((hb).alloc hb.size _).alloc (by rw [e]; have := hb.size; omega) _) hr _ _ _⟩
  · rw [cell_set_far _ (by simp; omega), cell_set_far _ (by simp; omega), cell_set_far _ (by simp; omega)]; exact c1 k hk
  · rw [cell_set_far _ (by simp; omega), cell_set_far _ (by simp; omega), cell_set_far _ (by simp; omega)]; exact c2 k hk

end Go.Proofs.YtohjfnhgibedpaaDoor
