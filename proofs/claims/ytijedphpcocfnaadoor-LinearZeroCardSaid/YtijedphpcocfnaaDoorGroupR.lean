/- The contracts of the reference of layer 10: valid groups, elements. -/
import Derived.Test.YtijedphpcocfnaaDoorEl
import Derived.Test.YtijedphpcocfnaaDoorRefC
namespace Go.Proofs.YtijedphpcocfnaaDoor
open Go.RowKit SpM
set_option linter.unusedVariables false

set_option maxHeartbeats 800000 in
theorem rvalid_a (P Q G : Int) (h0 : P < 3) (w : World) :
    Calls Tryd.prog 33 #[gv P Q G] w fun e' w' => e' = .returned (.bool false) ∧ Below w.heap.size w w' := by
  go_enter Tryd.func33, Tryd.ntmps33
  go_wp2
  go_ret
  exact ⟨rfl, below_box0 _ _⟩

set_option maxHeartbeats 800000 in
theorem rvalid_b (P Q G : Int) (h0 : 3 ≤ P) (h1 : 2305843009213693952 ≤ P) (w : World) :
    Calls Tryd.prog 33 #[gv P Q G] w fun e' w' => e' = .returned (.bool false) ∧ Below w.heap.size w w' := by
  go_enter Tryd.func33, Tryd.ntmps33
  go_wp2
  go_ret
  exact ⟨rfl, below_box0 _ _⟩

set_option maxHeartbeats 800000 in
theorem rvalid_c (P Q G : Int) (h0 : 3 ≤ P) (h1 : P < 2305843009213693952) (h2 : Q < 3) (w : World) :
    Calls Tryd.prog 33 #[gv P Q G] w fun e' w' => e' = .returned (.bool false) ∧ Below w.heap.size w w' := by
  go_enter Tryd.func33, Tryd.ntmps33
  go_wp2
  go_ret
  exact ⟨rfl, below_box0 _ _⟩

set_option maxHeartbeats 800000 in
theorem rvalid_d (P Q G : Int) (h0 : 3 ≤ P) (h1 : P < 2305843009213693952) (h2 : 3 ≤ Q) (h3 : Hid (Q % 2 = 0)) (w : World) :
    Calls Tryd.prog 33 #[gv P Q G] w fun e' w' => e' = .returned (.bool false) ∧ Below w.heap.size w w' := by
  have g3 : ((Q % 2 : Int) == 0) = true := by rw [h3.out]; rfl
  go_enter Tryd.func33, Tryd.ntmps33
  go_wp2
  go_ret
  exact ⟨rfl, below_box0 _ _⟩

set_option maxHeartbeats 800000 in
theorem rvalid_e (P Q G : Int) (h0 : 3 ≤ P) (h1 : P < 2305843009213693952) (h2 : 3 ≤ Q) (h3 : Hid (Q % 2 = 1)) (hQ : Q < 9223372036854775808) (h6 : Hid ((P - 1) % Q ≠ 0)) (w : World) :
    Calls Tryd.prog 33 #[gv P Q G] w fun e' w' => e' = .returned (.bool false) ∧ Below w.heap.size w w' := by
  have g3 : ((Q % 2 : Int) == 0) = false := by have := h3.out; simp; omega
  have g6 : (((P - 1) % Q : Int) == 0) = false := by have := h6.out; simp; omega
  have g6' : (((P - 1) % Q : Int) != 0) = true := by have := h6.out; simp; omega
  go_enter Tryd.func33, Tryd.ntmps33
  go_wp2
  go_ret
  exact ⟨rfl, below_box0 _ _⟩

set_option maxHeartbeats 800000 in
theorem rvalid_f (P Q G : Int) (h0 : 3 ≤ P) (h1 : P < 2305843009213693952) (h2 : 3 ≤ Q) (h3 : Hid (Q % 2 = 1)) (hQ : Q < 9223372036854775808) (h6 : Hid ((P - 1) % Q = 0)) (h7 : G < 2) (w : World) :
    Calls Tryd.prog 33 #[gv P Q G] w fun e' w' => e' = .returned (.bool false) ∧ Below w.heap.size w w' := by
  have g3 : ((Q % 2 : Int) == 0) = false := by have := h3.out; simp; omega
  have g6 : (((P - 1) % Q : Int) == 0) = true := by rw [h6.out]; rfl
  have g6' : (((P - 1) % Q : Int) != 0) = false := by rw [h6.out]; rfl
  go_enter Tryd.func33, Tryd.ntmps33
  go_wp2
  go_ret
  exact ⟨rfl, below_box0 _ _⟩

set_option maxHeartbeats 800000 in
theorem rvalid_g (P Q G : Int) (h0 : 3 ≤ P) (h1 : P < 2305843009213693952) (h2 : 3 ≤ Q) (h3 : Hid (Q % 2 = 1)) (hQ : Q < 9223372036854775808) (h6 : Hid ((P - 1) % Q = 0)) (h7 : 2 ≤ G) (h8 : P ≤ G) (w : World) :
    Calls Tryd.prog 33 #[gv P Q G] w fun e' w' => e' = .returned (.bool false) ∧ Below w.heap.size w w' := by
  have g3 : ((Q % 2 : Int) == 0) = false := by have := h3.out; simp; omega
  have g6 : (((P - 1) % Q : Int) == 0) = true := by rw [h6.out]; rfl
  have g6' : (((P - 1) % Q : Int) != 0) = false := by rw [h6.out]; rfl
  go_enter Tryd.func33, Tryd.ntmps33
  go_wp2
  go_ret
  exact ⟨rfl, below_box0 _ _⟩

set_option maxHeartbeats 1600000 in
theorem rvalid_h (P Q G : Int) (h0 : 3 ≤ P) (h1 : P < 2305843009213693952) (h2 : 3 ≤ Q) (h3 : Hid (Q % 2 = 1)) (hQ : Q < 9223372036854775808) (h6 : Hid ((P - 1) % Q = 0)) (h7 : 2 ≤ G) (h8 : G < P) (hQP : Q < P) (h4 : Hid (isP P = false)) (w : World) :
    Calls Tryd.prog 33 #[gv P Q G] w fun e' w' => e' = .returned (.bool false) ∧ Below w.heap.size w w' := by
  have g3 : ((Q % 2 : Int) == 0) = false := by have := h3.out; simp; omega
  have g6 : (((P - 1) % Q : Int) == 0) = true := by rw [h6.out]; rfl
  have g6' : (((P - 1) % Q : Int) != 0) = false := by rw [h6.out]; rfl
  have g8 : decide (P ≤ G) = false := by simp; omega
  go_enter Tryd.func33, Tryd.ntmps33
  go_wp2_with fail
  refine (ris_any P h1 false h4 _).mono ?_
  rintro e w1 ⟨rfl, hb0⟩
  have hb1 := below_ext (below_box0 _ _) hb0
  have hcell : ∀ j, w1.cell? ⟨w.heap.size, j, none⟩ = (w.alloc (gObj P Q G)).cell? ⟨w.heap.size, j, none⟩ := fun j => hb0.cell (p := ⟨w.heap.size, j, none⟩) (by simp)
  have c0 : w1.cell? ⟨w.heap.size, 0, none⟩ = some (.int .i64 P) := (hcell 0).trans (World.cell?_alloc_at _ _ _ _ rfl)
  have c1 : w1.cell? ⟨w.heap.size, 1, none⟩ = some (.int .i64 Q) := (hcell 1).trans (World.cell?_alloc_at _ _ _ _ rfl)
  have c2 : w1.cell? ⟨w.heap.size, 2, none⟩ = some (.int .i64 G) := (hcell 2).trans (World.cell?_alloc_at _ _ _ _ rfl)
  clear hcell hb0
  go_wp2
  go_ret
  exact ⟨rfl, by first | exact hb1 | exact hb2⟩

set_option maxHeartbeats 1600000 in
theorem rvalid_i (P Q G : Int) (h0 : 3 ≤ P) (h1 : P < 2305843009213693952) (h2 : 3 ≤ Q) (h3 : Hid (Q % 2 = 1)) (hQ : Q < 9223372036854775808) (h6 : Hid ((P - 1) % Q = 0)) (h7 : 2 ≤ G) (h8 : G < P) (hQP : Q < P) (h4 : Hid (isP P = true)) (h5 : Hid (isP Q = false)) (w : World) :
    Calls Tryd.prog 33 #[gv P Q G] w fun e' w' => e' = .returned (.bool false) ∧ Below w.heap.size w w' := by
  have g3 : ((Q % 2 : Int) == 0) = false := by have := h3.out; simp; omega
  have g6 : (((P - 1) % Q : Int) == 0) = true := by rw [h6.out]; rfl
  have g6' : (((P - 1) % Q : Int) != 0) = false := by rw [h6.out]; rfl
  have g8 : decide (P ≤ G) = false := by simp; omega
  go_enter Tryd.func33, Tryd.ntmps33
  go_wp2_with fail
  refine (ris_any P h1 true h4 _).mono ?_
  rintro e w1 ⟨rfl, hb0⟩
  have hb1 := below_ext (below_box0 _ _) hb0
  have hcell : ∀ j, w1.cell? ⟨w.heap.size, j, none⟩ = (w.alloc (gObj P Q G)).cell? ⟨w.heap.size, j, none⟩ := fun j => hb0.cell (p := ⟨w.heap.size, j, none⟩) (by simp)
  have c0 : w1.cell? ⟨w.heap.size, 0, none⟩ = some (.int .i64 P) := (hcell 0).trans (World.cell?_alloc_at _ _ _ _ rfl)
  have c1 : w1.cell? ⟨w.heap.size, 1, none⟩ = some (.int .i64 Q) := (hcell 1).trans (World.cell?_alloc_at _ _ _ _ rfl)
  have c2 : w1.cell? ⟨w.heap.size, 2, none⟩ = some (.int .i64 G) := (hcell 2).trans (World.cell?_alloc_at _ _ _ _ rfl)
  clear hcell hb0
  go_wp2_with fail
  refine (ris_any Q (by omega) false h5 _).mono ?_
  rintro e w2 ⟨rfl, hb0⟩
  have hb2 := below_ext hb1 hb0
  have d0 : w2.cell? ⟨w.heap.size, 0, none⟩ = some (.int .i64 P) := (hb0.cell (p := ⟨w.heap.size, 0, none⟩) (World.block_lt_of_cell? _ _ c0)).trans c0
  have d1 : w2.cell? ⟨w.heap.size, 1, none⟩ = some (.int .i64 Q) := (hb0.cell (p := ⟨w.heap.size, 1, none⟩) (World.block_lt_of_cell? _ _ c1)).trans c1
  have d2 : w2.cell? ⟨w.heap.size, 2, none⟩ = some (.int .i64 G) := (hb0.cell (p := ⟨w.heap.size, 2, none⟩) (World.block_lt_of_cell? _ _ c2)).trans c2
  clear hb0
  go_wp2
  go_ret
  exact ⟨rfl, by first | exact hb1 | exact hb2⟩

set_option maxHeartbeats 1600000 in
theorem rvalid_j (P Q G : Int) (h0 : 3 ≤ P) (h1 : P < 2305843009213693952) (h2 : 3 ≤ Q) (h3 : Hid (Q % 2 = 1)) (hQ : Q < 9223372036854775808) (h6 : Hid ((P - 1) % Q = 0)) (h7 : 2 ≤ G) (h8 : G < P) (hQP : Q < P) (b : Bool) (h4 : Hid (isP P = true)) (h5 : Hid (isP Q = true)) (hb : Hid ((pw G Q P == 1) = b)) (w : World) :
    Calls Tryd.prog 33 #[gv P Q G] w fun e' w' => e' = .returned (.bool b) ∧ Below w.heap.size w w' := by
  have g3 : ((Q % 2 : Int) == 0) = false := by have := h3.out; simp; omega
  have g6 : (((P - 1) % Q : Int) == 0) = true := by rw [h6.out]; rfl
  have g6' : (((P - 1) % Q : Int) != 0) = false := by rw [h6.out]; rfl
  have g8 : decide (P ≤ G) = false := by simp; omega
  obtain ⟨x, hx⟩ : ∃ x, pw G Q P = x := ⟨_, rfl⟩
  have g9 : ((x : Int) == 1) = b := by rw [← hx]; exact hb.out
  have HX := Lib.hid hx
  clear hx
  go_enter Tryd.func33, Tryd.ntmps33
  go_wp2_with fail
  refine (ris_any P h1 true h4 _).mono ?_
  rintro e w1 ⟨rfl, hb0⟩
  have hb1 := below_ext (below_box0 _ _) hb0
  have hcell : ∀ j, w1.cell? ⟨w.heap.size, j, none⟩ = (w.alloc (gObj P Q G)).cell? ⟨w.heap.size, j, none⟩ := fun j => hb0.cell (p := ⟨w.heap.size, j, none⟩) (by simp)
  have c0 : w1.cell? ⟨w.heap.size, 0, none⟩ = some (.int .i64 P) := (hcell 0).trans (World.cell?_alloc_at _ _ _ _ rfl)
  have c1 : w1.cell? ⟨w.heap.size, 1, none⟩ = some (.int .i64 Q) := (hcell 1).trans (World.cell?_alloc_at _ _ _ _ rfl)
  have c2 : w1.cell? ⟨w.heap.size, 2, none⟩ = some (.int .i64 G) := (hcell 2).trans (World.cell?_alloc_at _ _ _ _ rfl)
  clear hcell hb0
  go_wp2_with fail
  refine (ris_any Q (by omega) true h5 _).mono ?_
  rintro e w2 ⟨rfl, hb0⟩
  have hb2 := below_ext hb1 hb0
  have d0 : w2.cell? ⟨w.heap.size, 0, none⟩ = some (.int .i64 P) := (hb0.cell (p := ⟨w.heap.size, 0, none⟩) (World.block_lt_of_cell? _ _ c0)).trans c0
  have d1 : w2.cell? ⟨w.heap.size, 1, none⟩ = some (.int .i64 Q) := (hb0.cell (p := ⟨w.heap.size, 1, none⟩) (World.block_lt_of_cell? _ _ c1)).trans c1
  have d2 : w2.cell? ⟨w.heap.size, 2, none⟩ = some (.int .i64 G) := (hb0.cell (p := ⟨w.heap.size, 2, none⟩) (World.block_lt_of_cell? _ _ c2)).trans c2
  clear hb0
  go_wp2_with fail
  refine (rpow_any G Q P x HX (by omega) h1 (by omega) h8 (by omega) hQ _).mono ?_
  rintro e w3 ⟨rfl, rfl⟩
  go_wp2
  go_ret
  exact ⟨rfl, by first | exact hb1 | exact hb2⟩

end Go.Proofs.YtijedphpcocfnaaDoor
