/- The contracts of package group. -/
import Derived.Test.YtijedphpcocfnaaDoorIs
namespace Go.Proofs.YtijedphpcocfnaaDoor
open Go.RowKit SpM
set_option linter.unusedVariables false

theorem below_drawN {B : Nat} {a w : World} (h : Below B a w) (n : Nat) : Below B a (w.drewN n) := by
  induction n with
  | zero => exact h
  | succ n ih => exact ih.drew

theorem Vars.below {w w' : World} (hv : Vars w) (hb : Below w.heap.size w w') : Vars w' :=
  ⟨fun k hk => (hb.cell (World.block_lt_of_cell? w _ (hv.1 k hk))).trans (hv.1 k hk), fun j hj => (hb.cell (World.block_lt_of_cell? w _ (hv.2 j hj))).trans (hv.2 j hj)⟩

/-- what group.Valid says. -/
def validG (P Q G : Int) : Bool := decide (P < 2305843009213693952 ∧ 3 ≤ Q ∧ Q % 2 = 1 ∧ isP P = true ∧ isP Q = true ∧ (P - 1) % Q = 0 ∧ 2 ≤ G ∧ G < P ∧ pw G Q P = 1)

/-- a group as a value. -/
abbrev gv (P Q G : Int) : Value := .agg #[.int .i64 P, .int .i64 Q, .int .i64 G]
abbrev gObj (P Q G : Int) : Obj := .cells #[.int .i64 P, .int .i64 Q, .int .i64 G] 23

theorem below_box (w : World) (o : Obj) (n : Nat) : Below w.heap.size w ((w.alloc o).drewN n) := below_drawN ((Below.refl _ _).alloc (Nat.le_refl _) _) n
theorem below_box0 (w : World) (o : Obj) : Below w.heap.size w (w.alloc o) := (Below.refl _ _).alloc (Nat.le_refl _) _

set_option maxHeartbeats 1600000 in
theorem valid_true (P Q G : Int) (b : Bool) (h1 : P < 2305843009213693952) (h2 : 3 ≤ Q) (h3 : Hid (Q % 2 = 1)) (h4 : Hid (isP P = true)) (h5 : Hid (isP Q = true)) (h6 : Hid ((P - 1) % Q = 0)) (h7 : 2 ≤ G) (h8 : G < P)
    (hQ : Q < 9223372036854775808) (hb : Hid ((pw G Q P == 1) = b)) (w : World) (hv : Hid (Vars w)) :
    Calls Tryd.prog 50 #[gv P Q G] w fun e' w' => e' = .returned (.bool b) ∧ Below w.heap.size w w' := by
  have g3 : ((Q % 2 : Int) == 0) = false := by have := h3.out; simp; omega
  have g6 : (((P - 1) % Q : Int) == 0) = true := by rw [h6.out]; rfl
  have g6' : (((P - 1) % Q : Int) != 0) = false := by rw [h6.out]; rfl
  have g8 : decide (P ≤ G) = false := by simp; omega
  obtain ⟨x, hx⟩ : ∃ x, pw G Q P = x := ⟨_, rfl⟩
  have g9 : ((x : Int) == 1) = b := by rw [← hx]; exact hb.out
  have HX := Lib.hid hx
  clear hx
  go_enter Tryd.func50, Tryd.ntmps50
  go_wp2_with fail
  refine (is_any P (by omega) true h4 _ (hv.out.below (below_box0 _ _))).mono ?_
  rintro e w' ⟨rfl, n1, rfl⟩
  go_wp2_with fail
  refine (is_any Q (by omega) true h5 _ (hv.out.below (below_box _ _ _))).mono ?_
  rintro e w' ⟨rfl, n2, rfl⟩
  go_wp2_with fail
  refine (pow_ok G Q P (by omega) h1 (by omega) h8 (by omega) hQ _).mono ?_
  rintro e w' ⟨rfl, n3, rfl⟩
  rw [HX.out]
  go_wp2
  go_ret
  refine ⟨rfl, ?_⟩
  repeat (first | exact below_box _ _ _ | refine below_drawN ?_ _)
set_option maxHeartbeats 800000 in
theorem valid_a (P Q G : Int) (h1 : 2305843009213693952 ≤ P) (w : World) (hv : Hid (Vars w)) :
    Calls Tryd.prog 50 #[gv P Q G] w fun e' w' => e' = .returned (.bool false) ∧ Below w.heap.size w w' := by
  go_enter Tryd.func50, Tryd.ntmps50
  go_wp2
  go_ret
  refine ⟨rfl, ?_⟩
  repeat (first | exact below_box0 _ _ | exact below_box _ _ _ | refine below_drawN ?_ _)

set_option maxHeartbeats 800000 in
theorem valid_b (P Q G : Int) (h1 : P < 2305843009213693952) (h2 : Q < 3) (w : World) (hv : Hid (Vars w)) :
    Calls Tryd.prog 50 #[gv P Q G] w fun e' w' => e' = .returned (.bool false) ∧ Below w.heap.size w w' := by
  go_enter Tryd.func50, Tryd.ntmps50
  go_wp2
  go_ret
  refine ⟨rfl, ?_⟩
  repeat (first | exact below_box0 _ _ | exact below_box _ _ _ | refine below_drawN ?_ _)

set_option maxHeartbeats 800000 in
theorem valid_c (P Q G : Int) (h1 : P < 2305843009213693952) (h2 : 3 ≤ Q) (h3 : Hid (Q % 2 = 0)) (w : World) (hv : Hid (Vars w)) :
    Calls Tryd.prog 50 #[gv P Q G] w fun e' w' => e' = .returned (.bool false) ∧ Below w.heap.size w w' := by
  have g3 : ((Q % 2 : Int) == 0) = true := by rw [h3.out]; rfl
  go_enter Tryd.func50, Tryd.ntmps50
  go_wp2
  go_ret
  refine ⟨rfl, ?_⟩
  repeat (first | exact below_box0 _ _ | exact below_box _ _ _ | refine below_drawN ?_ _)

set_option maxHeartbeats 800000 in
theorem valid_d (P Q G : Int) (h1 : P < 2305843009213693952) (h2 : 3 ≤ Q) (h3 : Hid (Q % 2 = 1)) (h4 : Hid (isP P = false)) (w : World) (hv : Hid (Vars w)) :
    Calls Tryd.prog 50 #[gv P Q G] w fun e' w' => e' = .returned (.bool false) ∧ Below w.heap.size w w' := by
  have g3 : ((Q % 2 : Int) == 0) = false := by have := h3.out; simp; omega
  go_enter Tryd.func50, Tryd.ntmps50
  go_wp2_with fail
  refine (is_any P (by omega) false h4 _ (hv.out.below (below_box0 _ _))).mono ?_
  rintro e w' ⟨rfl, n1, rfl⟩
  go_wp2
  go_ret
  refine ⟨rfl, ?_⟩
  repeat (first | exact below_box0 _ _ | exact below_box _ _ _ | refine below_drawN ?_ _)

set_option maxHeartbeats 800000 in
theorem valid_e (P Q G : Int) (h1 : P < 2305843009213693952) (h2 : 3 ≤ Q) (h3 : Hid (Q % 2 = 1)) (h4 : Hid (isP P = true)) (h5 : Hid (isP Q = false)) (hQ : Q < 9223372036854775808) (w : World) (hv : Hid (Vars w)) :
    Calls Tryd.prog 50 #[gv P Q G] w fun e' w' => e' = .returned (.bool false) ∧ Below w.heap.size w w' := by
  have g3 : ((Q % 2 : Int) == 0) = false := by have := h3.out; simp; omega
  go_enter Tryd.func50, Tryd.ntmps50
  go_wp2_with fail
  refine (is_any P (by omega) true h4 _ (hv.out.below (below_box0 _ _))).mono ?_
  rintro e w' ⟨rfl, n1, rfl⟩
  go_wp2_with fail
  refine (is_any Q (by omega) false h5 _ (hv.out.below (below_box _ _ _))).mono ?_
  rintro e w' ⟨rfl, n2, rfl⟩
  go_wp2
  go_ret
  refine ⟨rfl, ?_⟩
  repeat (first | exact below_box0 _ _ | exact below_box _ _ _ | refine below_drawN ?_ _)

set_option maxHeartbeats 800000 in
theorem valid_f (P Q G : Int) (h1 : P < 2305843009213693952) (h2 : 3 ≤ Q) (h3 : Hid (Q % 2 = 1)) (h4 : Hid (isP P = true)) (h5 : Hid (isP Q = true)) (h6 : Hid ((P - 1) % Q ≠ 0)) (hp : 2 ≤ P) (hQ : Q < 9223372036854775808) (w : World) (hv : Hid (Vars w)) :
    Calls Tryd.prog 50 #[gv P Q G] w fun e' w' => e' = .returned (.bool false) ∧ Below w.heap.size w w' := by
  have g3 : ((Q % 2 : Int) == 0) = false := by have := h3.out; simp; omega
  have g6 : (((P - 1) % Q : Int) == 0) = false := by have := h6.out; simp; omega
  have g6' : (((P - 1) % Q : Int) != 0) = true := by have := h6.out; simp; omega
  go_enter Tryd.func50, Tryd.ntmps50
  go_wp2_with fail
  refine (is_any P (by omega) true h4 _ (hv.out.below (below_box0 _ _))).mono ?_
  rintro e w' ⟨rfl, n1, rfl⟩
  go_wp2_with fail
  refine (is_any Q (by omega) true h5 _ (hv.out.below (below_box _ _ _))).mono ?_
  rintro e w' ⟨rfl, n2, rfl⟩
  go_wp2
  go_ret
  refine ⟨rfl, ?_⟩
  repeat (first | exact below_box0 _ _ | exact below_box _ _ _ | refine below_drawN ?_ _)

set_option maxHeartbeats 800000 in
theorem valid_g (P Q G : Int) (h1 : P < 2305843009213693952) (h2 : 3 ≤ Q) (h3 : Hid (Q % 2 = 1)) (h4 : Hid (isP P = true)) (h5 : Hid (isP Q = true)) (h6 : Hid ((P - 1) % Q = 0)) (hp : 2 ≤ P) (hQ : Q < 9223372036854775808) (h7 : G < 2) (w : World) (hv : Hid (Vars w)) :
    Calls Tryd.prog 50 #[gv P Q G] w fun e' w' => e' = .returned (.bool false) ∧ Below w.heap.size w w' := by
  have g3 : ((Q % 2 : Int) == 0) = false := by have := h3.out; simp; omega
  have g6 : (((P - 1) % Q : Int) == 0) = true := by rw [h6.out]; rfl
  have g6' : (((P - 1) % Q : Int) != 0) = false := by rw [h6.out]; rfl
  go_enter Tryd.func50, Tryd.ntmps50
  go_wp2_with fail
  refine (is_any P (by omega) true h4 _ (hv.out.below (below_box0 _ _))).mono ?_
  rintro e w' ⟨rfl, n1, rfl⟩
  go_wp2_with fail
  refine (is_any Q (by omega) true h5 _ (hv.out.below (below_box _ _ _))).mono ?_
  rintro e w' ⟨rfl, n2, rfl⟩
  go_wp2
  go_ret
  refine ⟨rfl, ?_⟩
  repeat (first | exact below_box0 _ _ | exact below_box _ _ _ | refine below_drawN ?_ _)

set_option maxHeartbeats 800000 in
theorem valid_h (P Q G : Int) (h1 : P < 2305843009213693952) (h2 : 3 ≤ Q) (h3 : Hid (Q % 2 = 1)) (h4 : Hid (isP P = true)) (h5 : Hid (isP Q = true)) (h6 : Hid ((P - 1) % Q = 0)) (hp : 2 ≤ P) (hQ : Q < 9223372036854775808) (h7 : 2 ≤ G) (h8 : P ≤ G) (w : World) (hv : Hid (Vars w)) :
    Calls Tryd.prog 50 #[gv P Q G] w fun e' w' => e' = .returned (.bool false) ∧ Below w.heap.size w w' := by
  have g3 : ((Q % 2 : Int) == 0) = false := by have := h3.out; simp; omega
  have g6 : (((P - 1) % Q : Int) == 0) = true := by rw [h6.out]; rfl
  have g6' : (((P - 1) % Q : Int) != 0) = false := by rw [h6.out]; rfl
  go_enter Tryd.func50, Tryd.ntmps50
  go_wp2_with fail
  refine (is_any P (by omega) true h4 _ (hv.out.below (below_box0 _ _))).mono ?_
  rintro e w' ⟨rfl, n1, rfl⟩
  go_wp2_with fail
  refine (is_any Q (by omega) true h5 _ (hv.out.below (below_box _ _ _))).mono ?_
  rintro e w' ⟨rfl, n2, rfl⟩
  go_wp2
  go_ret
  refine ⟨rfl, ?_⟩
  repeat (first | exact below_box0 _ _ | exact below_box _ _ _ | refine below_drawN ?_ _)

/-- THE CONTRACT OF group.Valid. -/
theorem valid_any (P Q G : Int) (b : Bool) (hb : Hid (validG P Q G = b)) (hQ : Q < 9223372036854775808) (w : World) (hv : Hid (Vars w)) :
    Calls Tryd.prog 50 #[gv P Q G] w fun e' w' => e' = .returned (.bool b) ∧ Below w.heap.size w w' := by
  have hb' := hb.out
  unfold validG at hb'
  by_cases h1 : P < 2305843009213693952
  · by_cases h2 : 3 ≤ Q
    · by_cases h3 : Q % 2 = 1
      · cases h4 : isP P with
        | true =>
          have hp := isP_two h4
          cases h5 : isP Q with
          | true =>
            by_cases h6 : (P - 1) % Q = 0
            · by_cases h7 : 2 ≤ G
              · by_cases h8 : G < P
                · refine valid_true P Q G b h1 h2 h3 h4 h5 h6 h7 h8 hQ ?_ w hv
                  rw [← hb']
                  simp [h1, h2, h3, h4, h5, h6, h7, h8]
                  show ((pw G Q P == 1) = decide (pw G Q P = 1))
                  rfl
                · obtain rfl : b = false := by rw [← hb']; simp [h8]
                  exact valid_h P Q G h1 h2 h3 h4 h5 h6 hp hQ h7 (by omega) w hv
              · obtain rfl : b = false := by rw [← hb']; simp [h7]
                exact valid_g P Q G h1 h2 h3 h4 h5 h6 hp hQ (by omega) w hv
            · obtain rfl : b = false := by rw [← hb']; simp [h6]
              exact valid_f P Q G h1 h2 h3 h4 h5 h6 hp hQ w hv
          | false =>
            obtain rfl : b = false := by rw [← hb']; simp [h5]
            exact valid_e P Q G h1 h2 h3 h4 h5 hQ w hv
        | false =>
          obtain rfl : b = false := by rw [← hb']; simp [h4]
          exact valid_d P Q G h1 h2 h3 h4 w hv
      · obtain rfl : b = false := by rw [← hb']; simp [h3]
        exact valid_c P Q G h1 h2 (show Q % 2 = 0 by omega) w hv
    · obtain rfl : b = false := by rw [← hb']; simp [h2]
      exact valid_b P Q G h1 (by omega) w hv
  · obtain rfl : b = false := by rw [← hb']; simp [h1]
    exact valid_a P Q G (by omega) w hv
end Go.Proofs.YtijedphpcocfnaaDoor
