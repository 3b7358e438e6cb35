/- The contracts of package word, second part: sums, products, powers, and inverses. -/
import Derived.Test.YtijedphpcocfnaaDoorWord
import Derived.Test.YtijedphpcocfnaaDoorMod
namespace Go.Proofs.YtijedphpcocfnaaDoor
open Go.RowKit SpM
set_option linter.unusedVariables false

theorem chk_ok {a b m : Int} (h1 : 1 ≤ m) (h2 : m < 2305843009213693952) (ha0 : 0 ≤ a) (ha : a < m) (hb0 : 0 ≤ b) (hb : b < m) : chk a b m = 0 := by
  simp [chk]; omega

theorem add_ok (a b m : Int) (h2 : m < 2305843009213693952) (ha0 : 0 ≤ a) (ha : a < m) (hb0 : 0 ≤ b) (hb : b < m) (w : World) :
    Calls Tryd.prog 96 #[.int .i64 a, .int .i64 b, .int .i64 m] w fun e w' => e = .returned (.tuple #[.int .i64 ((a + b) % m), .int .i64 0]) ∧ w = w' := by
  have hc := Lib.hid (chk_ok (by omega) h2 ha0 ha hb0 hb)
  have hm : ((m : Int) == 0) = false := by simp; omega
  go_enter Tryd.func96, Tryd.ntmps96
  go_wp2_with (go_at_call 92; refine (check_any _ _ _ _).mono ?_; rintro e w' ⟨rfl, rfl⟩; rw [hc.out])
  go_ret2
  exact ⟨rfl, rfl⟩

theorem sub_ok (a b m : Int) (h2 : m < 2305843009213693952) (ha0 : 0 ≤ a) (ha : a < m) (hb0 : 0 ≤ b) (hb : b < m) (w : World) :
    Calls Tryd.prog 82 #[.int .i64 a, .int .i64 b, .int .i64 m] w fun e w' => e = .returned (.tuple #[.int .i64 ((a - b + m) % m), .int .i64 0]) ∧ w = w' := by
  have hc := Lib.hid (chk_ok (by omega) h2 ha0 ha hb0 hb)
  have hm : ((m : Int) == 0) = false := by simp; omega
  go_enter Tryd.func82, Tryd.ntmps82
  go_wp2_with (go_at_call 92; refine (check_any _ _ _ _).mono ?_; rintro e w' ⟨rfl, rfl⟩; rw [hc.out])
  go_ret2
  exact ⟨rfl, rfl⟩

theorem wmul_ok (a b m : Int) (h2 : m < 2305843009213693952) (ha0 : 0 ≤ a) (ha : a < m) (hb0 : 0 ≤ b) (hb : b < m) (w : World) :
    Calls Tryd.prog 61 #[.int .i64 a, .int .i64 b, .int .i64 m] w fun e w' => e = .returned (.tuple #[.int .i64 (a * b % m), .int .i64 0]) ∧ ∃ n, w' = w.drewN n := by
  have hc := Lib.hid (chk_ok (by omega) h2 ha0 ha hb0 hb)
  go_enter Tryd.func61, Tryd.ntmps61
  go_wp2_with (go_at_call 92; refine (check_any _ _ _ _).mono ?_; rintro e w' ⟨rfl, rfl⟩; rw [hc.out])
  refine (mul_any _ _ _ ha0 ha hb0 hb (by omega) _).mono ?_
  rintro e w' ⟨rfl, n, rfl⟩
  go_wp2
  go_ret2
  exact ⟨rfl, n, rfl⟩
end Go.Proofs.YtijedphpcocfnaaDoor
