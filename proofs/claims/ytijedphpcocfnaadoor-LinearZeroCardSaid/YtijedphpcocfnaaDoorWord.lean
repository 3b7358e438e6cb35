/- The contracts of package word: products, sums, powers, and inverses modulo a number. -/
import Derived.Test.YtijedphpcocfnaaDoorDiv
import Derived.Outline
namespace Go.Proofs.YtijedphpcocfnaaDoor
open Go.RowKit SpM
set_option linter.unusedVariables false

theorem mul64_any (x y hi lo : Int) (hx0 : 0 ≤ x) (hx : x < 18446744073709551616) (hy0 : 0 ≤ y) (hy : y < 18446744073709551616)
    (hhi : Hid (x * y / 18446744073709551616 = hi)) (hlo : Hid (x * y % 18446744073709551616 = lo)) (w : World) :
    Calls Tryd.prog 111 #[.int .u64 x, .int .u64 y] w fun e w' => e = .returned (.tuple #[.int .u64 hi, .int .u64 lo]) ∧ w = w' := by
  obtain ⟨a, rfl⟩ := Int.eq_ofNat_of_zero_le hx0
  obtain ⟨b, rfl⟩ := Int.eq_ofNat_of_zero_le hy0
  refine (Tryd.bits_Mul64 a b (by omega) (by omega) w).mono ?_
  rintro e w' ⟨rfl, rfl⟩
  rw [← hhi.out, ← hlo.out]
  refine ⟨?_, rfl⟩
  simp

theorem mul_hi {a b m : Int} (ha0 : 0 ≤ a) (hb0 : 0 ≤ b) (hb : b < m) (ha : a < 18446744073709551616) : 0 ≤ a * b / 18446744073709551616 ∧ a * b / 18446744073709551616 < m := by
  have h0 : 0 ≤ a * b := Int.mul_nonneg ha0 hb0
  have h1 : a * b ≤ 18446744073709551616 * b := Int.mul_le_mul_of_nonneg_right (by omega) hb0
  omega

/-- the product of two words, modulo a third one; 64 bits. -/
theorem divmul (a b m : Int) : a * b / 18446744073709551616 * 18446744073709551616 + a * b % 18446744073709551616 = a * b := by omega

theorem mul_any (a b m : Int) (ha0 : 0 ≤ a) (ha : a < m) (hb0 : 0 ≤ b) (hb : b < m) (hm : m < 9223372036854775808) (w : World) :
    Calls Tryd.prog 93 #[.int .i64 a, .int .i64 b, .int .i64 m] w fun e w' => e = .returned (.int .i64 (a * b % m)) ∧ ∃ n, w' = w.drewN n := by
  have h1 := mul_hi ha0 hb0 hb (by omega)
  have h2 := divmul a b m
  have h3 : 0 ≤ a * b % m := Int.emod_nonneg _ (by omega)
  have h4 : a * b % m < m := Int.emod_lt_of_pos _ (by omega)
  obtain ⟨hi, hhi⟩ : ∃ hi, a * b / 18446744073709551616 = hi := ⟨_, rfl⟩
  obtain ⟨lo, hlo⟩ : ∃ lo, a * b % 18446744073709551616 = lo := ⟨_, rfl⟩
  have h5 : 0 ≤ lo ∧ lo < 18446744073709551616 := by omega
  obtain ⟨r, hr⟩ : ∃ r, a * b % m = r := ⟨_, rfl⟩
  rw [hr] at h3 h4 ⊢
  rw [hhi] at h1 h2
  rw [hlo] at h2
  rw [← h2] at hr
  obtain ⟨h10, h11⟩ := h1
  obtain ⟨h50, h51⟩ := h5
  have HHI := Lib.hid hhi
  have HLO := Lib.hid hlo
  have HR := Lib.hid hr
  clear hhi hlo hr h2
  go_enter Tryd.func93, Tryd.ntmps93
  go_wp2_with fail
  refine (mul64_any a b hi lo (by omega) (by omega) (by omega) (by omega) HHI HLO _).mono ?_
  rintro e w' ⟨rfl, rfl⟩
  go_wp2_with fail
  refine (div64_any hi lo m h10 h11 hm h50 h51 _).mono ?_
  rintro e w' ⟨rfl, n, rfl⟩
  rw [HR.out]
  go_wp2
  go_ret
  exact ⟨rfl, n, rfl⟩

/-- the error of a modulus and two integers that must be residues. -/
def chk (a b m : Int) : Int := if m < 1 ∨ 2305843009213693952 ≤ m then 1 else if (0 ≤ a ∧ a < m) ∧ (0 ≤ b ∧ b < m) then 0 else 2

theorem residue_t (a m : Int) (h0 : 0 ≤ a) (h1 : a < m) (w : World) :
    Calls Tryd.prog 110 #[.int .i64 a, .int .i64 m] w fun e w' => e = .returned (.bool true) ∧ w = w' := by
  go_enter Tryd.func110, Tryd.ntmps110
  go_wp2
  go_ret
  exact ⟨rfl, rfl⟩

theorem residue_f (a m : Int) (h : ¬ (0 ≤ a ∧ a < m)) (w : World) :
    Calls Tryd.prog 110 #[.int .i64 a, .int .i64 m] w fun e w' => e = .returned (.bool false) ∧ w = w' := by
  by_cases h0 : 0 ≤ a
  · have h1 : decide (a < m) = false := by simp; omega
    clear h
    go_enter Tryd.func110, Tryd.ntmps110
    go_wp2
    go_ret
    exact ⟨rfl, rfl⟩
  · clear h
    go_enter Tryd.func110, Tryd.ntmps110
    go_wp2
    go_ret
    exact ⟨rfl, rfl⟩

theorem check_any (a b m : Int) (w : World) :
    Calls Tryd.prog 92 #[.int .i64 a, .int .i64 b, .int .i64 m] w fun e w' => e = .returned (.int .i64 (chk a b m)) ∧ w = w' := by
  by_cases hm : m < 1
  · have hfin : chk a b m = 1 := by simp [chk, hm]
    rw [hfin]
    clear hfin
    go_enter Tryd.func92, Tryd.ntmps92
    go_wp2
    go_ret
    exact ⟨rfl, rfl⟩
  by_cases hm2 : 2305843009213693952 ≤ m
  · have hfin : chk a b m = 1 := by simp [chk, hm2]
    rw [hfin]
    clear hfin
    go_enter Tryd.func92, Tryd.ntmps92
    go_wp2
    go_ret
    exact ⟨rfl, rfl⟩
  by_cases ha : 0 ≤ a ∧ a < m
  · by_cases hb : 0 ≤ b ∧ b < m
    · have hfin : chk a b m = 0 := by simp [chk, hm, hm2, ha, hb]
      rw [hfin]
      obtain ⟨ha0, ha1⟩ := ha
      obtain ⟨hb0, hb1⟩ := hb
      clear hfin
      go_enter Tryd.func92, Tryd.ntmps92
      go_wp2_with (first | (go_at_call 110; refine (residue_t _ _ (by assumption) (by assumption) _).mono ?_; rintro e w' ⟨rfl, rfl⟩))
      go_ret
      exact ⟨rfl, rfl⟩
    · have hfin : chk a b m = 2 := by simp [chk, hm, hm2]; omega
      rw [hfin]
      obtain ⟨ha0, ha1⟩ := ha
      clear hfin
      go_enter Tryd.func92, Tryd.ntmps92
      go_wp2_with fail
      refine (residue_t _ _ ha0 ha1 _).mono ?_; rintro e w' ⟨rfl, rfl⟩
      go_wp2_with fail
      refine (residue_f _ _ hb _).mono ?_; rintro e w' ⟨rfl, rfl⟩
      go_wp2
      go_ret
      exact ⟨rfl, rfl⟩
  · have hfin : chk a b m = 2 := by simp [chk, hm, hm2]; omega
    rw [hfin]
    clear hfin
    go_enter Tryd.func92, Tryd.ntmps92
    go_wp2_with fail
    refine (residue_f _ _ ha _).mono ?_; rintro e w' ⟨rfl, rfl⟩
    go_wp2
    go_ret
    exact ⟨rfl, rfl⟩
end Go.Proofs.YtijedphpcocfnaaDoor
