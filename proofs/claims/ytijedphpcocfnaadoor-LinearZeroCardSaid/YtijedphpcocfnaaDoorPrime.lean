/- The contracts of package prime: products, powers, and the test of primes. -/
import Derived.Test.YtijedphpcocfnaaDoorPow
import Derived.Test.YtijedphpcocfnaaDoorMr
namespace Go.Proofs.YtijedphpcocfnaaDoor
open Go.RowKit SpM
set_option linter.unusedVariables false

theorem pmul_any (a b m : Int) (ha0 : 0 ≤ a) (ha : a < m) (hb0 : 0 ≤ b) (hb : b < m) (hm : m < 9223372036854775808) (w : World) :
    Calls Tryd.prog 122 #[.int .u64 a, .int .u64 b, .int .u64 m] w fun e w' => e = .returned (.int .u64 (a * b % m)) ∧ ∃ n, w' = w.drewN n := by
  have h1 := mul_hi ha0 hb0 hb (by omega)
  have h2 := divmul a b m
  obtain ⟨hi, hhi⟩ : ∃ hi, a * b / 18446744073709551616 = hi := ⟨_, rfl⟩
  obtain ⟨lo, hlo⟩ : ∃ lo, a * b % 18446744073709551616 = lo := ⟨_, rfl⟩
  have h5 : 0 ≤ lo ∧ lo < 18446744073709551616 := by omega
  obtain ⟨r, hr⟩ : ∃ r, a * b % m = r := ⟨_, rfl⟩
  rw [hr]
  rw [hhi] at h1 h2
  rw [hlo] at h2
  rw [← h2] at hr
  obtain ⟨h10, h11⟩ := h1
  obtain ⟨h50, h51⟩ := h5
  have HHI := Lib.hid hhi
  have HLO := Lib.hid hlo
  have HR := Lib.hid hr
  clear hhi hlo hr h2
  go_enter Tryd.func122, Tryd.ntmps122
  go_wp2_with fail
  refine (mul64_any a b hi lo (by omega) (by omega) (by omega) (by omega) HHI HLO _).mono ?_
  rintro e w' ⟨rfl, rfl⟩
  go_wp2_with fail
  refine (div64_any hi lo m h10 h11 hm h50 h51 _).mono ?_
  rintro e w' ⟨rfl, n, rfl⟩
  rw [HR.out]
  go_wp2
  go_ret
  exact ⟨rfl, n, rfl⟩

set_option maxHeartbeats 800000 in
theorem ppow_ok (a e m : Int) (h1 : 2 ≤ m) (h2 : m < 9223372036854775808) (ha0 : 0 ≤ a) (ha : a < m) (he0 : 0 ≤ e) (he : e < 9223372036854775808) (w : World) :
    Calls Tryd.prog 121 #[.int .u64 a, .int .u64 e, .int .u64 m] w fun e' w' => e' = .returned (.int .u64 (pw a e m)) ∧ ∃ n, w' = w.drewN n := by
  have HS : Hid (PowRel a e m a e 1) := by have h := powRel_start a e m; rw [Int.emod_eq_of_lt (by decide) (by omega)] at h; exact h
  go_enter Tryd.func121, Tryd.ntmps121
  go_wp2
  go_loopw [0, 1, 7] (fun u v t wr => ∃ a' e' x' : Int, u = .int .u64 a' ∧ v = .int .u64 e' ∧ t = .int .u64 x' ∧ 0 ≤ a' ∧ a' < m ∧ 0 ≤ e' ∧ e' < 9223372036854775808 ∧ 0 ≤ x' ∧ x' < m ∧ Hid (PowRel a e m a' e' x') ∧ ∃ n, wr = w.drewN n) (fun _ v _ _ => (intOf v).toNat)
  case atStart => exact ⟨a, e, 1, rfl, rfl, rfl, ha0, ha, he0, he, by decide, by omega, HS, 0, rfl⟩
  case round =>
    obtain ⟨a', e', x', rfl, rfl, rfl, ha0', ha', he0', he', hx0', hx', HR, n, rfl⟩ := hrel
    by_cases h0 : e' = 0
    · subst h0
      obtain rfl := powRel_done HR.out hx0' hx'
      clear HR hx0' hx'
      go_wp2
      go_ret
      exact ⟨rfl, n, rfl⟩
    · have hpos : decide (0 < e') = true := by simp; omega
      have hpp : 1 ≤ e' := by omega
      have hand := u64_and1 e' he0' (by omega)
      have hq0 : 0 ≤ a' * a' % m := Int.emod_nonneg _ (by omega)
      have hq1 : a' * a' % m < m := Int.emod_lt_of_pos _ (by omega)
      by_cases ho : e' % 2 = 1
      · have hand1 : bits .and .u64 e' 1 = 1 := by rw [hand, ho]
        have hp0 : 0 ≤ x' * a' % m := Int.emod_nonneg _ (by omega)
        have hp1 : x' * a' % m < m := Int.emod_lt_of_pos _ (by omega)
        have HN : Hid (PowRel a e m (a' * a' % m) (e' / 2) (x' * a' % m)) := powRel_odd HR.out (by omega) (by omega)
        obtain ⟨q, hq⟩ : ∃ q, a' * a' % m = q := ⟨_, rfl⟩
        obtain ⟨p, hp⟩ : ∃ p, x' * a' % m = p := ⟨_, rfl⟩
        rw [hq] at hq0 hq1 HN
        rw [hp] at hp0 hp1 HN
        have HQ := Lib.hid hq
        have HP := Lib.hid hp
        clear hq hp hand ho h0
        go_wp2_with fail
        refine (pmul_any _ _ _ hx0' hx' ha0' ha' (by omega) _).mono ?_
        rintro e w' ⟨rfl, n1, rfl⟩
        rw [HP.out]
        go_wp2_with fail
        refine (pmul_any _ _ _ ha0' ha' ha0' ha' (by omega) _).mono ?_
        rintro e w' ⟨rfl, n2, rfl⟩
        rw [HQ.out]
        go_wp2
        go_roundw
        case rel => exact ⟨q, e' / 2, p, rfl, rfl, rfl, hq0, hq1, by omega, by omega, hp0, hp1, HN, _, rfl⟩
        case measure => simp [intOf]; omega
      · have hand1 : bits .and .u64 e' 1 = 0 := by rw [hand]; omega
        have HN : Hid (PowRel a e m (a' * a' % m) (e' / 2) x') := powRel_even HR.out (by omega) (by omega)
        obtain ⟨q, hq⟩ : ∃ q, a' * a' % m = q := ⟨_, rfl⟩
        rw [hq] at hq0 hq1 HN
        have HQ := Lib.hid hq
        clear hq hand ho h0
        go_wp2_with fail
        refine (pmul_any _ _ _ ha0' ha' ha0' ha' (by omega) _).mono ?_
        rintro e w' ⟨rfl, n2, rfl⟩
        rw [HQ.out]
        go_wp2
        go_roundw
        case rel => exact ⟨q, e' / 2, x', rfl, rfl, rfl, hq0, hq1, by omega, by omega, hx0', hx', HN, _, rfl⟩
        case measure => simp [intOf]; omega
end Go.Proofs.YtijedphpcocfnaaDoor
