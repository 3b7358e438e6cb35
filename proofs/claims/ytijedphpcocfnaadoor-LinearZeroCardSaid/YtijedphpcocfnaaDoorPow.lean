/- The contract of word.Pow and of word.Reduce. -/
import Derived.Test.YtijedphpcocfnaaDoorWordB
namespace Go.Proofs.YtijedphpcocfnaaDoor
open Go.RowKit SpM
set_option linter.unusedVariables false

set_option maxHeartbeats 800000 in
theorem pow_ok (a e m : Int) (h1 : 1 ≤ m) (h2 : m < 2305843009213693952) (ha0 : 0 ≤ a) (ha : a < m) (he0 : 0 ≤ e) (he : e < 9223372036854775808) (w : World) :
    Calls Tryd.prog 76 #[.int .i64 a, .int .i64 e, .int .i64 m] w fun e' w' => e' = .returned (.tuple #[.int .i64 (pw a e m), .int .i64 0]) ∧ ∃ n, w' = w.drewN n := by
  have hc := Lib.hid (chk_ok (by omega) h2 ha0 ha ha0 ha)
  have hm : ((m : Int) == 0) = false := by simp; omega
  have hlt : decide (e < 0) = false := by simp; omega
  have hx1 : Hid (0 ≤ 1 % m ∧ 1 % m < m) := ⟨Int.emod_nonneg _ (by omega), Int.emod_lt_of_pos _ (by omega)⟩
  have HS : Hid (PowRel a e m a e (1 % m)) := powRel_start a e m
  go_enter Tryd.func76, Tryd.ntmps76
  go_wp2_with (go_at_call 92; refine (check_any _ _ _ _).mono ?_; rintro e w' ⟨rfl, rfl⟩; rw [hc.out])
  go_loopw [0, 1, 9] (fun u v t wr => ∃ a' e' x' : Int, u = .int .i64 a' ∧ v = .int .i64 e' ∧ t = .int .i64 x' ∧ 0 ≤ a' ∧ a' < m ∧ 0 ≤ e' ∧ e' < 9223372036854775808 ∧ 0 ≤ x' ∧ x' < m ∧ Hid (PowRel a e m a' e' x') ∧ ∃ n, wr = w.drewN n) (fun _ v _ _ => (intOf v).toNat)
  case atStart => exact ⟨a, e, 1 % m, rfl, rfl, rfl, ha0, ha, he0, he, hx1.out.1, hx1.out.2, HS, 0, rfl⟩
  case round =>
    obtain ⟨a', e', x', rfl, rfl, rfl, ha0', ha', he0', he', hx0', hx', HR, n, rfl⟩ := hrel
    by_cases h0 : e' = 0
    · subst h0
      obtain rfl := powRel_done HR.out hx0' hx'
      clear HR hx0' hx'
      go_wp2
      go_ret2
      exact ⟨rfl, n, rfl⟩
    · have hpos : decide (0 < e') = true := by simp; omega
      have hpp : 1 ≤ e' := by omega
      have hand := i64_and1 e' he0' he'
      have hq0 : 0 ≤ a' * a' % m := Int.emod_nonneg _ (by omega)
      have hq1 : a' * a' % m < m := Int.emod_lt_of_pos _ (by omega)
      by_cases ho : e' % 2 = 1
      · have hand1 : bits .and .i64 e' 1 = 1 := by rw [hand, ho]
        have hp0 : 0 ≤ x' * a' % m := Int.emod_nonneg _ (by omega)
        have hp1 : x' * a' % m < m := Int.emod_lt_of_pos _ (by omega)
        have HN : Hid (PowRel a e m (a' * a' % m) (e' / 2) (x' * a' % m)) := powRel_odd HR.out (by omega) (by omega)
        obtain ⟨q, hq⟩ : ∃ q, a' * a' % m = q := ⟨_, rfl⟩
        obtain ⟨p, hp⟩ : ∃ p, x' * a' % m = p := ⟨_, rfl⟩
        rw [hq] at hq0 hq1 HN
        rw [hp] at hp0 hp1 HN
        have HQ := Lib.hid hq
        have HP := Lib.hid hp
        clear hq hp hand ho h0
        go_wp2_with fail
        refine (mul_any _ _ _ hx0' hx' ha0' ha' (by omega) _).mono ?_
        rintro e w' ⟨rfl, n1, rfl⟩
        rw [HP.out]
        go_wp2_with fail
        refine (mul_any _ _ _ ha0' ha' ha0' ha' (by omega) _).mono ?_
        rintro e w' ⟨rfl, n2, rfl⟩
        rw [HQ.out]
        go_wp2
        go_roundw
        case rel => exact ⟨q, e' / 2, p, rfl, rfl, rfl, hq0, hq1, by omega, by omega, hp0, hp1, HN, _, rfl⟩
        case measure => simp [intOf]; omega
      · have hand1 : bits .and .i64 e' 1 = 0 := by rw [hand]; omega
        have HN : Hid (PowRel a e m (a' * a' % m) (e' / 2) x') := powRel_even HR.out (by omega) (by omega)
        obtain ⟨q, hq⟩ : ∃ q, a' * a' % m = q := ⟨_, rfl⟩
        rw [hq] at hq0 hq1 HN
        have HQ := Lib.hid hq
        clear hq hand ho h0
        go_wp2_with fail
        refine (mul_any _ _ _ ha0' ha' ha0' ha' (by omega) _).mono ?_
        rintro e w' ⟨rfl, n2, rfl⟩
        rw [HQ.out]
        go_wp2
        go_roundw
        case rel => exact ⟨q, e' / 2, x', rfl, rfl, rfl, hq0, hq1, by omega, by omega, hx0', hx', HN, _, rfl⟩
        case measure => simp [intOf]; omega
end Go.Proofs.YtijedphpcocfnaaDoor
