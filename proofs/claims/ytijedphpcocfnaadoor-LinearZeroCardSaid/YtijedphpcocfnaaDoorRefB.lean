/- The contract of the reference's strong test. -/
import Derived.Test.YtijedphpcocfnaaDoorRefA
import Derived.Test.YtijedphpcocfnaaDoorPrimeB
namespace Go.Proofs.YtijedphpcocfnaaDoor
open Go.RowKit SpM
set_option linter.unusedVariables false

theorem halve {t j : Nat} {q e : Int} (hj : j < t) (he : e = 2 ^ (t - j) * q) : e % 2 = 0 ∧ e / 2 = 2 ^ (t - (j + 1)) * q := by
  have h : t - j = (t - (j + 1)) + 1 := by omega
  rw [h, Int.pow_succ, Int.mul_right_comm] at he
  omega

set_option maxHeartbeats 1600000 in
theorem strong_any (n a : Int) (h1 : 3 ≤ n) (h2 : n < 2305843009213693952) (ha0 : 0 ≤ a) (ha : a < n) (hodd : n % 2 = 1) (c : Bool) (hc : Hid (comp a n (odd1 n) (twos n) = c)) (w : World) :
    Calls Tryd.prog 103 #[.int .i64 n, .int .i64 a] w fun e' w' => e' = .returned (.bool (!c)) ∧ w = w' := by
  obtain ⟨ht1, m, hm0, hm1, hm2⟩ := twos_spec (show 2 ≤ n by omega) (by omega)
  obtain ⟨s, hs⟩ : ∃ s, twos n = s := ⟨_, rfl⟩
  obtain ⟨d, hd⟩ : ∃ d, odd1 n = d := ⟨_, rfl⟩
  rw [hs] at hm1 ht1
  rw [hd] at hm2
  rw [hs, hd] at hc
  have hs1 : 1 ≤ s := by
    cases s with
    | zero => simp at hm1; omega
    | succ j => omega
  have hd0 : 0 ≤ d := by omega
  have hd2 : d % 2 = 1 := by omega
  have hm3 : n - 1 = 2 ^ s * d := by rw [hm2]; exact hm1
  have HM : Hid (n - 1 = 2 ^ (s - 0) * d) := hm3
  have hdn : d ≤ n - 1 := by
    rw [hm3]
    have h3 : (0 : Int) < 2 ^ s := Int.pow_pos (by decide)
    have h4 : 1 * d ≤ 2 ^ s * d := Int.mul_le_mul_of_nonneg_right (by omega) hd0
    omega
  have hb := pw_lt a d n (by omega)
  obtain ⟨x, hx⟩ : ∃ x, pw a d n = x := ⟨_, rfl⟩
  rw [hx] at hb
  obtain ⟨hb0, hb1⟩ := hb
  have HX := Lib.hid hx
  have HD2 := Lib.hid hd2
  clear hx hm1 hm2 hm3 hs hd hd2 hodd hm0
  go_enter Tryd.func103, Tryd.ntmps103
  go_wp2
  go_loop [5, 6] (fun u v => ∃ (j : Nat) (e : Int), u = .int .i64 e ∧ v = .int .i64 j ∧ j ≤ s ∧ 0 ≤ e ∧ e ≤ n - 1 ∧ Hid (e = 2 ^ (s - j) * d)) (fun _ v => s - (intOf v).toNat)
  case atStart => exact ⟨0, n - 1, rfl, rfl, by omega, by omega, by omega, HM⟩
  case round =>
    obtain ⟨j, e, rfl, rfl, hj, he0, he1, HE⟩ := hrel
    by_cases hlt : j < s
    · obtain ⟨g1, g2⟩ := halve hlt HE.out
      have g3 : ((e % 2 : Int) == 0) = true := by simp [g1]
      have HN := Lib.hid g2
      clear g1 g2
      go_wp2
      go_round
      case rel => exact ⟨j + 1, e / 2, rfl, by go_num, by omega, by omega, by omega, HN⟩
      case measure => simp [intOf]; omega
    · obtain rfl : j = s := by omega
      obtain rfl : e = d := by have := HE.out; rw [Nat.sub_self, Int.pow_zero, Int.one_mul] at this; exact this
      have g3 : ((e % 2 : Int) == 0) = false := by have := HD2.out; simp; omega
      clear HE HM
      by_cases hx1 : x = 1
      · subst hx1
        obtain rfl : c = false := by rw [← hc.out]; exact comp_one HX.out (.inl rfl)
        go_wp2_with fail
        refine (rpow_any a e n 1 HX (by omega) h2 ha0 ha he0 (by omega) _).mono ?_
        rintro e w' ⟨rfl, rfl⟩
        go_wp2
        go_ret
        exact ⟨rfl, rfl⟩
      by_cases hx2 : x = n - 1
      · have g1 : ((x : Int) == 1) = false := by simp [hx1]
        have g2 : ((x : Int) == n - 1) = true := by simp [hx2]
        obtain rfl : c = false := by rw [← hc.out]; exact comp_one HX.out (.inr hx2)
        clear hx1 hx2
        go_wp2_with fail
        refine (rpow_any a e n x HX (by omega) h2 ha0 ha he0 (by omega) _).mono ?_
        rintro e w' ⟨rfl, rfl⟩
        go_wp2
        go_ret
        exact ⟨rfl, rfl⟩
      have g1 : ((x : Int) == 1) = false := by simp [hx1]
      have g2 : ((x : Int) == n - 1) = false := by simp [hx2]
      have HS : Hid (sq n (j - 1) x = c) := by rw [← hc.out]; exact (comp_loop HX.out hx1 hx2).symm
      clear hx1 hx2
      go_wp2_with fail
      refine (rpow_any a e n x HX (by omega) h2 ha0 ha he0 (by omega) _).mono ?_
      rintro e w' ⟨rfl, rfl⟩
      go_wp2
      go_loop [7, 8] (fun u v => ∃ (k : Nat) (y : Int), u = .int .i64 y ∧ v = .int .i64 ((k : Int) + 1) ∧ k + 1 ≤ j ∧ 0 ≤ y ∧ y < n ∧ Hid (sq n (j - 1 - k) y = c)) (fun _ v => j - (intOf v).toNat)
      case atStart => exact ⟨0, x, rfl, rfl, hs1, hb0, hb1, HS⟩
      case round =>
        obtain ⟨k, y, rfl, rfl, hk, hy0, hy1, HR⟩ := hrel
        by_cases hlt : k + 1 < j
        · have hd : decide ((k : Int) + 1 < (j : Int)) = true := by simp; omega
          have hz0 : 0 ≤ y * y % n := Int.emod_nonneg _ (by omega)
          have hz1 : y * y % n < n := Int.emod_lt_of_pos _ (by omega)
          obtain ⟨z, hz⟩ : ∃ z, y * y % n = z := ⟨_, rfl⟩
          rw [hz] at hz0 hz1
          have HZ := Lib.hid hz
          clear hz
          by_cases hzn : z = n - 1
          · have g4 : ((z : Int) == n - 1) = true := by simp [hzn]
            obtain rfl : c = false := by rw [← HR.out]; exact sq_hit (by omega) HZ.out hzn
            clear hzn
            go_wp2_with fail
            refine (rmul_any _ _ _ z HZ h2 hy0 hy1 hy0 hy1 _).mono ?_
            rintro e w' ⟨rfl, rfl⟩
            go_wp2
            go_ret
            exact ⟨rfl, rfl⟩
          · have g4 : ((z : Int) == n - 1) = false := by simp [hzn]
            have HN : Hid (sq n (j - 1 - (k + 1)) z = c) := by rw [← HR.out, sq_step (j := j - 1 - k) (by omega) HZ.out hzn]; rfl
            clear hzn
            go_wp2_with fail
            refine (rmul_any _ _ _ z HZ h2 hy0 hy1 hy0 hy1 _).mono ?_
            rintro e w' ⟨rfl, rfl⟩
            go_wp2
            go_round
            case rel => exact ⟨k + 1, z, rfl, by go_num, by omega, hz0, hz1, HN⟩
            case measure => simp [intOf]; omega
        · have hd : decide ((k : Int) + 1 < (j : Int)) = false := by simp; omega
          obtain rfl : c = true := by rw [← HR.out, show j - 1 - k = 0 from by omega]; rfl
          go_wp2
          go_ret
          exact ⟨rfl, rfl⟩
end Go.Proofs.YtijedphpcocfnaaDoor
