/- The contracts of prime.composite and prime.Is. -/
import Derived.Test.YtijedphpcocfnaaDoorPrime
namespace Go.Proofs.YtijedphpcocfnaaDoor
open Go.RowKit SpM
set_option linter.unusedVariables false

theorem comp_one {a n d x : Int} {s : Nat} (hx : pw a d n = x) (h : x = 1 ∨ x = n - 1) : comp a n d s = false := by
  unfold comp; rw [hx, if_pos h]
theorem comp_loop {a n d x : Int} {s : Nat} (hx : pw a d n = x) (h1 : x ≠ 1) (h2 : x ≠ n - 1) : comp a n d s = sq n (s - 1) x := by
  unfold comp; rw [hx, if_neg (by omega)]
theorem sq_hit {n y z : Int} {j : Nat} (hj : 1 ≤ j) (hz : y * y % n = z) (h : z = n - 1) : sq n j y = false := by
  obtain ⟨i, rfl⟩ : ∃ i, j = i + 1 := ⟨j - 1, by omega⟩
  unfold sq; rw [hz, if_pos h]
theorem sq_step {n y z : Int} {j : Nat} (hj : 1 ≤ j) (hz : y * y % n = z) (h : z ≠ n - 1) : sq n j y = sq n (j - 1) z := by
  obtain ⟨i, rfl⟩ : ∃ i, j = i + 1 := ⟨j - 1, by omega⟩
  rw [sq, hz, if_neg h]; rfl

set_option maxHeartbeats 800000 in
theorem composite_any (a n d : Int) (s : Nat) (h1 : 2 ≤ n) (h2 : n < 9223372036854775808) (ha0 : 0 ≤ a) (ha : a < n) (he0 : 0 ≤ d) (he : d < 9223372036854775808) (hs1 : 1 ≤ s) (hs2 : s < 64) (c : Bool) (hc : Hid (comp a n d s = c)) (w : World) :
    Calls Tryd.prog 109 #[.int .u64 a, .int .u64 n, .int .u64 d, .int .i64 s] w fun e' w' => e' = .returned (.bool c) ∧ ∃ n, w' = w.drewN n := by
  have hb := pw_lt a d n (by omega)
  obtain ⟨x, hx⟩ : ∃ x, pw a d n = x := ⟨_, rfl⟩
  rw [hx] at hb
  obtain ⟨hb0, hb1⟩ := hb
  have HX := Lib.hid hx
  clear hx
  by_cases hx1 : x = 1
  · subst hx1
    obtain rfl : c = false := by rw [← hc.out]; exact comp_one HX.out (.inl rfl)
    go_enter Tryd.func109, Tryd.ntmps109
    go_wp2_with fail
    refine (ppow_ok a d n h1 h2 ha0 ha he0 he _).mono ?_
    rintro e w' ⟨rfl, m, rfl⟩
    rw [HX.out]
    go_wp2
    go_ret
    exact ⟨rfl, m, rfl⟩
  by_cases hx2 : x = n - 1
  · have g1 : ((x : Int) == 1) = false := by simp [hx1]
    have g2 : ((x : Int) == n - 1) = true := by simp [hx2]
    obtain rfl : c = false := by rw [← hc.out]; exact comp_one HX.out (.inr hx2)
    clear hx1 hx2
    go_enter Tryd.func109, Tryd.ntmps109
    go_wp2_with fail
    refine (ppow_ok a d n h1 h2 ha0 ha he0 he _).mono ?_
    rintro e w' ⟨rfl, m, rfl⟩
    rw [HX.out]
    go_wp2
    go_ret
    exact ⟨rfl, m, rfl⟩
  have g1 : ((x : Int) == 1) = false := by simp [hx1]
  have g2 : ((x : Int) == n - 1) = false := by simp [hx2]
  have HS : Hid (sq n (s - 1) x = c) := by rw [← hc.out]; exact (comp_loop HX.out hx1 hx2).symm
  clear hx1 hx2
  go_enter Tryd.func109, Tryd.ntmps109
  go_wp2_with fail
  refine (ppow_ok a d n h1 h2 ha0 ha he0 he _).mono ?_
  rintro e w' ⟨rfl, m, rfl⟩
  rw [HX.out]
  go_wp2
  go_loopw [9, 24] (fun u v wr => ∃ (k : Nat) (y : Int), u = .int .u64 y ∧ v = .int .i64 k ∧ k + 1 ≤ s ∧ 0 ≤ y ∧ y < n ∧ Hid (sq n (s - 1 - k) y = c) ∧ ∃ n, wr = w.drewN n) (fun _ v _ => s - (intOf v).toNat)
  case atStart => exact ⟨0, x, rfl, rfl, hs1, hb0, hb1, HS, m, rfl⟩
  case round =>
    obtain ⟨k, y, rfl, rfl, hk, hy0, hy1, HR, m2, rfl⟩ := hrel
    by_cases hlt : k + 1 < s
    · have hd : decide ((k : Int) < (s : Int) - 1) = true := by simp; omega
      have hz0 : 0 ≤ y * y % n := Int.emod_nonneg _ (by omega)
      have hz1 : y * y % n < n := Int.emod_lt_of_pos _ (by omega)
      obtain ⟨z, hz⟩ : ∃ z, y * y % n = z := ⟨_, rfl⟩
      rw [hz] at hz0 hz1
      have HZ := Lib.hid hz
      clear hz
      by_cases hzn : z = n - 1
      · have g3 : ((z : Int) == n - 1) = true := by simp [hzn]
        obtain rfl : c = false := by rw [← HR.out]; exact sq_hit (by omega) HZ.out hzn
        clear hzn
        go_wp2_with fail
        refine (pmul_any _ _ _ hy0 hy1 hy0 hy1 h2 _).mono ?_
        rintro e w' ⟨rfl, m3, rfl⟩
        rw [HZ.out]
        go_wp2
        go_ret
        exact ⟨rfl, _, rfl⟩
      · have g3 : ((z : Int) == n - 1) = false := by simp [hzn]
        have HN : Hid (sq n (s - 1 - (k + 1)) z = c) := by rw [← HR.out, sq_step (j := s - 1 - k) (by omega) HZ.out hzn]; rfl
        clear hzn
        go_wp2_with fail
        refine (pmul_any _ _ _ hy0 hy1 hy0 hy1 h2 _).mono ?_
        rintro e w' ⟨rfl, m3, rfl⟩
        rw [HZ.out]
        go_wp2
        go_roundw
        case rel => exact ⟨k + 1, z, rfl, by go_num, by omega, hz0, hz1, HN, _, rfl⟩
        case measure => simp [intOf]; omega
    · have hd : decide ((k : Int) < (s : Int) - 1) = false := by simp; omega
      obtain rfl : c = true := by rw [← HR.out, show s - 1 - k = 0 from by omega]; rfl
      go_wp2
      go_ret
      exact ⟨rfl, _, rfl⟩
end Go.Proofs.YtijedphpcocfnaaDoor
