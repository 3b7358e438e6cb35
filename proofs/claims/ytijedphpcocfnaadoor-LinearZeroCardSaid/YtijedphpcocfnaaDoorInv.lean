/- The contracts of word.Reduce, word.euclid and word.Inverse. -/
import Derived.Test.YtijedphpcocfnaaDoorWordB
import Derived.Deep.QuietTactic
import Derived.BigQuiet
namespace Go.Proofs.YtijedphpcocfnaaDoor
open Go.RowKit SpM
set_option linter.unusedVariables false

theorem reduce_ok (a m : Int) (h1 : 1 ≤ m) (h2 : m < 2305843009213693952) (ha0 : -9223372036854775808 ≤ a) (ha : a < 9223372036854775808) (w : World) :
    Calls Tryd.prog 75 #[.int .i64 a, .int .i64 m] w fun e' w' => e' = .returned (.tuple #[.int .i64 (a % m), .int .i64 0]) ∧ w = w' := by
  have hc := Lib.hid (chk_ok (a := 0) (b := 0) (by omega) h2 (by omega) (by omega) (by omega) (by omega))
  have hm : ((m : Int) == 0) = false := by simp; omega
  by_cases hneg : 0 ≤ a
  · have h3 : 0 ≤ a % m := Int.emod_nonneg _ (by omega)
    have h4 : a % m < m := Int.emod_lt_of_pos _ (by omega)
    have h5 : decide (a % m < 0) = false := by simp; omega
    go_enter Tryd.func75, Tryd.ntmps75
    go_wp2_with (go_at_call 92; refine (check_any _ _ _ _).mono ?_; rintro e w' ⟨rfl, rfl⟩; rw [hc.out])
    go_ret2
    exact ⟨rfl, rfl⟩
  · obtain ⟨t, ht⟩ : ∃ t, a.tmod m = t := ⟨_, rfl⟩
    obtain ⟨r, hr⟩ : ∃ r, a % m = r := ⟨_, rfl⟩
    have hb : -m < t ∧ t ≤ 0 := by
      rw [← ht]
      have e : a.tmod m = - ((-a) % m) := by
        rw [← Int.neg_neg a, Int.neg_tmod, Int.neg_neg, Int.tmod_eq_emod_of_nonneg (by omega)]
      have h3 : 0 ≤ (-a) % m := Int.emod_nonneg _ (by omega)
      have h4 : (-a) % m < m := Int.emod_lt_of_pos _ (by omega)
      omega
    have hrt : r = if t < 0 then t + m else t := by
      rw [← hr]
      have e : a = m * a.tdiv m + t := by rw [← ht]; exact (Int.mul_tdiv_add_tmod a m).symm
      have h6 : a % m = t % m := by rw [e, Int.mul_add_emod_self_left]
      rw [h6]
      split
      · rw [← Int.add_emod_right t m]; exact Int.emod_eq_of_lt (by omega) (by omega)
      · exact Int.emod_eq_of_lt (by omega) (by omega)
    obtain ⟨hb1, hb2⟩ := hb
    rw [hr]
    have HW : wrap64 (a.tmod m) = t := by rw [ht]; exact IntWalk.wrap64_in _ (by omega)
    clear hr
    by_cases hz : t < 0
    · rw [if_pos hz] at hrt
      subst hrt
      go_enter Tryd.func75, Tryd.ntmps75
      go_wp2_with (go_at_call 92; refine (check_any _ _ _ _).mono ?_; rintro e w' ⟨rfl, rfl⟩; rw [hc.out])
      go_ret2
      exact ⟨rfl, rfl⟩
    · rw [if_neg hz] at hrt
      subst hrt
      have hz2 : decide (r < 0) = false := by simp; omega
      go_enter Tryd.func75, Tryd.ntmps75
      go_wp2_with (go_at_call 92; refine (check_any _ _ _ _).mono ?_; rintro e w' ⟨rfl, rfl⟩; rw [hc.out])
      go_ret2
      exact ⟨rfl, rfl⟩

/-- what the loop of Euclid's algorithm keeps. -/
def EuRel (a0 m d a x n : Int) : Prop :=
  ∃ s X N : Int, (s = 1 ∨ s = -1) ∧ x = -(s * X) ∧ n = s * N ∧ 0 ≤ X ∧ X ≤ m ∧ 0 ≤ N ∧ 0 ≤ a ∧ a < d ∧ d ≤ m ∧ X * a + N * d = m ∧
    (∃ k, x * a0 = d + m * k) ∧ (∃ k, n * a0 = a + m * k) ∧ (∀ c, c ∣ d → c ∣ a → c ∣ m ∧ c ∣ a0)

theorem euRel_start {a0 m : Int} (h0 : 0 ≤ a0) (h1 : a0 < m) : EuRel a0 m m a0 0 1 :=
  ⟨1, 0, 1, .inl rfl, by omega, by omega, by omega, by omega, by omega, h0, h1, by omega, by omega, ⟨-1, by omega⟩, ⟨0, by omega⟩, fun c hc ha => ⟨hc, ha⟩⟩

/-- the bounds that the walk needs. -/
theorem euRel_bounds {a0 m d a x n : Int} (h : EuRel a0 m d a x n) : 0 ≤ a ∧ a < d ∧ d ≤ m ∧ -m ≤ x ∧ x ≤ m ∧ -m ≤ n ∧ n ≤ m := by
  obtain ⟨s, X, N, hs, hx, hn, hX0, hX, hN0, ha0, ha, hd, hm, _⟩ := h
  have hN : N ≤ m := by
    have : N * 1 ≤ N * d := Int.mul_le_mul_of_nonneg_left (by omega) hN0
    have : 0 ≤ X * a := Int.mul_nonneg hX0 ha0
    omega
  rcases hs with rfl | rfl <;> omega

theorem euRel_step {a0 m d a x n : Int} (h : EuRel a0 m d a x n) (hne : a ≠ 0) :
    EuRel a0 m a (d - d / a * a) n (x - d / a * n) ∧ 0 ≤ d / a * a ∧ d / a * a ≤ d ∧ 0 ≤ d / a ∧ d / a ≤ m ∧ -m ≤ d / a * n ∧ d / a * n ≤ m := by
  obtain ⟨s, X, N, hs, hx, hn, hX0, hX, hN0, ha0, ha, hd, hm, ⟨k1, hk1⟩, ⟨k2, hk2⟩, hc⟩ := h
  have hap : 0 < a := by omega
  have e1 : d - d / a * a = d % a := by have := Int.emod_add_mul_ediv d a; rw [Int.mul_comm] at this; omega
  have e2 : 0 ≤ d % a := Int.emod_nonneg _ (by omega)
  have e3 : d % a < a := Int.emod_lt_of_pos _ hap
  have e4 : 0 ≤ d / a := Int.ediv_nonneg (by omega) (by omega)
  have e5 : 0 ≤ d / a * a := Int.mul_nonneg e4 (by omega)
  have e6 : d / a ≤ d / a * a := by have := Int.mul_le_mul_of_nonneg_left (show (1 : Int) ≤ a by omega) e4; omega
  obtain ⟨q, hq⟩ : ∃ q, d / a = q := ⟨_, rfl⟩
  rw [hq] at e1 e4 e5 e6 ⊢
  have hqN : 0 ≤ q * N := Int.mul_nonneg e4 hN0
  have hNd : N * d ≤ m := by have : 0 ≤ X * a := Int.mul_nonneg hX0 ha0; omega
  have hN : N ≤ m := by have : N * 1 ≤ N * d := Int.mul_le_mul_of_nonneg_left (by omega) hN0; omega
  have key : N * (d - q * a) + (X + q * N) * a = m := by
    rw [← hm, Int.mul_sub, Int.add_mul]
    have : N * (q * a) = q * N * a := by rw [← Int.mul_assoc, Int.mul_comm N q]
    omega
  have hN' : X + q * N ≤ m := by
    have h1 : 0 ≤ N * (d - q * a) := Int.mul_nonneg hN0 (by omega)
    have h2 : (X + q * N) * 1 ≤ (X + q * N) * a := Int.mul_le_mul_of_nonneg_left (by omega) (by omega)
    omega
  refine ⟨⟨-s, N, X + q * N, ?_, ?_, ?_, hN0, hN, by omega, by omega, by omega, by omega, key, ⟨k2, hk2⟩, ⟨k1 - q * k2, ?_⟩, ?_⟩, e5, by omega, e4, by omega, ?_, ?_⟩
  · rcases hs with rfl | rfl <;> simp
  · rw [hn, Int.neg_mul, Int.neg_neg]
  · rw [hx, hn, Int.neg_mul, Int.mul_add, Int.neg_add, ← Int.mul_assoc, ← Int.mul_assoc, Int.mul_comm q s]; omega
  · rw [Int.sub_mul, hk1, Int.mul_assoc, hk2, Int.mul_add, Int.mul_sub, ← Int.mul_assoc q m, Int.mul_comm q m, Int.mul_assoc m q]; omega
  · intro c h1 h2
    refine hc c ?_ h1
    have h3 : c ∣ q * a := Int.dvd_mul_of_dvd_right h1
    have h4 : c ∣ (d - q * a) + q * a := Int.dvd_add h2 h3
    rwa [show d - q * a + q * a = d by omega] at h4
  · rw [hn]; rcases hs with rfl | rfl
    · rw [Int.one_mul]; omega
    · rw [Int.neg_mul, Int.one_mul, Int.mul_neg]; omega
  · rw [hn]; rcases hs with rfl | rfl
    · rw [Int.one_mul]; omega
    · rw [Int.neg_mul, Int.one_mul, Int.mul_neg]; omega

/-- what Euclid's algorithm answers. -/
def EuOut (a m : Int) (w : World) (e : Ending) (w' : World) : Prop :=
  ∃ d x k : Int, e = .returned (.tuple #[.int .i64 d, .int .i64 x]) ∧ 0 ≤ x ∧ x < m ∧ d ∣ a ∧ d ∣ m ∧ 0 < d ∧ d ≤ m ∧ x * a = d + m * k ∧ ∃ n, w' = w.drewN n

theorem euOut_mk {a0 m d x : Int} {w : World} {n : Nat} {nx : Int} (h : EuRel a0 m d 0 x nx) (r : Int) (hr : r = (if x < 0 then x + m else x) % m) :
    EuOut a0 m w (.returned (.tuple #[.int .i64 d, .int .i64 r])) (w.drewN n) := by
  have hb := euRel_bounds h
  obtain ⟨s, X, N, hs, hx, hn, hX0, hX, hN0, ha0, ha, hd, hm, ⟨k1, hk1⟩, ⟨k2, hk2⟩, hc⟩ := h
  obtain ⟨c1, c2⟩ := hc d (Int.dvd_refl d) (Int.dvd_zero d)
  have hmp : 0 < m := by omega
  have e0 : ∃ t, (if x < 0 then x + m else x) = x + m * t := by
    split
    · exact ⟨1, by omega⟩
    · exact ⟨0, by omega⟩
  obtain ⟨t, ht⟩ := e0
  have e1 : r = x + m * t - m * ((x + m * t) / m) := by
    rw [hr, ht]; have := Int.emod_add_mul_ediv (x + m * t) m; omega
  refine ⟨d, r, k1 + (t - (x + m * t) / m) * a0, rfl, ?_, ?_, c2, c1, by omega, hd, ?_, n, rfl⟩
  · rw [hr]; exact Int.emod_nonneg _ (by omega)
  · rw [hr]; exact Int.emod_lt_of_pos _ hmp
  · rw [e1]
    generalize (x + m * t) / m = u
    rw [show x + m * t - m * u = x + m * (t - u) by rw [Int.mul_sub]; omega, Int.add_mul, hk1, Int.mul_add, Int.mul_assoc]; omega

set_option maxHeartbeats 1600000 in
theorem euclid_any (a m : Int) (h1 : 1 ≤ m) (h2 : m < 2305843009213693952) (ha0 : 0 ≤ a) (ha : a < m) (w : World) :
    Calls Tryd.prog 106 #[.int .i64 a, .int .i64 m] w (EuOut a m w) := by
  have hm : ((m : Int) == 0) = false := by simp; omega
  have HS : Hid (EuRel a m m a 0 1) := euRel_start ha0 ha
  go_enter Tryd.func106, Tryd.ntmps106
  go_wp2
  go_loop [0, 4, 5, 6] (fun u v t z => ∃ a' d' x' n' : Int, u = .int .i64 a' ∧ v = .int .i64 d' ∧ t = .int .i64 x' ∧ z = .int .i64 n' ∧ Hid (EuRel a m d' a' x' n')) (fun u _ _ _ => (intOf u).toNat)
  case atStart => exact ⟨a, m, 0, 1, rfl, rfl, rfl, rfl, HS⟩
  case round =>
    obtain ⟨a', d', x', n', rfl, rfl, rfl, rfl, HR⟩ := hrel
    obtain ⟨b1, b2, b3, b4, b5, b6, b7⟩ := euRel_bounds HR.out
    by_cases h0 : a' = 0
    · subst h0
      obtain ⟨r, hr⟩ : ∃ r, r = (if x' < 0 then x' + m else x') % m := ⟨_, rfl⟩
      by_cases hneg : x' < 0
      · rw [if_pos hneg] at hr
        have hfin := fun n => Lib.hid (euOut_mk (w := w) (n := n) HR.out r (by rw [if_pos hneg]; exact hr))
        have HR2 := Lib.hid hr
        clear HR hr
        go_wp2
        go_quiet (fail)
        go_wp2
        go_ret2
        rw [← HR2.out]
        exact (hfin _).out
      · rw [if_neg hneg] at hr
        have hfin := fun n => Lib.hid (euOut_mk (w := w) (n := n) HR.out r (by rw [if_neg hneg]; exact hr))
        have hd0 : decide (x' < 0) = false := by simp; omega
        have HR2 := Lib.hid hr
        clear HR hr
        go_wp2
        go_quiet (fail)
        go_wp2
        go_ret2
        rw [← HR2.out]
        exact (hfin _).out
    · have hz : ((a' : Int) == 0) = false := by simp [h0]
      have hz2 : ((a' : Int) != 0) = true := by simp [h0]
      obtain ⟨hst, s1, s2, s3, s4, s5, s6⟩ := euRel_step HR.out h0
      obtain ⟨q, hq⟩ : ∃ q, d' / a' = q := ⟨_, rfl⟩
      rw [hq] at hst s1 s2 s3 s4 s5 s6
      obtain ⟨u, hu⟩ : ∃ u, q * a' = u := ⟨_, rfl⟩
      obtain ⟨v, hv⟩ : ∃ v, q * n' = v := ⟨_, rfl⟩
      rw [hu, hv] at hst
      rw [hu] at s1 s2
      rw [hv] at s5 s6
      have hst2 := euRel_bounds hst
      have HST := Lib.hid hst
      clear hst HR h0
      obtain ⟨t1, t2, _⟩ := hst2
      go_wp2
      go_round
      case rel => exact ⟨_, _, _, _, rfl, rfl, rfl, rfl, HST⟩
      case measure => simp [intOf]; omega
end Go.Proofs.YtijedphpcocfnaaDoor
