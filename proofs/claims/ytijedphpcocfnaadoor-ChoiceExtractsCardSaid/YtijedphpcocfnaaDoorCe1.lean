/- Contracts and lemmas: Inv, Slk, LinD, RInv, ChN, ChO. -/
import Derived.Deep.QuietTactic
import Derived.BigQuiet
import Derived.Test.YtijedphpcocfnaaDoorCk3
namespace Go.Proofs.YtijedphpcocfnaaDoor
open Go.RowKit SpM
set_option linter.unusedVariables false
/-- what the loop of Euclid's algorithm keeps. -/
def EuRel (a0 m d a x n : Int) : Prop :=
  ∃ s X N : Int, (s = 1 ∨ s = -1) ∧ x = -(s * X) ∧ n = s * N ∧ 0 ≤ X ∧ X ≤ m ∧ 0 ≤ N ∧ 0 ≤ a ∧ a < d ∧ d ≤ m ∧ X * a + N * d = m ∧
    (∃ k, x * a0 = d + m * k) ∧ (∃ k, n * a0 = a + m * k) ∧ (∀ c, c ∣ d → c ∣ a → c ∣ m ∧ c ∣ a0)
theorem euRel_start {a0 m : Int} (h0 : 0 ≤ a0) (h1 : a0 < m) : EuRel a0 m m a0 0 1 :=
  ⟨1, 0, 1, .inl rfl, by omega, by omega, by omega, by omega, by omega, h0, h1, by omega, by omega, ⟨-1, by omega⟩, ⟨0, by omega⟩, fun c hc ha => ⟨hc, ha⟩⟩
/-- the bounds that the walk needs. -/
theorem euRel_bounds {a0 m d a x n : Int} (h : EuRel a0 m d a x n) : 0 ≤ a ∧ a < d ∧ d ≤ m ∧ -m ≤ x ∧ x ≤ m ∧ -m ≤ n ∧ n ≤ m := by
  obtain ⟨s, X, N, hs, hx, hn, hX0, hX, hN0, ha0, ha, hd, hm, _⟩ := h
  have hN : N ≤ m := by
    have : N * 1 ≤ N * d := Int.mul_le_mul_of_nonneg_left (by omega) hN0
    have : 0 ≤ X * a := Int.mul_nonneg hX0 ha0
    omega
  rcases hs with rfl | rfl <;> omega
theorem euRel_step {a0 m d a x n : Int} (h : EuRel a0 m d a x n) (hne : a ≠ 0) :
    EuRel a0 m a (d - d / a * a) n (x - d / a * n) ∧ 0 ≤ d / a * a ∧ d / a * a ≤ d ∧ 0 ≤ d / a ∧ d / a ≤ m ∧ -m ≤ d / a * n ∧ d / a * n ≤ m := by
  obtain ⟨s, X, N, hs, hx, hn, hX0, hX, hN0, ha0, ha, hd, hm, ⟨k1, hk1⟩, ⟨k2, hk2⟩, hc⟩ := h
  have hap : 0 < a := by omega
  have e1 : d - d / a * a = d % a := by have := Int.emod_add_mul_ediv d a; rw [Int.mul_comm] at this; omega
  have e2 : 0 ≤ d % a := Int.emod_nonneg _ (by omega)
  have e3 : d % a < a := Int.emod_lt_of_pos _ hap
  have e4 : 0 ≤ d / a := Int.ediv_nonneg (by omega) (by omega)
  have e5 : 0 ≤ d / a * a := Int.mul_nonneg e4 (by omega)
  have e6 : d / a ≤ d / a * a := by have := Int.mul_le_mul_of_nonneg_left (show (1 : Int) ≤ a by omega) e4; omega
  obtain ⟨q, hq⟩ : ∃ q, d / a = q := ⟨_, rfl⟩
  rw [hq] at e1 e4 e5 e6 ⊢
  have hqN : 0 ≤ q * N := Int.mul_nonneg e4 hN0
  have hNd : N * d ≤ m := by have : 0 ≤ X * a := Int.mul_nonneg hX0 ha0; omega
  have hN : N ≤ m := by have : N * 1 ≤ N * d := Int.mul_le_mul_of_nonneg_left (by omega) hN0; omega
  have key : N * (d - q * a) + (X + q * N) * a = m := by
    rw [← hm, Int.mul_sub, Int.add_mul]
    have : N * (q * a) = q * N * a := by rw [← Int.mul_assoc, Int.mul_comm N q]
    omega
  have hN' : X + q * N ≤ m := by
    have h1 : 0 ≤ N * (d - q * a) := Int.mul_nonneg hN0 (by omega)
    have h2 : (X + q * N) * 1 ≤ (X + q * N) * a := Int.mul_le_mul_of_nonneg_left (by omega) (by omega)
    omega
  refine ⟨⟨-s, N, X + q * N, ?_, ?_, ?_, hN0, hN, by omega, by omega, by omega, by omega, key, ⟨k2, hk2⟩, ⟨k1 - q * k2, ?_⟩, ?_⟩, e5, by omega, e4, by omega, ?_, ?_⟩
  · rcases hs with rfl | rfl <;> simp
  · rw [hn, Int.neg_mul, Int.neg_neg]
  · rw [hx, hn, Int.neg_mul, Int.mul_add, Int.neg_add, ← Int.mul_assoc, ← Int.mul_assoc, Int.mul_comm q s]; omega
  · rw [Int.sub_mul, hk1, Int.mul_assoc, hk2, Int.mul_add, Int.mul_sub, ← Int.mul_assoc q m, Int.mul_comm q m, Int.mul_assoc m q]; omega
  · intro c h1 h2
    refine hc c ?_ h1
    have h3 : c ∣ q * a := Int.dvd_mul_of_dvd_right h1
    have h4 : c ∣ (d - q * a) + q * a := Int.dvd_add h2 h3
    rwa [show d - q * a + q * a = d by omega] at h4
  · rw [hn]; rcases hs with rfl | rfl
    · rw [Int.one_mul]; omega
    · rw [Int.neg_mul, Int.one_mul, Int.mul_neg]; omega
  · rw [hn]; rcases hs with rfl | rfl
    · rw [Int.one_mul]; omega
    · rw [Int.neg_mul, Int.one_mul, Int.mul_neg]; omega
/-- what Euclid's algorithm answers. -/
def EuOut (a m : Int) (w : World) (e : Ending) (w' : World) : Prop :=
  ∃ d x k : Int, e = .returned (.tuple #[.int .i64 d, .int .i64 x]) ∧ 0 ≤ x ∧ x < m ∧ d ∣ a ∧ d ∣ m ∧ 0 < d ∧ d ≤ m ∧ x * a = d + m * k ∧ ∃ n, w' = w.drewN n
theorem euOut_mk {a0 m d x : Int} {w : World} {n : Nat} {nx : Int} (h : EuRel a0 m d 0 x nx) (r : Int) (hr : r = (if x < 0 then x + m else x) % m) :
    EuOut a0 m w (.returned (.tuple #[.int .i64 d, .int .i64 r])) (w.drewN n) := by
  have hb := euRel_bounds h
  obtain ⟨s, X, N, hs, hx, hn, hX0, hX, hN0, ha0, ha, hd, hm, ⟨k1, hk1⟩, ⟨k2, hk2⟩, hc⟩ := h
  obtain ⟨c1, c2⟩ := hc d (Int.dvd_refl d) (Int.dvd_zero d)
  have hmp : 0 < m := by omega
  have e0 : ∃ t, (if x < 0 then x + m else x) = x + m * t := by
    split
    · exact ⟨1, by omega⟩
    · exact ⟨0, by omega⟩
  obtain ⟨t, ht⟩ := e0
  have e1 : r = x + m * t - m * ((x + m * t) / m) := by
    rw [hr, ht]; have := Int.emod_add_mul_ediv (x + m * t) m; omega
  refine ⟨d, r, k1 + (t - (x + m * t) / m) * a0, rfl, ?_, ?_, c2, c1, by omega, hd, ?_, n, rfl⟩
  · rw [hr]; exact Int.emod_nonneg _ (by omega)
  · rw [hr]; exact Int.emod_lt_of_pos _ hmp
  · rw [e1]
    generalize (x + m * t) / m = u
    rw [show x + m * t - m * u = x + m * (t - u) by rw [Int.mul_sub]; omega, Int.add_mul, hk1, Int.mul_add, Int.mul_assoc]; omega
set_option maxHeartbeats 1600000 in
theorem euclid_any (a m : Int) (h1 : 1 ≤ m) (h2 : m < 2305843009213693952) (ha0 : 0 ≤ a) (ha : a < m) (w : World) :
    Calls Tryd.prog 106 #[.int .i64 a, .int .i64 m] w (EuOut a m w) := by
  have hm : ((m : Int) == 0) = false := by simp; omega
  have HS : Hid (EuRel a m m a 0 1) := euRel_start ha0 ha
  go_enter Tryd.func106, Tryd.ntmps106
  go_wp2
  go_loop [0, 4, 5, 6] (fun u v t z => ∃ a' d' x' n' : Int, u = .int .i64 a' ∧ v = .int .i64 d' ∧ t = .int .i64 x' ∧ z = .int .i64 n' ∧ Hid (EuRel a m d' a' x' n')) (fun u _ _ _ => (intOf u).toNat)
  case atStart => exact ⟨a, m, 0, 1, rfl, rfl, rfl, rfl, HS⟩
  case round =>
    obtain ⟨a', d', x', n', rfl, rfl, rfl, rfl, HR⟩ := hrel
    obtain ⟨b1, b2, b3, b4, b5, b6, b7⟩ := euRel_bounds HR.out
    by_cases h0 : a' = 0
    · subst h0
      obtain ⟨r, hr⟩ : ∃ r, r = (if x' < 0 then x' + m else x') % m := ⟨_, rfl⟩
      by_cases hneg : x' < 0
      · rw [if_pos hneg] at hr
        have hfin := fun n => Lib.hid (euOut_mk (w := w) (n := n) HR.out r (by rw [if_pos hneg]; exact hr))
        have HR2 := Lib.hid hr
        clear HR hr
        go_wp2
        go_quiet (fail)
        go_wp2
        go_ret2
        rw [← HR2.out]
        exact (hfin _).out
      · rw [if_neg hneg] at hr
        have hfin := fun n => Lib.hid (euOut_mk (w := w) (n := n) HR.out r (by rw [if_neg hneg]; exact hr))
        have hd0 : decide (x' < 0) = false := by simp; omega
        have HR2 := Lib.hid hr
        clear HR hr
        go_wp2
        go_quiet (fail)
        go_wp2
        go_ret2
        rw [← HR2.out]
        exact (hfin _).out
    · have hz : ((a' : Int) == 0) = false := by simp [h0]
      have hz2 : ((a' : Int) != 0) = true := by simp [h0]
      obtain ⟨hst, s1, s2, s3, s4, s5, s6⟩ := euRel_step HR.out h0
      obtain ⟨q, hq⟩ : ∃ q, d' / a' = q := ⟨_, rfl⟩
      rw [hq] at hst s1 s2 s3 s4 s5 s6
      obtain ⟨u, hu⟩ : ∃ u, q * a' = u := ⟨_, rfl⟩
      obtain ⟨v, hv⟩ : ∃ v, q * n' = v := ⟨_, rfl⟩
      rw [hu, hv] at hst
      rw [hu] at s1 s2
      rw [hv] at s5 s6
      have hst2 := euRel_bounds hst
      have HST := Lib.hid hst
      clear hst HR h0
      obtain ⟨t1, t2, _⟩ := hst2
      go_wp2
      go_round
      case rel => exact ⟨_, _, _, _, rfl, rfl, rfl, rfl, HST⟩
      case measure => simp [intOf]; omega
end Go.Proofs.YtijedphpcocfnaaDoor
namespace Go.Proofs.YtijedphpcocfnaaDoor
open Go.RowKit SpM
set_option linter.unusedVariables false
set_option linter.unusedSimpArgs false
set_option maxRecDepth 100000
theorem eqs_any (A : Option Addr) (xs : List Int) (n c : Nat) (B : Option Addr) (ys : List Int) (m d : Nat) (r : Bool) (hr : Hid ((xs == ys) = r)) (hn : Hid (xs.length = n)) (hm : Hid (ys.length = m)) (hbig : n < 1000000) (hbig2 : m < 1000000)
    (w : World) (hA : Hid (Sl w A xs)) (hB : Hid (Sl w B ys)) :
    Calls Tryd.prog 18 #[.slice A n c, .slice B m d] w fun e w' => e = .returned (.bool r) ∧ Below w.heap.size w w' := by
  have hn' := hn.out
  have hm' := hm.out
  by_cases hnm : n = m
  · by_cases h0 : n = 0
    · subst hnm
      subst h0
      refine (Tryd.slices_Equal_int_empty A B c 0 d w (by omega)).mono ?_
      rintro e w' ⟨rfl, rfl⟩
      have e1 := List.eq_nil_of_length_eq_zero hn'
      have e2 := List.eq_nil_of_length_eq_zero hm'
      refine ⟨?_, Below.refl _ _⟩
      rw [← hr.out, e1, e2]
      rfl
    · obtain ⟨b1, o1, rfl, hc1⟩ := hA.out.at0 (by omega)
      obtain ⟨b2, o2, rfl, hc2⟩ := hB.out.at0 (by omega)
      refine (Tryd.slices_Equal_int b1 o1 n c b2 o2 m d xs ys w (by omega) (by omega) (by omega) (by omega) hc1 hc2).mono ?_
      rintro e w' ⟨rfl, q, rfl⟩
      refine ⟨?_, below_drawN (Below.refl _ _) _⟩
      rw [List.take_of_length_le (by omega), List.take_of_length_le (by omega), hr.out]
  · refine (Tryd.slices_Equal_int_lens A B n c m d w hnm).mono ?_
    rintro e w' ⟨rfl, rfl⟩
    refine ⟨?_, Below.refl _ _⟩
    have : (xs == ys) = false := by
      rw [beq_eq_false_iff_ne]
      intro e
      rw [e] at hn'
      omega
    rw [← hr.out, this]
end Go.Proofs.YtijedphpcocfnaaDoor
namespace Go.Proofs.YtijedphpcocfnaaDoor
open Go.RowKit SpM
set_option linter.unusedVariables false
set_option linter.unusedSimpArgs false
set_option maxRecDepth 20000
theorem wmul_eq (a b m v : Int) (hv : Hid (a * b % m = v)) (h2 : m < 2305843009213693952) (ha0 : 0 ≤ a) (ha : a < m) (hb0 : 0 ≤ b) (hb : b < m) (w : World) :
    Calls Tryd.prog 61 #[.int .i64 a, .int .i64 b, .int .i64 m] w fun e w' => e = .returned (.tuple #[.int .i64 v, .int .i64 0]) ∧ ∃ n, w' = w.drewN n := by
  rw [← hv.out]; exact wmul_ok a b m h2 ha0 ha hb0 hb w
end Go.Proofs.YtijedphpcocfnaaDoor
namespace Go.Proofs.YtijedphpcocfnaaDoor
open Go.RowKit SpM
set_option linter.unusedVariables false
/-- the inverse of a residue; 0: there is none. -/
def IsInv (a m x : Int) : Prop := 0 ≤ x ∧ x < m ∧ (x * a % m = 1 ∨ (x = 0 ∧ ∀ y, y * a % m ≠ 1))
theorem isInv_unique {a m x y : Int} (hx : IsInv a m x) (hy : IsInv a m y) : x = y := by
  obtain ⟨x0, x1, hx⟩ := hx
  obtain ⟨y0, y1, hy⟩ := hy
  rcases hx with hx | ⟨rfl, hx⟩
  · rcases hy with hy | ⟨rfl, hy⟩
    · have h1 : x * (y * a) % m = x % m := by rw [Int.mul_emod, hy, Int.mul_one, Int.emod_emod_of_dvd _ (Int.dvd_refl m)]
      have h2 : x * (y * a) % m = y % m := by
        rw [show x * (y * a) = y * (x * a) by rw [← Int.mul_assoc, ← Int.mul_assoc, Int.mul_comm x y], Int.mul_emod, hx, Int.mul_one, Int.emod_emod_of_dvd _ (Int.dvd_refl m)]
      have h3 := h1.symm.trans h2
      rwa [Int.emod_eq_of_lt x0 x1, Int.emod_eq_of_lt y0 y1] at h3
    · exact absurd hx (hy x)
  · rcases hy with hy | ⟨rfl, hy⟩
    · exact absurd hy (hx y)
    · rfl
theorem no_inv {a m d : Int} (h1 : d ∣ a) (h2 : d ∣ m) (h0 : 0 < d) (hne : d ≠ 1) (y : Int) : y * a % m ≠ 1 := by
  intro h
  have h3 : d ∣ y * a := Int.dvd_mul_of_dvd_right h1
  have h4 : d ∣ m * (y * a / m) := Int.dvd_mul_of_dvd_left h2
  have h5 : d ∣ y * a - m * (y * a / m) := Int.dvd_sub h3 h4
  have h6 : y * a - m * (y * a / m) = 1 := by have := Int.emod_add_mul_ediv (y * a) m; omega
  rw [h6] at h5
  have := Int.le_of_dvd (by omega) h5
  omega
/-- what word.Inverse answers. -/
def WInvOut (a m : Int) (w : World) (e : Ending) (w' : World) : Prop :=
  ∃ x r : Int, e = .returned (.tuple #[.int .i64 x, .int .i64 r]) ∧ IsInv a m x ∧ ∃ n, w' = w.drewN n
set_option maxHeartbeats 800000 in
theorem winv_any (a m : Int) (h1 : 2 ≤ m) (h2 : m < 2305843009213693952) (ha0 : 0 ≤ a) (ha : a < m) (w : World) :
    Calls Tryd.prog 83 #[.int .i64 a, .int .i64 m] w (WInvOut a m w) := by
  have hc := Lib.hid (chk_ok (by omega) h2 ha0 ha ha0 ha)
  go_enter Tryd.func83, Tryd.ntmps83
  go_wp2_with (go_at_call 92; refine (check_any _ _ _ _).mono ?_; rintro e w' ⟨rfl, rfl⟩; rw [hc.out])
  refine (euclid_any a m (by omega) h2 ha0 ha _).mono ?_
  rintro e w' ⟨d, x, k, rfl, hx0, hx1, hd1, hd2, hd0, hd, hk, n, rfl⟩
  by_cases hd1' : d = 1
  · have h1d : (d == 1) = true := by simp [hd1']
    have h1n : (d != 1) = false := by simp [hd1']
    have HX : Hid (IsInv a m x) := Lib.hid ⟨hx0, hx1, .inl (by rw [hk, hd1', Int.add_mul_emod_self_left]; exact emod_one_of h1)⟩
    clear hk hd1 hd2 hd0 hd hd1'
    go_wp2
    go_ret2
    exact ⟨x, 0, rfl, HX.out, n, rfl⟩
  · have h1d : (d == 1) = false := by simp [hd1']
    have h1n : (d != 1) = true := by simp [hd1']
    have HX : Hid (IsInv a m 0) := Lib.hid ⟨by omega, by omega, .inr ⟨rfl, no_inv hd1 hd2 hd0 hd1'⟩⟩
    clear hk hd1 hd2 hd0 hd hd1'
    go_wp2
    go_ret2
    exact ⟨0, 10, rfl, HX.out, n, rfl⟩
theorem rsize_any (a : Int) (ha0 : 0 ≤ a) (ha : a < 9223372036854775808) (w : World) :
    Calls Tryd.prog 120 #[.int .i64 a] w fun e w' => e = .returned (.int .u64 a) ∧ w = w' := by
  have h1 : decide (a < 0) = false := by simp; omega
  have h2 : IntKind.u64.wrap a = a := by rw [IntKind.wrap_u64]; omega
  go_enter Tryd.func120, Tryd.ntmps120
  go_wp2
  go_ret
  exact ⟨rfl, rfl⟩
/-- what the loop of the greatest common divisor keeps. -/
def GcdRel (a m x y : Int) : Prop := 0 ≤ x ∧ 0 ≤ y ∧ x ≤ m ∧ y ≤ m ∧ (0 < x ∨ 0 < y) ∧ (∀ c, (c ∣ x ∧ c ∣ y) ↔ (c ∣ a ∧ c ∣ m))
theorem gcdRel_step {a m x y : Int} (h : GcdRel a m x y) (hy : 0 < y) : GcdRel a m y (x % y) := by
  obtain ⟨h1, h2, h3, h4, h5, h6⟩ := h
  have e1 : 0 ≤ x % y := Int.emod_nonneg _ (by omega)
  have e2 : x % y < y := Int.emod_lt_of_pos _ hy
  refine ⟨h2, e1, h4, by omega, .inl hy, fun c => ⟨fun ⟨c1, c2⟩ => ?_, fun ⟨c1, c2⟩ => ?_⟩⟩
  · refine (h6 c).1 ⟨?_, c1⟩
    have : c ∣ x % y + y * (x / y) := Int.dvd_add c2 (Int.dvd_mul_of_dvd_left c1)
    rwa [Int.emod_add_mul_ediv] at this
  · obtain ⟨k1, k2⟩ := (h6 c).2 ⟨c1, c2⟩
    refine ⟨k2, ?_⟩
    have : c ∣ x - y * (x / y) := Int.dvd_sub k1 (Int.dvd_mul_of_dvd_left k2)
    rwa [show x - y * (x / y) = x % y by have := Int.emod_add_mul_ediv x y; omega] at this
/-- a greatest common divisor. -/
def IsGcd (a m g : Int) : Prop := 0 < g ∧ g ≤ m ∧ g ∣ a ∧ g ∣ m ∧ ∀ c, c ∣ a → c ∣ m → c ∣ g
theorem gcdRel_done {a m x : Int} (h : GcdRel a m x 0) : IsGcd a m x := by
  obtain ⟨h1, h2, h3, h4, h5, h6⟩ := h
  obtain ⟨c1, c2⟩ := (h6 x).1 ⟨Int.dvd_refl x, Int.dvd_zero x⟩
  exact ⟨by omega, h3, c1, c2, fun c k1 k2 => ((h6 c).2 ⟨k1, k2⟩).1⟩
/-- what Gcd answers. -/
def GcdOut (a m : Int) (w : World) (e : Ending) (w' : World) : Prop := ∃ g : Int, e = .returned (.int .i64 g) ∧ IsGcd a m g ∧ ∃ n, w' = w.drewN n
set_option maxHeartbeats 1600000 in
theorem rgcd_any (a m : Int) (h1 : 1 ≤ m) (h2 : m < 2305843009213693952) (ha0 : 0 ≤ a) (ha : a < m) (w : World) :
    Calls Tryd.prog 107 #[.int .i64 a, .int .i64 m] w (GcdOut a m w) := by
  have HS : Hid (GcdRel a m a m) := Lib.hid ⟨by omega, by omega, by omega, by omega, .inr (by omega), fun c => Iff.rfl⟩
  go_enter Tryd.func107, Tryd.ntmps107
  go_wp2_with fail
  refine (rsize_any a ha0 (by omega) _).mono ?_
  rintro e w' ⟨rfl, rfl⟩
  go_wp2_with fail
  refine (rsize_any m (by omega) (by omega) _).mono ?_
  rintro e w' ⟨rfl, rfl⟩
  go_wp2
  go_loopw [5, 6] (fun u v wr => ∃ x y : Int, u = .int .u64 x ∧ v = .int .u64 y ∧ Hid (GcdRel a m x y) ∧ ∃ n, wr = w.drewN n) (fun _ v _ => (intOf v).toNat)
  case atStart => exact ⟨a, m, rfl, rfl, HS, 0, rfl⟩
  case round =>
    obtain ⟨x, y, rfl, rfl, HR, n, rfl⟩ := hrel
    obtain ⟨x0, y0, x1, y1, _⟩ := HR.out
    by_cases hy : y = 0
    · subst hy
      have HD := Lib.hid (gcdRel_done HR.out)
      have hne : ((x : Int) == 9223372036854775808) = false := by simp; omega
      have hcv : IntKind.i64.wrap x = x := IntWalk.i64_in _ (by omega)
      clear HR
      go_wp2
      go_ret
      exact ⟨x, rfl, HD.out, n, rfl⟩
    · have hyp : 0 < y := by omega
      have d1 : decide (0 < y) = true := by simp; omega
      have d2 : ((y : Int) == 0) = false := by simp [hy]
      have HN := Lib.hid (gcdRel_step HR.out hyp)
      have l2 : x % y < y := Int.emod_lt_of_pos _ hyp
      have l1 : 0 ≤ x % y := Int.emod_nonneg _ (by omega)
      clear HR hy
      go_wp2
      go_quiet (fail)
      go_wp2
      go_roundw
      case rel => exact ⟨y, x % y, rfl, rfl, HN, _, by first | rfl | exact World.drewN_drewN _ _ _⟩
      case measure => simp [intOf]; omega
/-- what the loop of the reference's Inverse keeps. -/
def RIRel (a m u v x y : Int) : Prop := GcdRel a m u v ∧ 0 ≤ x ∧ x < m ∧ 0 ≤ y ∧ y < m ∧ (∃ k, x * a = u + m * k) ∧ (∃ k, y * a = v + m * k)
theorem rIRel_start {a m : Int} (h1 : 2 ≤ m) (ha0 : 0 ≤ a) (ha : a < m) : RIRel a m a m (1 % m) 0 := by
  rw [emod_one_of h1]
  exact ⟨⟨by omega, by omega, by omega, by omega, .inr (by omega), fun c => Iff.rfl⟩, by omega, by omega, by omega, by omega, ⟨0, by omega⟩, ⟨-1, by omega⟩⟩
theorem rIRel_step {a m u v x y : Int} (h : RIRel a m u v x y) (hv : 0 < v) : RIRel a m v (u - u / v * v) y ((x - (u / v % m) * y % m) % m) ∧ 0 ≤ u / v ∧ u / v ≤ m ∧ 0 ≤ u / v * v ∧ u / v * v ≤ u ∧ u - u / v * v < v := by
  obtain ⟨hg, x0, x1, y0, y1, ⟨k1, hk1⟩, ⟨k2, hk2⟩⟩ := h
  have hs := gcdRel_step hg hv
  obtain ⟨g1, g2, g3, g4, g5, g6⟩ := hg
  have e1 : u - u / v * v = u % v := by have := Int.emod_add_mul_ediv u v; rw [Int.mul_comm] at this; omega
  have e2 : 0 ≤ u % v := Int.emod_nonneg _ (by omega)
  have e3 : u % v < v := Int.emod_lt_of_pos _ hv
  have e4 : 0 ≤ u / v := Int.ediv_nonneg g1 (by omega)
  have e5 : 0 ≤ u / v * v := Int.mul_nonneg e4 (by omega)
  have e6 : u / v ≤ u / v * v := by have := Int.mul_le_mul_of_nonneg_left (show (1 : Int) ≤ v by omega) e4; omega
  have hm : 0 < m := by omega
  refine ⟨⟨by rw [e1]; exact hs, y0, y1, Int.emod_nonneg _ (by omega), Int.emod_lt_of_pos _ hm, ⟨k2, hk2⟩, ?_⟩, e4, by omega, e5, by omega, by omega⟩
  -- the new coefficient
  obtain ⟨q, hq⟩ : ∃ q, u / v = q := ⟨_, rfl⟩
  rw [hq] at e1 ⊢
  have c1 : ∃ t, (q % m) * y % m = q * y + m * t := by
    refine ⟨-(q / m * y) - ((q % m) * y / m), ?_⟩
    have h1 := Int.emod_add_mul_ediv ((q % m) * y) m
    have h2 : (q % m) * y = q * y - m * (q / m * y) := by
      have := Int.emod_add_mul_ediv q m
      rw [show q % m = q - m * (q / m) by omega, Int.sub_mul, Int.mul_assoc]
    rw [Int.mul_sub, Int.mul_neg]
    omega
  obtain ⟨t, ht⟩ := c1
  obtain ⟨s, hs2⟩ : ∃ s, (x - (q % m) * y % m) % m = x - (q % m) * y % m + m * s := ⟨-((x - (q % m) * y % m) / m), by have := Int.emod_add_mul_ediv (x - (q % m) * y % m) m; rw [Int.mul_neg]; omega⟩
  refine ⟨k1 - q * k2 + (s - t) * a, ?_⟩
  rw [hs2, ht]
  obtain ⟨e, he⟩ : ∃ e, s - t = e := ⟨_, rfl⟩
  rw [he, show x - (q * y + m * t) + m * s = x - q * y + m * e by rw [← he, Int.mul_sub]; omega, Int.add_mul, Int.sub_mul, hk1, Int.mul_assoc q y a, hk2, Int.mul_add q, Int.mul_add m, Int.mul_sub m, ← Int.mul_assoc q m, Int.mul_comm q m, Int.mul_assoc m q, Int.mul_assoc m e a]
  omega
theorem rIRel_done {a m u x y g : Int} (h1 : 2 ≤ m) (h : RIRel a m u 0 x y) (hg : IsGcd a m g) (h1g : g = 1) : IsInv a m x ∧ x * a % m = 1 := by
  obtain ⟨hG, x0, x1, y0, y1, ⟨k1, hk1⟩, _⟩ := h
  obtain ⟨d1, d2, d3, d4, d5⟩ := gcdRel_done hG
  have hu : u ∣ 1 := by rw [← h1g]; exact hg.2.2.2.2 u d3 d4
  have hu1 : u = 1 := by have := Int.le_of_dvd (by omega) hu; omega
  have he : x * a % m = 1 := by
    rw [hk1, hu1, Int.add_mul_emod_self_left]
    exact emod_one_of h1
  exact ⟨⟨x0, x1, .inl he⟩, he⟩
/-- what the reference's Inverse answers. -/
def RInvOut (a m : Int) (w : World) (e : Ending) (w' : World) : Prop :=
  ∃ (x : Int) (b : Bool), e = .returned (.tuple #[.int .i64 x, .bool b]) ∧ IsInv a m x ∧ (b = true ↔ ∃ y, y * a % m = 1) ∧ ∃ n, w' = w.drewN n
set_option maxHeartbeats 3200000 in
theorem rinv_any (a m : Int) (h1 : 2 ≤ m) (h2 : m < 2305843009213693952) (ha0 : 0 ≤ a) (ha : a < m) (w : World) :
    Calls Tryd.prog 85 #[.int .i64 a, .int .i64 m] w (RInvOut a m w) := by
  have hmz : ((m : Int) == 0) = false := by simp; omega
  have HS : Hid (RIRel a m a m (1 % m) 0) := Lib.hid (rIRel_start h1 ha0 ha)
  go_enter Tryd.func85, Tryd.ntmps85
  go_wp2_with fail
  refine (rgcd_any a m (by omega) h2 ha0 ha _).mono ?_
  rintro e w' ⟨g, rfl, hg, n0, rfl⟩
  by_cases hg1 : g = 1
  · have d1 : (g == 1) = true := by simp [hg1]
    have d2 : (g != 1) = false := by simp [hg1]
    have HG := Lib.hid hg
    have HG1 := Lib.hid hg1
    clear hg hg1
    go_wp2
    go_loopw [6, 7, 8, 9] (fun u v s t wr => ∃ u' v' x y : Int, u = .int .i64 u' ∧ v = .int .i64 v' ∧ s = .int .i64 x ∧ t = .int .i64 y ∧ Hid (RIRel a m u' v' x y) ∧ ∃ n, wr = w.drewN n) (fun u v _ _ _ => (intOf v).toNat)
    case atStart => exact ⟨a, m, 1 % m, 0, rfl, rfl, rfl, rfl, HS, n0, rfl⟩
    case round =>
      obtain ⟨u, v, x, y, rfl, rfl, rfl, rfl, HR, n, rfl⟩ := hrel
      by_cases hv : v = 0
      · subst hv
        have HD := Lib.hid (rIRel_done h1 HR.out HG.out HG1.out)
        clear HR
        go_wp2
        go_ret2
        exact ⟨x, true, rfl, HD.out.1, ⟨fun _ => ⟨x, HD.out.2⟩, fun _ => rfl⟩, n, rfl⟩
      · obtain ⟨⟨u0, v0, u1, v1, _⟩, x0, x1, y0, y1, _⟩ := HR.out
        have hvp : 0 < v := by omega
        have d1 : ((v : Int) == 0) = false := by simp [hv]
        have d2 : ((v : Int) != 0) = true := by simp [hv]
        obtain ⟨hst, s1, s2, s3, s4, s5⟩ := rIRel_step HR.out hvp
        obtain ⟨q, hq⟩ : ∃ q, u / v = q := ⟨_, rfl⟩
        rw [hq] at hst s1 s2 s3 s4 s5
        obtain ⟨qv, hqv⟩ : ∃ t, q * v = t := ⟨_, rfl⟩
        rw [hqv] at hst s3 s4 s5
        obtain ⟨r, hr⟩ : ∃ r, q % m = r := ⟨_, rfl⟩
        obtain ⟨p, hp⟩ : ∃ p, r * y % m = p := ⟨_, rfl⟩
        obtain ⟨z, hz⟩ : ∃ z, (x - p) % m = z := ⟨_, rfl⟩
        rw [hr, hp, hz] at hst
        have r0 : 0 ≤ r := by rw [← hr]; exact Int.emod_nonneg _ (by omega)
        have r1 : r < m := by rw [← hr]; exact Int.emod_lt_of_pos _ (by omega)
        have p0 : 0 ≤ p := by rw [← hp]; exact Int.emod_nonneg _ (by omega)
        have p1 : p < m := by rw [← hp]; exact Int.emod_lt_of_pos _ (by omega)
        have HST := Lib.hid hst
        have HRr := Lib.hid hr
        have HPp := Lib.hid hp
        have HZz := Lib.hid hz
        have hdif : IntKind.i64.wrap (x - p) = x - p := IntWalk.i64_in _ (by omega)
        clear hst HR hr hp hz hv
        go_wp2_with fail
        refine (rreduce_any q m r HRr (by omega) h2 (by omega) (by omega) _).mono ?_
        rintro e w' ⟨rfl, rfl⟩
        go_wp2_with fail
        refine (rmul_any r y m p HPp h2 r0 r1 y0 y1 _).mono ?_
        rintro e w' ⟨rfl, rfl⟩
        go_wp2_with fail
        refine (rreduce_any (x - p) m z HZz (by omega) h2 (by omega) (by omega) _).mono ?_
        rintro e w' ⟨rfl, rfl⟩
        go_wp2
        go_roundw
        case rel => exact ⟨v, u - qv, y, z, rfl, rfl, rfl, rfl, HST, _, rfl⟩
        case measure => simp [intOf]; omega
  · have d1 : (g == 1) = false := by simp [hg1]
    have d2 : (g != 1) = true := by simp [hg1]
    have HNO : Hid (∀ y, y * a % m ≠ 1) := Lib.hid (no_inv hg.2.2.1 hg.2.2.2.1 hg.1 hg1)
    have HD : Hid (IsInv a m 0) := Lib.hid ⟨by omega, by omega, .inr ⟨rfl, HNO.out⟩⟩
    clear hg hg1
    go_wp2
    go_ret2
    exact ⟨0, false, rfl, HD.out, ⟨fun h => (by cases h), fun ⟨y, hy⟩ => absurd hy (HNO.out y)⟩, n0, rfl⟩
/-- the inverse of a residue as a function; 0: there is none. -/
noncomputable def invOf (a m : Int) : Int := @dite _ (∃ x, IsInv a m x) (Classical.propDecidable _) (fun h => Classical.choose h) (fun _ => 0)
noncomputable def invB (a m : Int) : Bool := @decide (∃ y, y * a % m = 1) (Classical.propDecidable _)
theorem invOf_eq {a m x : Int} (h : IsInv a m x) : invOf a m = x := by
  have he : ∃ x, IsInv a m x := ⟨x, h⟩
  unfold invOf
  rw [dif_pos he]
  exact isInv_unique (Classical.choose_spec he) h
theorem rinv_val (a m x : Int) (b : Bool) (hx : Hid (invOf a m = x)) (hb : Hid (invB a m = b)) (h1 : 2 ≤ m) (h2 : m < 2305843009213693952) (ha0 : 0 ≤ a) (ha : a < m) (w : World) :
    Calls Tryd.prog 85 #[.int .i64 a, .int .i64 m] w fun e w' => e = .returned (.tuple #[.int .i64 x, .bool b]) ∧ ∃ n, w' = w.drewN n :=
  (rinv_any a m h1 h2 ha0 ha w).mono fun e w' ⟨x', b', he, hi, hb', hn⟩ => by
    obtain rfl : x' = x := (invOf_eq hi).symm.trans hx.out
    obtain rfl : b' = b := by
      rw [← hb.out, invB, Bool.eq_iff_iff]
      simp only [decide_eq_true_eq]
      exact hb'
    exact ⟨he, hn⟩
theorem invOf_bounds {a m x : Int} (hx : invOf a m = x) (h : ∃ y, IsInv a m y) : 0 ≤ x ∧ x < m := by
  obtain ⟨y, hy⟩ := h
  rw [← hx, invOf_eq hy]
  exact ⟨hy.1, hy.2.1⟩
theorem quiet_draws {P : Program} {f : FuncId} {args : Array Value} {w : World} {n : Nat} {v : Value}
    (h : Calls P f args (w.drewN n) fun e w' => e = .returned v ∧ ∃ m, w' = (w.drewN n).drewN m) : Calls P f args (w.drewN n) fun e w'' => e = .returned v ∧ ∃ m, w'' = w.drewN m :=
  h.mono fun _ _ ⟨he, m, hm⟩ => ⟨he, n + m, by rw [hm, World.drewN_drewN]⟩
end Go.Proofs.YtijedphpcocfnaaDoor
namespace Go.Proofs.YtijedphpcocfnaaDoor
open Go.RowKit SpM
set_option linter.unusedVariables false
set_option linter.unusedSimpArgs false
set_option maxRecDepth 100000
theorem wsub_eq (a b m v : Int) (hv : Hid ((a - b + m) % m = v)) (h2 : m < 2305843009213693952) (ha0 : 0 ≤ a) (ha : a < m) (hb0 : 0 ≤ b) (hb : b < m) (w : World) :
    Calls Tryd.prog 82 #[.int .i64 a, .int .i64 b, .int .i64 m] w fun e w' => e = .returned (.tuple #[.int .i64 v, .int .i64 0]) ∧ w = w' := by
  rw [← hv.out]
  exact sub_ok a b m h2 ha0 ha hb0 hb w
/-- the witness of two answers. -/
noncomputable def wit19 (Q c1 c2 z1 z2 : Int) : Int := ((z1 - z2 + Q) % Q) * invOf ((c1 - c2 + Q) % Q) Q % Q
/-- the first place whose challenges differ. -/
noncomputable def exR (Q : Int) (c1 c2 z1 z2 : List Int) : List Nat → Int × Int × Int
  | [] => (0, 0, 20)
  | i :: is => if c1.getD i 0 == c2.getD i 0 then exR Q c1 c2 z1 z2 is else ((i : Int), wit19 Q (c1.getD i 0) (c2.getD i 0) (z1.getD i 0) (z2.getD i 0), 0)
theorem exR_step {Q : Int} {c1 c2 z1 z2 : List Int} {n k : Nat} (h : k < n) :
    exR Q c1 c2 z1 z2 ((List.range n).drop k) = if c1.getD k 0 == c2.getD k 0 then exR Q c1 c2 z1 z2 ((List.range n).drop (k + 1)) else ((k : Int), wit19 Q (c1.getD k 0) (c2.getD k 0) (z1.getD k 0) (z2.getD k 0), 0) := by
  rw [List.drop_eq_getElem_cons (by simpa using h), exR, List.getElem_range]
theorem exR_end {Q : Int} {c1 c2 z1 z2 : List Int} {n : Nat} : exR Q c1 c2 z1 z2 ((List.range n).drop n) = (0, 0, 20) := by
  rw [List.drop_eq_nil_of_le (by simp)]
  rfl
/-- what Extract answers. -/
noncomputable def extV (P Q G b : Int) (ys al1 cl1 zl1 al2 cl2 zl2 : List Int) : Int × Int × Int :=
  if givC P Q G b ys = 0 then (if (accB P Q b ys al1 cl1 zl1 && (accB P Q b ys al2 cl2 zl2 && (al1 == al2))) = true then exR Q cl1 cl2 zl1 zl2 ((List.range ys.length).drop 0) else (0, 0, 11)) else (0, 0, givC P Q G b ys)
set_option maxHeartbeats 25600000 in
theorem cextract_any (P Q G b : Int) (Y : Option Addr) (ys : List Int) (yn yc : Nat) (A1 : Option Addr) (al1 : List Int) (na1 ca1 : Nat) (C1 : Option Addr) (cl1 : List Int) (nc1 cc1 : Nat) (Z1 : Option Addr) (zl1 : List Int) (nz1 cz1 : Nat) (A2 : Option Addr) (al2 : List Int) (na2 ca2 : Nat) (C2 : Option Addr) (cl2 : List Int) (nc2 cc2 : Nat) (Z2 : Option Addr) (zl2 : List Int) (nz2 cz2 : Nat) (ri rx re : Int) (hr : Hid (extV P Q G b ys al1 cl1 zl1 al2 cl2 zl2 = (ri, rx, re))) (hyn : Hid (ys.length = yn)) (hyb : yn < 1000) (han1 : Hid (al1.length = na1)) (hcn1 : Hid (cl1.length = nc1)) (hzn1 : Hid (zl1.length = nz1)) (hna1 : na1 < 1000) (hnc1 : nc1 < 1000) (hnz1 : nz1 < 1000) (han2 : Hid (al2.length = na2)) (hcn2 : Hid (cl2.length = nc2)) (hzn2 : Hid (zl2.length = nz2)) (hna2 : na2 < 1000) (hnc2 : nc2 < 1000) (hnz2 : nz2 < 1000) (hQ : Q < 9223372036854775808)
    (w : World) (hv : Hid (Vars w)) (hY : Hid (Sl w Y ys)) (hA1 : Hid (Sl w A1 al1)) (hC1 : Hid (Sl w C1 cl1)) (hZ1 : Hid (Sl w Z1 zl1)) (hA2 : Hid (Sl w A2 al2)) (hC2 : Hid (Sl w C2 cl2)) (hZ2 : Hid (Sl w Z2 zl2)) :
    Calls Tryd.prog 44 #[gv P Q G, .int .i64 b, .slice Y yn yc, choV A1 na1 ca1 C1 nc1 cc1 Z1 nz1 cz1, choV A2 na2 ca2 C2 nc2 cc2 Z2 nz2 cz2] w fun e' w' => e' = .returned (.tuple #[.int .i64 ri, .int .i64 rx, .int .i64 re]) ∧ Below w.heap.size w w' := by
  obtain ⟨g, hg⟩ : ∃ g, givC P Q G b ys = g := ⟨_, rfl⟩
  obtain ⟨a1, ha1⟩ : ∃ x, accB P Q b ys al1 cl1 zl1 = x := ⟨_, rfl⟩
  obtain ⟨a2, ha2⟩ : ∃ x, accB P Q b ys al2 cl2 zl2 = x := ⟨_, rfl⟩
  obtain ⟨ae, hae⟩ : ∃ x, (al1 == al2) = x := ⟨_, rfl⟩
  have HG := Lib.hid hg
  have HA1 := Lib.hid ha1
  have HA2 := Lib.hid ha2
  have HAE := Lib.hid hae
  have HRR : Hid ((if g = 0 then (if (a1 && (a2 && ae)) = true then exR Q cl1 cl2 zl1 zl2 ((List.range yn).drop 0) else (0, 0, 11)) else (0, 0, g)) = (ri, rx, re)) := Lib.hid (by rw [← hr.out, extV, hg, ha1, ha2, hae, hyn.out])
  clear hg ha1 ha2 hae
  obtain ⟨w0, hW⟩ : ∃ W, (((w.alloc (gObj P Q G)).alloc (choO A1 na1 ca1 C1 nc1 cc1 Z1 nz1 cz1)).alloc (choO A2 na2 ca2 C2 nc2 cc2 Z2 nz2 cz2)) = W := ⟨_, rfl⟩
  have HBw : Hid (Below w.heap.size w w0) := Lib.hid (by rw [← hW]; exact (((Below.refl _ _).alloc (Nat.le_refl _) _).alloc (by simp) _).alloc (by simp; omega) _)
  have hc : w0.cell? ⟨w.heap.size, 0, none⟩ = some (.int .i64 P) ∧ w0.cell? ⟨w.heap.size, 1, none⟩ = some (.int .i64 Q) ∧ w0.cell? ⟨w.heap.size, 2, none⟩ = some (.int .i64 G) ∧ w0.cell? ⟨w.heap.size + 1, 0, none⟩ = some (.slice A1 na1 ca1) ∧ w0.cell? ⟨w.heap.size + 1, 1, none⟩ = some (.slice C1 nc1 cc1) ∧ w0.cell? ⟨w.heap.size + 1, 2, none⟩ = some (.slice Z1 nz1 cz1) ∧ w0.cell? ⟨w.heap.size + 2, 0, none⟩ = some (.slice A2 na2 ca2) ∧ w0.cell? ⟨w.heap.size + 2, 1, none⟩ = some (.slice C2 nc2 cc2) ∧ w0.cell? ⟨w.heap.size + 2, 2, none⟩ = some (.slice Z2 nz2 cz2) := by rw [← hW]; exact ⟨cell_below (cell_below (allocs_cell (by simp) (by rfl)) (below_box0 _ _)) (below_box0 _ _), cell_below (cell_below (allocs_cell (by simp) (by rfl)) (below_box0 _ _)) (below_box0 _ _), cell_below (cell_below (allocs_cell (by simp) (by rfl)) (below_box0 _ _)) (below_box0 _ _), cell_below (allocs_cell (by simp) (by rfl)) (below_box0 _ _), cell_below (allocs_cell (by simp) (by rfl)) (below_box0 _ _), cell_below (allocs_cell (by simp) (by rfl)) (below_box0 _ _), allocs_cell (by simp) (by rfl), allocs_cell (by simp) (by rfl), allocs_cell (by simp) (by rfl)⟩
  have kC := Lib.hid (show ∀ u : World, Hid (Below w0.heap.size w0 u) → u.cell? ⟨w.heap.size, 0, none⟩ = some (.int .i64 P) ∧ u.cell? ⟨w.heap.size, 1, none⟩ = some (.int .i64 Q) ∧ u.cell? ⟨w.heap.size, 2, none⟩ = some (.int .i64 G) ∧ u.cell? ⟨w.heap.size + 1, 0, none⟩ = some (.slice A1 na1 ca1) ∧ u.cell? ⟨w.heap.size + 1, 1, none⟩ = some (.slice C1 nc1 cc1) ∧ u.cell? ⟨w.heap.size + 1, 2, none⟩ = some (.slice Z1 nz1 cz1) ∧ u.cell? ⟨w.heap.size + 2, 0, none⟩ = some (.slice A2 na2 ca2) ∧ u.cell? ⟨w.heap.size + 2, 1, none⟩ = some (.slice C2 nc2 cc2) ∧ u.cell? ⟨w.heap.size + 2, 2, none⟩ = some (.slice Z2 nz2 cz2) from fun u h => ⟨cell_below hc.1 h.out, cell_below hc.2.1 h.out, cell_below hc.2.2.1 h.out, cell_below hc.2.2.2.1 h.out, cell_below hc.2.2.2.2.1 h.out, cell_below hc.2.2.2.2.2.1 h.out, cell_below hc.2.2.2.2.2.2.1 h.out, cell_below hc.2.2.2.2.2.2.2.1 h.out, cell_below hc.2.2.2.2.2.2.2.2 h.out⟩)
  have kV := Lib.hid (show ∀ u : World, Hid (Below w0.heap.size w0 u) → Hid (Vars u) from fun u h => Lib.hid ((hv.out.below) (below_ext HBw.out h.out)))
  have kY := Lib.hid (show ∀ u : World, Hid (Below w0.heap.size w0 u) → Hid (Sl u Y ys) from fun u h => Lib.hid ((hY.out.below) (below_ext HBw.out h.out)))
  have kA1 := Lib.hid (show ∀ u : World, Hid (Below w0.heap.size w0 u) → Hid (Sl u A1 al1) from fun u h => Lib.hid ((hA1.out.below) (below_ext HBw.out h.out)))
  have kCl1 := Lib.hid (show ∀ u : World, Hid (Below w0.heap.size w0 u) → Hid (Sl u C1 cl1) from fun u h => Lib.hid ((hC1.out.below) (below_ext HBw.out h.out)))
  have kZ1 := Lib.hid (show ∀ u : World, Hid (Below w0.heap.size w0 u) → Hid (Sl u Z1 zl1) from fun u h => Lib.hid ((hZ1.out.below) (below_ext HBw.out h.out)))
  have kA2 := Lib.hid (show ∀ u : World, Hid (Below w0.heap.size w0 u) → Hid (Sl u A2 al2) from fun u h => Lib.hid ((hA2.out.below) (below_ext HBw.out h.out)))
  have kCl2 := Lib.hid (show ∀ u : World, Hid (Below w0.heap.size w0 u) → Hid (Sl u C2 cl2) from fun u h => Lib.hid ((hC2.out.below) (below_ext HBw.out h.out)))
  have kZ2 := Lib.hid (show ∀ u : World, Hid (Below w0.heap.size w0 u) → Hid (Sl u Z2 zl2) from fun u h => Lib.hid ((hZ2.out.below) (below_ext HBw.out h.out)))
  have HB_0 : Hid (Below w0.heap.size w0 w0) := Lib.hid (Below.refl _ _)
  have HW := Lib.hid hW
  clear hW hc hv hY hA1 hC1 hZ1 hA2 hC2 hZ2
  go_enter Tryd.func44, Tryd.ntmps44
  go_wp2_with fail
  rw [HW.out]
  obtain ⟨zc0, zc1, zc2, zc3, zc4, zc5, zc6, zc7, zc8⟩ := kC.out _ HB_0
  go_wp2_with fail
  refine (cgiven_any P Q G b Y ys yn yc g HG hyn (by omega) hQ _ (kV.out _ HB_0) (kY.out _ HB_0)).mono ?_
  rintro e w1 ⟨rfl, hb0⟩
  have HB_1 := Lib.hid (below_ext HB_0.out hb0)
  clear zc0 zc1 zc2 zc3 zc4 zc5 zc6 zc7 zc8
  clear hb0
  obtain ⟨zc0, zc1, zc2, zc3, zc4, zc5, zc6, zc7, zc8⟩ := kC.out _ HB_1
  cases hgz : g == 0 with
  | false =>
    have hg0 : ¬ g = 0 := by simpa using hgz
    have hgn : ((g : Int) != 0) = true := by rw [bne, hgz]; rfl
    have HG0 := Lib.hid hg0
    clear hg0 hgz
    have e9 : ((0 : Int), (0 : Int), (g : Int)) = (ri, rx, re) := (by have h9 := HRR.out; rw [if_neg HG0.out] at h9; exact h9)
    simp only [Prod.mk.injEq] at e9
    obtain ⟨rfl, rfl, e93⟩ := e9
    subst e93
    have hbF := below_ext HBw.out HB_1.out
    go_wp2
    go_ret3
    exact ⟨rfl, hbF⟩
  | true =>
    obtain rfl : g = 0 := by simpa using hgz
    clear hgz
    have HR2 : Hid ((if (a1 && (a2 && ae)) = true then exR Q cl1 cl2 zl1 zl2 ((List.range yn).drop 0) else (0, 0, 11)) = (ri, rx, re)) := Lib.hid (by have h9 := HRR.out; rw [if_pos rfl] at h9; exact h9)
    obtain ⟨g1, g2, g3, g4, g5⟩ := givC_0 HG.out
    obtain ⟨hp2, hp, hq3, hqp⟩ := validG_P g1
    have HVG := Lib.hid g1
    have HMB := Lib.hid g4
    have HMY := Lib.hid g5
    clear g1 g2 g3 g4 g5
    go_wp2_with fail
    refine (caccepted_any P Q G b Y ys yn yc A1 al1 na1 ca1 C1 cl1 nc1 cc1 Z1 zl1 nz1 cz1 a1 HA1 HVG HMB HMY hyn han1 hcn1 hzn1 (by omega) (by omega) (by omega) (by omega) _ (kV.out _ HB_1) (kY.out _ HB_1) (kA1.out _ HB_1) (kCl1.out _ HB_1) (kZ1.out _ HB_1)).mono ?_
    rintro e w2 ⟨rfl, hb0⟩
    have HB_2 := Lib.hid (below_ext HB_1.out hb0)
    clear zc0 zc1 zc2 zc3 zc4 zc5 zc6 zc7 zc8
    clear hb0
    obtain ⟨zc0, zc1, zc2, zc3, zc4, zc5, zc6, zc7, zc8⟩ := kC.out _ HB_2
    cases a1 with
    | false =>
      have e9 : ((0 : Int), (0 : Int), (11 : Int)) = (ri, rx, re) := (by have h9 := HR2.out; simpa using h9)
      simp only [Prod.mk.injEq] at e9
      obtain ⟨rfl, rfl, e93⟩ := e9
      subst e93
      have hbF := below_ext HBw.out HB_2.out
      go_wp2
      go_ret3
      exact ⟨rfl, hbF⟩
    | true =>
      go_wp2_with fail
      refine (caccepted_any P Q G b Y ys yn yc A2 al2 na2 ca2 C2 cl2 nc2 cc2 Z2 zl2 nz2 cz2 a2 HA2 HVG HMB HMY hyn han2 hcn2 hzn2 (by omega) (by omega) (by omega) (by omega) _ (kV.out _ HB_2) (kY.out _ HB_2) (kA2.out _ HB_2) (kCl2.out _ HB_2) (kZ2.out _ HB_2)).mono ?_
      rintro e w3 ⟨rfl, hb0⟩
      have HB_3 := Lib.hid (below_ext HB_2.out hb0)
      clear zc0 zc1 zc2 zc3 zc4 zc5 zc6 zc7 zc8
      clear hb0
      obtain ⟨zc0, zc1, zc2, zc3, zc4, zc5, zc6, zc7, zc8⟩ := kC.out _ HB_3
      cases a2 with
      | false =>
        have e9 : ((0 : Int), (0 : Int), (11 : Int)) = (ri, rx, re) := (by have h9 := HR2.out; simpa using h9)
        simp only [Prod.mk.injEq] at e9
        obtain ⟨rfl, rfl, e93⟩ := e9
        subst e93
        have hbF := below_ext HBw.out HB_3.out
        go_wp2
        go_ret3
        exact ⟨rfl, hbF⟩
      | true =>
        go_wp2_with fail
        refine (eqs_any A1 al1 na1 ca1 A2 al2 na2 ca2 ae HAE han1 han2 (by omega) (by omega) _ (kA1.out _ HB_3) (kA2.out _ HB_3)).mono ?_
        rintro e w4 ⟨rfl, hb0⟩
        have HB_4 := Lib.hid (below_ext HB_3.out hb0)
        clear zc0 zc1 zc2 zc3 zc4 zc5 zc6 zc7 zc8
        clear hb0
        obtain ⟨zc0, zc1, zc2, zc3, zc4, zc5, zc6, zc7, zc8⟩ := kC.out _ HB_4
        cases ae with
        | false =>
          have e9 : ((0 : Int), (0 : Int), (11 : Int)) = (ri, rx, re) := (by have h9 := HR2.out; simpa using h9)
          simp only [Prod.mk.injEq] at e9
          obtain ⟨rfl, rfl, e93⟩ := e9
          subst e93
          have hbF := below_ext HBw.out HB_4.out
          go_wp2
          go_ret3
          exact ⟨rfl, hbF⟩
        | true =>
          have HR3 : Hid (exR Q cl1 cl2 zl1 zl2 ((List.range yn).drop 0) = (ri, rx, re)) := Lib.hid (by have h9 := HR2.out; simpa using h9)
          have hf1 : formB P Q ys.length al1 cl1 zl1 = true := by have h9 := HA1.out; rw [accB, Bool.and_eq_true] at h9; exact h9.1
          have hf2 : formB P Q ys.length al2 cl2 zl2 = true := by have h9 := HA2.out; rw [accB, Bool.and_eq_true] at h9; exact h9.1
          obtain ⟨_, f2, f3, _, f5, f6⟩ := formB_parts hf1
          obtain ⟨_, j2, j3, _, j5, j6⟩ := formB_parts hf2
          have HC1 := Lib.hid f5
          have HZ1 := Lib.hid f6
          have HC2 := Lib.hid j5
          have HZ2 := Lib.hid j6
          have hl2 : cl1.length = yn := by rw [f2]; exact hyn.out
          have hl3 : zl1.length = yn := by rw [f3]; exact hyn.out
          have hm2 : cl2.length = yn := by rw [j2]; exact hyn.out
          have hm3 : zl2.length = yn := by rw [j3]; exact hyn.out
          have HL2 := Lib.hid hl2
          have HL3 := Lib.hid hl3
          have HM2 := Lib.hid hm2
          have HM3 := Lib.hid hm3
          clear f2 f3 f5 f6 j2 j3 j5 j6 hf1 hf2 hl2 hl3 hm2 hm3
          go_wp2
          clear zc0 zc1 zc2 zc3 zc4 zc5 zc6 zc7 zc8
          go_loopw [54] (fun i wr => ∃ k : Nat, k ≤ yn ∧ i = .int .i64 k ∧ Hid (exR Q cl1 cl2 zl1 zl2 ((List.range yn).drop k) = (ri, rx, re)) ∧ Hid (Below w0.heap.size w0 wr)) (fun i _ => yn - (intOf i).toNat)
          case atStart => exact ⟨0, by omega, rfl, HR3, HB_4⟩
          case round =>
            obtain ⟨k, hk, rfl, HR, HBr⟩ := hrel
            obtain ⟨wo, rfl⟩ : ∃ wo : World, wo = wr := ⟨_, rfl⟩
            obtain ⟨q0, q1, q2, p0, p1, p2, s0, s1, s2⟩ := kC.out _ HBr
            by_cases hlt : k < yn
            · have h1 : k < cl1.length := by rw [HL2.out]; exact hlt
              have h2 : k < zl1.length := by rw [HL3.out]; exact hlt
              have h3 : k < cl2.length := by rw [HM2.out]; exact hlt
              have h4 : k < zl2.length := by rw [HM3.out]; exact hlt
              obtain ⟨b1, o1, e1, hi1⟩ := (kCl1.out _ HBr).out k h1
              obtain ⟨b2, o2, e2, hi2⟩ := (kZ1.out _ HBr).out k h2
              obtain ⟨b3, o3, e3, hi3⟩ := (kCl2.out _ HBr).out k h3
              obtain ⟨b4, o4, e4, hi4⟩ := (kZ2.out _ HBr).out k h4
              subst e1
              subst e2
              subst e3
              subst e4
              have hst := exR_step (Q := Q) (c1 := cl1) (c2 := cl2) (z1 := zl1) (z2 := zl2) hlt
              rw [HR.out] at hst
              have hc1 := all_get HC1.out h1
              have hz1 := all_get HZ1.out h2
              have hc2 := all_get HC2.out h3
              have hz2 := all_get HZ2.out h4
              obtain ⟨c, hc⟩ : ∃ x, cl1.getD k 0 = x := ⟨_, rfl⟩
              obtain ⟨z, hz⟩ : ∃ x, zl1.getD k 0 = x := ⟨_, rfl⟩
              obtain ⟨d, hd⟩ : ∃ x, cl2.getD k 0 = x := ⟨_, rfl⟩
              obtain ⟨u, hu⟩ : ∃ x, zl2.getD k 0 = x := ⟨_, rfl⟩
              rw [hc] at hi1 hc1 hst
              rw [hz] at hi2 hz1 hst
              rw [hd] at hi3 hc2 hst
              rw [hu] at hi4 hz2 hst
              have c0 := scB_lo hc1
              have c1 := scB_hi hc1
              have d0 := scB_lo hc2
              have d1 := scB_hi hc2
              have z0 := scB_lo hz1
              have z1 := scB_hi hz1
              have u0 := scB_lo hz2
              have u1 := scB_hi hz2
              have l1 : k < nc1 := by have := hcn1.out; have := HL2.out; omega
              have l2 : k < nz1 := by have := hzn1.out; have := HL3.out; omega
              have l3 : k < nc2 := by have := hcn2.out; have := HM2.out; omega
              have l4 : k < nz2 := by have := hzn2.out; have := HM3.out; omega
              have HB2 := Lib.hid (fun q => below_drawN HBr.out q)
              clear hc1 hz1 hc2 hz2 hc hz hd hu h1 h2 h3 h4 HR
              cases hcd : c == d with
              | true =>
                rw [hcd, if_pos rfl] at hst
                have HS := Lib.hid hst.symm
                clear hst
                go_wp2
                go_quiet (fail)
                go_wp2
                go_roundw
                case rel => exact ⟨k + 1, by omega, by go_num, HS, Lib.hid (HB2.out _)⟩
                case measure => simp [intOf]; omega
              | false =>
                rw [hcd, if_neg (by simp)] at hst
                obtain ⟨m, hm⟩ : ∃ m, (c - d + Q) % Q = m := ⟨_, rfl⟩
                obtain ⟨t, ht⟩ : ∃ m, (z - u + Q) % Q = m := ⟨_, rfl⟩
                have m0 : 0 ≤ m := by rw [← hm]; exact Int.emod_nonneg _ (by omega)
                have m1 : m < Q := by rw [← hm]; exact Int.emod_lt_of_pos _ (by omega)
                have t0 : 0 ≤ t := by rw [← ht]; exact Int.emod_nonneg _ (by omega)
                have t1 : t < Q := by rw [← ht]; exact Int.emod_lt_of_pos _ (by omega)
                obtain ⟨i, hi⟩ : ∃ i, invOf m Q = i := ⟨_, rfl⟩
                rw [wit19, hm, ht, hi] at hst
                simp only [Prod.mk.injEq] at hst
                obtain ⟨rfl, hst2, rfl⟩ := hst
                have HVV := Lib.hid hst2.symm
                have HM := Lib.hid hm
                have HT := Lib.hid ht
                have HI := Lib.hid hi
                clear hst2 hm ht hi
                go_wp2
                go_quiet (fail)
                obtain ⟨wa, hwa⟩ : ∃ x, wo.drewN nq = x := ⟨_, rfl⟩
                have HBa : Hid (Below w0.heap.size w0 wa) := Lib.hid (by rw [← hwa]; exact HB2.out _)
                have HBo : Hid (Below wo.heap.size wo wa) := Lib.hid (by rw [← hwa]; exact below_drawN (Below.refl _ _) _)
                rw [hwa]
                clear hwa
                have hi1a := cell_below hi1 HBo.out
                have hi2a := cell_below hi2 HBo.out
                have hi3a := cell_below hi3 HBo.out
                have hi4a := cell_below hi4 HBo.out
                clear q0 q1 q2 p0 p1 p2 s0 s1 s2 hi1 hi2 hi3 hi4
                obtain ⟨q0, q1, q2, p0, p1, p2, s0, s1, s2⟩ := kC.out _ HBa
                go_wp2
                go_quiet ((go_at_call 82; exact quiet_left (wsub_eq c d Q m HM (by omega) c0 c1 d0 d1 _)))
                obtain ⟨wb, hwb⟩ : ∃ x, wa.drewN nq = x := ⟨_, rfl⟩
                have HBb : Hid (Below w0.heap.size w0 wb) := Lib.hid (by rw [← hwb]; exact below_drawN HBa.out _)
                have HBo2 : Hid (Below wa.heap.size wa wb) := Lib.hid (by rw [← hwb]; exact below_drawN (Below.refl _ _) _)
                rw [hwb]
                clear hwb
                have hi2b := cell_below hi2a HBo2.out
                have hi4b := cell_below hi4a HBo2.out
                clear q0 q1 q2 p0 p1 p2 s0 s1 s2 hi1a hi2a hi3a hi4a
                obtain ⟨q0, q1, q2, p0, p1, p2, s0, s1, s2⟩ := kC.out _ HBb
                go_wp2
                go_quiet ((go_at_call 82; exact quiet_left (wsub_eq z u Q t HT (by omega) z0 z1 u0 u1 _)))
                obtain ⟨wc, hwc⟩ : ∃ x, wb.drewN nq = x := ⟨_, rfl⟩
                have HBc : Hid (Below w0.heap.size w0 wc) := Lib.hid (by rw [← hwc]; exact below_drawN HBb.out _)
                rw [hwc]
                clear hwc
                clear q0 q1 q2 p0 p1 p2 s0 s1 s2 hi2b hi4b
                obtain ⟨q0, q1, q2, p0, p1, p2, s0, s1, s2⟩ := kC.out _ HBc
                go_wp2_with fail
                refine (winv_any m Q (by omega) (by omega) m0 m1 _).mono ?_
                rintro e wd ⟨i', r', rfl, hinv, n2, rfl⟩
                obtain rfl : i' = i := (invOf_eq hinv).symm.trans HI.out
                have i0 := hinv.1
                have i1 := hinv.2.1
                clear hinv
                go_wp2_with fail
                refine (wmul_eq t i' Q rx HVV (by omega) t0 t1 i0 i1 _).mono ?_
                rintro e wd ⟨rfl, n3, rfl⟩
                have hbF := below_ext HBw.out (below_drawN HBc.out (n2 + n3))
                go_wp2
                go_ret3
                exact ⟨rfl, hbF⟩
            · obtain rfl : k = yn := by omega
              have e9 := HR.out
              rw [exR_end] at e9
              simp only [Prod.mk.injEq] at e9
              obtain ⟨rfl, rfl, rfl⟩ := e9
              have hbF := below_ext HBw.out HBr.out
              clear HR hlt
              go_wp2
              go_ret3
              exact ⟨rfl, hbF⟩
end Go.Proofs.YtijedphpcocfnaaDoor
namespace Go.Proofs.YtijedphpcocfnaaDoor
open Go.RowKit SpM
set_option linter.unusedVariables false
set_option linter.unusedSimpArgs false
set_option maxRecDepth 100000
theorem isInv_ex19 (a m : Int) (hm : 0 < m) (ha0 : 0 ≤ a) (ha : a < m) : ∃ x, IsInv a m x := by
  by_cases h : ∃ y, y * a % m = 1
  · obtain ⟨y, hy⟩ := h
    refine ⟨y % m, Int.emod_nonneg _ (by omega), Int.emod_lt_of_pos _ hm, .inl ?_⟩
    rw [Int.mul_emod, Int.emod_emod_of_dvd _ (Int.dvd_refl m), ← Int.mul_emod]; exact hy
  · exact ⟨0, by omega, hm, .inr ⟨rfl, fun y hy => h ⟨y, hy⟩⟩⟩
set_option maxHeartbeats 25600000 in
theorem rextract_any (P Q G b : Int) (Y : Option Addr) (ys : List Int) (yn yc : Nat) (A1 : Option Addr) (al1 : List Int) (na1 ca1 : Nat) (C1 : Option Addr) (cl1 : List Int) (nc1 cc1 : Nat) (Z1 : Option Addr) (zl1 : List Int) (nz1 cz1 : Nat) (A2 : Option Addr) (al2 : List Int) (na2 ca2 : Nat) (C2 : Option Addr) (cl2 : List Int) (nc2 cc2 : Nat) (Z2 : Option Addr) (zl2 : List Int) (nz2 cz2 : Nat) (ri rx re : Int) (hr : Hid (extV P Q G b ys al1 cl1 zl1 al2 cl2 zl2 = (ri, rx, re))) (hyn : Hid (ys.length = yn)) (hyb : yn < 1000) (han1 : Hid (al1.length = na1)) (hcn1 : Hid (cl1.length = nc1)) (hzn1 : Hid (zl1.length = nz1)) (hna1 : na1 < 1000) (hnc1 : nc1 < 1000) (hnz1 : nz1 < 1000) (han2 : Hid (al2.length = na2)) (hcn2 : Hid (cl2.length = nc2)) (hzn2 : Hid (zl2.length = nz2)) (hna2 : na2 < 1000) (hnc2 : nc2 < 1000) (hnz2 : nz2 < 1000) (hQ : Q < 9223372036854775808)
    (w : World) (hY : Hid (Sl w Y ys)) (hA1 : Hid (Sl w A1 al1)) (hC1 : Hid (Sl w C1 cl1)) (hZ1 : Hid (Sl w Z1 zl1)) (hA2 : Hid (Sl w A2 al2)) (hC2 : Hid (Sl w C2 cl2)) (hZ2 : Hid (Sl w Z2 zl2)) :
    Calls Tryd.prog 45 #[gv P Q G, .int .i64 b, .slice Y yn yc, choV A1 na1 ca1 C1 nc1 cc1 Z1 nz1 cz1, choV A2 na2 ca2 C2 nc2 cc2 Z2 nz2 cz2] w fun e' w' => e' = .returned (.tuple #[.int .i64 ri, .int .i64 rx, .int .i64 re]) ∧ Below w.heap.size w w' := by
  obtain ⟨g, hg⟩ : ∃ g, givC P Q G b ys = g := ⟨_, rfl⟩
  obtain ⟨f1, hf1⟩ : ∃ x, formB P Q yn al1 cl1 zl1 = x := ⟨_, rfl⟩
  obtain ⟨f2, hf2⟩ : ∃ x, formB P Q yn al2 cl2 zl2 = x := ⟨_, rfl⟩
  obtain ⟨a1, ha1⟩ : ∃ x, accL P Q b ys al1 cl1 zl1 yn 0 = x := ⟨_, rfl⟩
  obtain ⟨a2, ha2⟩ : ∃ x, accL P Q b ys al2 cl2 zl2 yn 0 = x := ⟨_, rfl⟩
  obtain ⟨ae, hae⟩ : ∃ x, (al1 == al2) = x := ⟨_, rfl⟩
  have HG := Lib.hid hg
  have HF1 := Lib.hid hf1
  have HF2 := Lib.hid hf2
  have HA1 := Lib.hid ha1
  have HA2 := Lib.hid ha2
  have HAE := Lib.hid hae
  have HRR : Hid ((if g = 0 then (if ((f1 && a1) && ((f2 && a2) && ae)) = true then exR Q cl1 cl2 zl1 zl2 ((List.range yn).drop 0) else (0, 0, 11)) else (0, 0, g)) = (ri, rx, re)) := Lib.hid (by rw [← hr.out, extV, accB, accB, hyn.out, hg, hf1, hf2, ha1, ha2, hae])
  clear hg hf1 hf2 ha1 ha2 hae
  obtain ⟨w0, hW⟩ : ∃ W, (((w.alloc (gObj P Q G)).alloc (choO A1 na1 ca1 C1 nc1 cc1 Z1 nz1 cz1)).alloc (choO A2 na2 ca2 C2 nc2 cc2 Z2 nz2 cz2)) = W := ⟨_, rfl⟩
  have HBw : Hid (Below w.heap.size w w0) := Lib.hid (by rw [← hW]; exact (((Below.refl _ _).alloc (Nat.le_refl _) _).alloc (by simp) _).alloc (by simp; omega) _)
  have hc : w0.cell? ⟨w.heap.size, 0, none⟩ = some (.int .i64 P) ∧ w0.cell? ⟨w.heap.size, 1, none⟩ = some (.int .i64 Q) ∧ w0.cell? ⟨w.heap.size, 2, none⟩ = some (.int .i64 G) ∧ w0.cell? ⟨w.heap.size + 1, 0, none⟩ = some (.slice A1 na1 ca1) ∧ w0.cell? ⟨w.heap.size + 1, 1, none⟩ = some (.slice C1 nc1 cc1) ∧ w0.cell? ⟨w.heap.size + 1, 2, none⟩ = some (.slice Z1 nz1 cz1) ∧ w0.cell? ⟨w.heap.size + 2, 0, none⟩ = some (.slice A2 na2 ca2) ∧ w0.cell? ⟨w.heap.size + 2, 1, none⟩ = some (.slice C2 nc2 cc2) ∧ w0.cell? ⟨w.heap.size + 2, 2, none⟩ = some (.slice Z2 nz2 cz2) := by rw [← hW]; exact ⟨cell_below (cell_below (allocs_cell (by simp) (by rfl)) (below_box0 _ _)) (below_box0 _ _), cell_below (cell_below (allocs_cell (by simp) (by rfl)) (below_box0 _ _)) (below_box0 _ _), cell_below (cell_below (allocs_cell (by simp) (by rfl)) (below_box0 _ _)) (below_box0 _ _), cell_below (allocs_cell (by simp) (by rfl)) (below_box0 _ _), cell_below (allocs_cell (by simp) (by rfl)) (below_box0 _ _), cell_below (allocs_cell (by simp) (by rfl)) (below_box0 _ _), allocs_cell (by simp) (by rfl), allocs_cell (by simp) (by rfl), allocs_cell (by simp) (by rfl)⟩
  have kC := Lib.hid (show ∀ u : World, Hid (Below w0.heap.size w0 u) → u.cell? ⟨w.heap.size, 0, none⟩ = some (.int .i64 P) ∧ u.cell? ⟨w.heap.size, 1, none⟩ = some (.int .i64 Q) ∧ u.cell? ⟨w.heap.size, 2, none⟩ = some (.int .i64 G) ∧ u.cell? ⟨w.heap.size + 1, 0, none⟩ = some (.slice A1 na1 ca1) ∧ u.cell? ⟨w.heap.size + 1, 1, none⟩ = some (.slice C1 nc1 cc1) ∧ u.cell? ⟨w.heap.size + 1, 2, none⟩ = some (.slice Z1 nz1 cz1) ∧ u.cell? ⟨w.heap.size + 2, 0, none⟩ = some (.slice A2 na2 ca2) ∧ u.cell? ⟨w.heap.size + 2, 1, none⟩ = some (.slice C2 nc2 cc2) ∧ u.cell? ⟨w.heap.size + 2, 2, none⟩ = some (.slice Z2 nz2 cz2) from fun u h => ⟨cell_below hc.1 h.out, cell_below hc.2.1 h.out, cell_below hc.2.2.1 h.out, cell_below hc.2.2.2.1 h.out, cell_below hc.2.2.2.2.1 h.out, cell_below hc.2.2.2.2.2.1 h.out, cell_below hc.2.2.2.2.2.2.1 h.out, cell_below hc.2.2.2.2.2.2.2.1 h.out, cell_below hc.2.2.2.2.2.2.2.2 h.out⟩)
  have kY := Lib.hid (show ∀ u : World, Hid (Below w0.heap.size w0 u) → Hid (Sl u Y ys) from fun u h => Lib.hid ((hY.out.below) (below_ext HBw.out h.out)))
  have kA1 := Lib.hid (show ∀ u : World, Hid (Below w0.heap.size w0 u) → Hid (Sl u A1 al1) from fun u h => Lib.hid ((hA1.out.below) (below_ext HBw.out h.out)))
  have kCl1 := Lib.hid (show ∀ u : World, Hid (Below w0.heap.size w0 u) → Hid (Sl u C1 cl1) from fun u h => Lib.hid ((hC1.out.below) (below_ext HBw.out h.out)))
  have kZ1 := Lib.hid (show ∀ u : World, Hid (Below w0.heap.size w0 u) → Hid (Sl u Z1 zl1) from fun u h => Lib.hid ((hZ1.out.below) (below_ext HBw.out h.out)))
  have kA2 := Lib.hid (show ∀ u : World, Hid (Below w0.heap.size w0 u) → Hid (Sl u A2 al2) from fun u h => Lib.hid ((hA2.out.below) (below_ext HBw.out h.out)))
  have kCl2 := Lib.hid (show ∀ u : World, Hid (Below w0.heap.size w0 u) → Hid (Sl u C2 cl2) from fun u h => Lib.hid ((hC2.out.below) (below_ext HBw.out h.out)))
  have kZ2 := Lib.hid (show ∀ u : World, Hid (Below w0.heap.size w0 u) → Hid (Sl u Z2 zl2) from fun u h => Lib.hid ((hZ2.out.below) (below_ext HBw.out h.out)))
  have HB_0 : Hid (Below w0.heap.size w0 w0) := Lib.hid (Below.refl _ _)
  have HW := Lib.hid hW
  clear hW hc hY hA1 hC1 hZ1 hA2 hC2 hZ2
  go_enter Tryd.func45, Tryd.ntmps45
  go_wp2_with fail
  rw [HW.out]
  obtain ⟨zc0, zc1, zc2, zc3, zc4, zc5, zc6, zc7, zc8⟩ := kC.out _ HB_0
  go_wp2_with fail
  refine (rfirst_any P Q G b Y ys yn yc g HG hyn (by omega) hQ _ (kY.out _ HB_0)).mono ?_
  rintro e w1 ⟨rfl, hb0⟩
  have HB_1 := Lib.hid (below_ext HB_0.out hb0)
  clear zc0 zc1 zc2 zc3 zc4 zc5 zc6 zc7 zc8
  clear hb0
  obtain ⟨zc0, zc1, zc2, zc3, zc4, zc5, zc6, zc7, zc8⟩ := kC.out _ HB_1
  cases hgz : g == 0 with
  | false =>
    have hg0 : ¬ g = 0 := by simpa using hgz
    have hgn : ((g : Int) != 0) = true := by rw [bne, hgz]; rfl
    have HG0 := Lib.hid hg0
    clear hg0 hgz
    have e9 : ((0 : Int), (0 : Int), (g : Int)) = (ri, rx, re) := (by have h9 := HRR.out; rw [if_neg HG0.out] at h9; exact h9)
    simp only [Prod.mk.injEq] at e9
    obtain ⟨rfl, rfl, e93⟩ := e9
    subst e93
    have hbF := below_ext HBw.out HB_1.out
    go_wp2
    go_ret3
    exact ⟨rfl, hbF⟩
  | true =>
    obtain rfl : g = 0 := by simpa using hgz
    clear hgz
    have HR2 : Hid ((if ((f1 && a1) && ((f2 && a2) && ae)) = true then exR Q cl1 cl2 zl1 zl2 ((List.range yn).drop 0) else (0, 0, 11)) = (ri, rx, re)) := Lib.hid (by have h9 := HRR.out; rw [if_pos rfl] at h9; exact h9)
    obtain ⟨g1, g2, g3, g4, g5⟩ := givC_0 HG.out
    obtain ⟨hp2, hp, hq3, hqp⟩ := validG_P g1
    have HVG := Lib.hid g1
    have HMB := Lib.hid g4
    have HMY := Lib.hid g5
    clear g1 g2 g3 g4 g5
    go_wp2_with fail
    refine (rformed_any P Q G yn A1 al1 na1 ca1 C1 cl1 nc1 cc1 Z1 zl1 nz1 cz1 f1 HF1 HVG han1 hcn1 hzn1 (by omega) (by omega) (by omega) hyb _ (kA1.out _ HB_1) (kCl1.out _ HB_1) (kZ1.out _ HB_1)).mono ?_
    rintro e w2 ⟨rfl, hb0⟩
    have HB_2 := Lib.hid (below_ext HB_1.out hb0)
    clear zc0 zc1 zc2 zc3 zc4 zc5 zc6 zc7 zc8
    clear hb0
    obtain ⟨zc0, zc1, zc2, zc3, zc4, zc5, zc6, zc7, zc8⟩ := kC.out _ HB_2
    cases f1 with
    | false =>
      have e9 : ((0 : Int), (0 : Int), (11 : Int)) = (ri, rx, re) := (by have h9 := HR2.out; simpa using h9)
      simp only [Prod.mk.injEq] at e9
      obtain ⟨rfl, rfl, e93⟩ := e9
      subst e93
      have hbF := below_ext HBw.out HB_2.out
      go_wp2
      go_ret3
      exact ⟨rfl, hbF⟩
    | true =>
      go_wp2_with fail
      refine (rformed_any P Q G yn A2 al2 na2 ca2 C2 cl2 nc2 cc2 Z2 zl2 nz2 cz2 f2 HF2 HVG han2 hcn2 hzn2 (by omega) (by omega) (by omega) hyb _ (kA2.out _ HB_2) (kCl2.out _ HB_2) (kZ2.out _ HB_2)).mono ?_
      rintro e w3 ⟨rfl, hb0⟩
      have HB_3 := Lib.hid (below_ext HB_2.out hb0)
      clear zc0 zc1 zc2 zc3 zc4 zc5 zc6 zc7 zc8
      clear hb0
      obtain ⟨zc0, zc1, zc2, zc3, zc4, zc5, zc6, zc7, zc8⟩ := kC.out _ HB_3
      cases f2 with
      | false =>
        have e9 : ((0 : Int), (0 : Int), (11 : Int)) = (ri, rx, re) := (by have h9 := HR2.out; simpa using h9)
        simp only [Prod.mk.injEq] at e9
        obtain ⟨rfl, rfl, e93⟩ := e9
        subst e93
        have hbF := below_ext HBw.out HB_3.out
        go_wp2
        go_ret3
        exact ⟨rfl, hbF⟩
      | true =>
        obtain ⟨j1, j2, j3, _, j5, j6⟩ := formB_parts HF1.out
        have HCS1 := Lib.hid j5
        have HZS1 := Lib.hid j6
        obtain rfl : yn = na1 := j1.symm.trans han1.out
        obtain rfl : yn = nc1 := j2.symm.trans hcn1.out
        obtain rfl : yn = nz1 := j3.symm.trans hzn1.out
        clear j1 j2 j3 j5 j6
        obtain ⟨j1, j2, j3, _, j5, j6⟩ := formB_parts HF2.out
        have HCS2 := Lib.hid j5
        have HZS2 := Lib.hid j6
        obtain rfl : yn = na2 := j1.symm.trans han2.out
        obtain rfl : yn = nc2 := j2.symm.trans hcn2.out
        obtain rfl : yn = nz2 := j3.symm.trans hzn2.out
        clear j1 j2 j3 j5 j6
        go_wp2_with fail
        refine (racc19_any P Q G b Y ys yn yc A1 al1 ca1 C1 cl1 cc1 Z1 zl1 cz1 a1 HA1 HVG HMB HMY HCS1 HZS1 hyn han1 hcn1 hzn1 (by omega) _ (kY.out _ HB_3) (kA1.out _ HB_3) (kCl1.out _ HB_3) (kZ1.out _ HB_3)).mono ?_
        rintro e w4 ⟨rfl, hb0⟩
        have HB_4 := Lib.hid (below_ext HB_3.out hb0)
        clear zc0 zc1 zc2 zc3 zc4 zc5 zc6 zc7 zc8
        clear hb0
        obtain ⟨zc0, zc1, zc2, zc3, zc4, zc5, zc6, zc7, zc8⟩ := kC.out _ HB_4
        cases a1 with
        | false =>
          have e9 : ((0 : Int), (0 : Int), (11 : Int)) = (ri, rx, re) := (by have h9 := HR2.out; simpa using h9)
          simp only [Prod.mk.injEq] at e9
          obtain ⟨rfl, rfl, e93⟩ := e9
          subst e93
          have hbF := below_ext HBw.out HB_4.out
          go_wp2
          go_ret3
          exact ⟨rfl, hbF⟩
        | true =>
          go_wp2_with fail
          refine (racc19_any P Q G b Y ys yn yc A2 al2 ca2 C2 cl2 cc2 Z2 zl2 cz2 a2 HA2 HVG HMB HMY HCS2 HZS2 hyn han2 hcn2 hzn2 (by omega) _ (kY.out _ HB_4) (kA2.out _ HB_4) (kCl2.out _ HB_4) (kZ2.out _ HB_4)).mono ?_
          rintro e w5 ⟨rfl, hb0⟩
          have HB_5 := Lib.hid (below_ext HB_4.out hb0)
          clear zc0 zc1 zc2 zc3 zc4 zc5 zc6 zc7 zc8
          clear hb0
          obtain ⟨zc0, zc1, zc2, zc3, zc4, zc5, zc6, zc7, zc8⟩ := kC.out _ HB_5
          cases a2 with
          | false =>
            have e9 : ((0 : Int), (0 : Int), (11 : Int)) = (ri, rx, re) := (by have h9 := HR2.out; simpa using h9)
            simp only [Prod.mk.injEq] at e9
            obtain ⟨rfl, rfl, e93⟩ := e9
            subst e93
            have hbF := below_ext HBw.out HB_5.out
            go_wp2
            go_ret3
            exact ⟨rfl, hbF⟩
          | true =>
            go_wp2_with fail
            refine (rsame19_any A1 al1 yn ca1 A2 al2 ca2 ae (Lib.hid ((sameB_beq (han1.out.trans han2.out.symm)).trans HAE.out)) han1 han2 (by omega) _ (kA1.out _ HB_5) (kA2.out _ HB_5)).mono ?_
            rintro e w6 ⟨rfl, hb0⟩
            have HB_6 := Lib.hid (below_ext HB_5.out hb0)
            clear zc0 zc1 zc2 zc3 zc4 zc5 zc6 zc7 zc8
            clear hb0
            obtain ⟨zc0, zc1, zc2, zc3, zc4, zc5, zc6, zc7, zc8⟩ := kC.out _ HB_6
            cases ae with
            | false =>
              have e9 : ((0 : Int), (0 : Int), (11 : Int)) = (ri, rx, re) := (by have h9 := HR2.out; simpa using h9)
              simp only [Prod.mk.injEq] at e9
              obtain ⟨rfl, rfl, e93⟩ := e9
              subst e93
              have hbF := below_ext HBw.out HB_6.out
              go_wp2
              go_ret3
              exact ⟨rfl, hbF⟩
            | true =>
              have HR3 : Hid (exR Q cl1 cl2 zl1 zl2 ((List.range yn).drop 0) = (ri, rx, re)) := Lib.hid (by have h9 := HR2.out; simpa using h9)
              go_wp2
              clear zc0 zc1 zc2 zc3 zc4 zc5 zc6 zc7 zc8
              go_loopw [15] (fun i wr => ∃ k : Nat, k ≤ yn ∧ i = .int .i64 k ∧ Hid (exR Q cl1 cl2 zl1 zl2 ((List.range yn).drop k) = (ri, rx, re)) ∧ Hid (Below w0.heap.size w0 wr)) (fun i _ => yn - (intOf i).toNat)
              case atStart => exact ⟨0, by omega, rfl, HR3, HB_6⟩
              case round =>
                obtain ⟨k, hk, rfl, HR, HBr⟩ := hrel
                obtain ⟨wo, rfl⟩ : ∃ wo : World, wo = wr := ⟨_, rfl⟩
                obtain ⟨q0, q1, q2, p0, p1, p2, s0, s1, s2⟩ := kC.out _ HBr
                by_cases hlt : k < yn
                · have h1 : k < cl1.length := by rw [hcn1.out]; exact hlt
                  have h2 : k < zl1.length := by rw [hzn1.out]; exact hlt
                  have h3 : k < cl2.length := by rw [hcn2.out]; exact hlt
                  have h4 : k < zl2.length := by rw [hzn2.out]; exact hlt
                  obtain ⟨b1, o1, e1, hi1⟩ := (kCl1.out _ HBr).out k h1
                  obtain ⟨b2, o2, e2, hi2⟩ := (kZ1.out _ HBr).out k h2
                  obtain ⟨b3, o3, e3, hi3⟩ := (kCl2.out _ HBr).out k h3
                  obtain ⟨b4, o4, e4, hi4⟩ := (kZ2.out _ HBr).out k h4
                  subst e1
                  subst e2
                  subst e3
                  subst e4
                  have hst := exR_step (Q := Q) (c1 := cl1) (c2 := cl2) (z1 := zl1) (z2 := zl2) hlt
                  rw [HR.out] at hst
                  have hc1 := all_get HCS1.out h1
                  have hz1 := all_get HZS1.out h2
                  have hc2 := all_get HCS2.out h3
                  have hz2 := all_get HZS2.out h4
                  obtain ⟨c, hc⟩ : ∃ x, cl1.getD k 0 = x := ⟨_, rfl⟩
                  obtain ⟨z, hz⟩ : ∃ x, zl1.getD k 0 = x := ⟨_, rfl⟩
                  obtain ⟨d, hd⟩ : ∃ x, cl2.getD k 0 = x := ⟨_, rfl⟩
                  obtain ⟨u, hu⟩ : ∃ x, zl2.getD k 0 = x := ⟨_, rfl⟩
                  rw [hc] at hi1 hc1 hst
                  rw [hz] at hi2 hz1 hst
                  rw [hd] at hi3 hc2 hst
                  rw [hu] at hi4 hz2 hst
                  have c0 := scB_lo hc1
                  have c1 := scB_hi hc1
                  have d0 := scB_lo hc2
                  have d1 := scB_hi hc2
                  have z0 := scB_lo hz1
                  have z1 := scB_hi hz1
                  have u0 := scB_lo hz2
                  have u1 := scB_hi hz2
                  have HB2 := Lib.hid (fun q => below_drawN HBr.out q)
                  clear hc1 hz1 hc2 hz2 hc hz hd hu h1 h2 h3 h4 HR
                  cases hcd : c == d with
                  | true =>
                    rw [hcd, if_pos rfl] at hst
                    have HS := Lib.hid hst.symm
                    have hnd : ((c : Int) != d) = false := by rw [bne, hcd]; rfl
                    clear hst hcd
                    go_wp2
                    go_quiet (fail)
                    go_wp2
                    go_roundw
                    case rel => exact ⟨k + 1, by omega, by go_num, HS, Lib.hid (HB2.out _)⟩
                    case measure => simp [intOf]; omega
                  | false =>
                    rw [hcd, if_neg (by simp)] at hst
                    have hnd : ((c : Int) != d) = true := by rw [bne, hcd]; rfl
                    obtain ⟨m, hm⟩ : ∃ m, (c - d + Q) % Q = m := ⟨_, rfl⟩
                    obtain ⟨t, ht⟩ : ∃ m, (z - u + Q) % Q = m := ⟨_, rfl⟩
                    have m0 : 0 ≤ m := by rw [← hm]; exact Int.emod_nonneg _ (by omega)
                    have m1 : m < Q := by rw [← hm]; exact Int.emod_lt_of_pos _ (by omega)
                    have t0 : 0 ≤ t := by rw [← ht]; exact Int.emod_nonneg _ (by omega)
                    have t1 : t < Q := by rw [← ht]; exact Int.emod_lt_of_pos _ (by omega)
                    have HM : Hid ((c - d) % Q = m) := Lib.hid (by rw [← hm, Int.add_emod_right])
                    have HT : Hid ((z - u) % Q = t) := Lib.hid (by rw [← ht, Int.add_emod_right])
                    obtain ⟨i, hi⟩ : ∃ i, invOf m Q = i := ⟨_, rfl⟩
                    obtain ⟨bI, hbI⟩ : ∃ x, invB m Q = x := ⟨_, rfl⟩
                    rw [wit19, hm, ht, hi] at hst
                    simp only [Prod.mk.injEq] at hst
                    obtain ⟨rfl, hst2, rfl⟩ := hst
                    have HVV := Lib.hid hst2.symm
                    have HI := Lib.hid hi
                    have HBI := Lib.hid hbI
                    obtain ⟨i0, i1⟩ : 0 ≤ i ∧ i < Q := invOf_bounds hi (isInv_ex19 m Q (by omega) m0 m1)
                    have hs1 : IntKind.i64.wrap (c - d) = c - d := IntWalk.i64_in _ (by omega)
                    have hs2 : IntKind.i64.wrap (z - u) = z - u := IntWalk.i64_in _ (by omega)
                    clear hst2 hm ht hi hbI hcd
                    go_wp2
                    go_quiet (fail)
                    obtain ⟨wa, hwa⟩ : ∃ x, wo.drewN nq = x := ⟨_, rfl⟩
                    have HBa : Hid (Below w0.heap.size w0 wa) := Lib.hid (by rw [← hwa]; exact HB2.out _)
                    have HBo : Hid (Below wo.heap.size wo wa) := Lib.hid (by rw [← hwa]; exact below_drawN (Below.refl _ _) _)
                    rw [hwa]
                    clear hwa
                    have hi1a := cell_below hi1 HBo.out
                    have hi2a := cell_below hi2 HBo.out
                    have hi3a := cell_below hi3 HBo.out
                    have hi4a := cell_below hi4 HBo.out
                    clear q0 q1 q2 p0 p1 p2 s0 s1 s2 hi1 hi2 hi3 hi4
                    obtain ⟨q0, q1, q2, p0, p1, p2, s0, s1, s2⟩ := kC.out _ HBa
                    go_wp2
                    go_quiet ((first | (go_at_call 38; exact quiet_left (rreduce_any (c - d) Q m HM (by omega) (by omega) (by omega) (by omega) _)) | (go_at_call 85; exact quiet_draws (rinv_val m Q i bI HI HBI (by omega) (by omega) m0 m1 _))))
                    obtain ⟨wb, hwb⟩ : ∃ x, wa.drewN nq = x := ⟨_, rfl⟩
                    have HBb : Hid (Below w0.heap.size w0 wb) := Lib.hid (by rw [← hwb]; exact below_drawN HBa.out _)
                    have HBo2 : Hid (Below wa.heap.size wa wb) := Lib.hid (by rw [← hwb]; exact below_drawN (Below.refl _ _) _)
                    rw [hwb]
                    clear hwb
                    have hi2b := cell_below hi2a HBo2.out
                    have hi4b := cell_below hi4a HBo2.out
                    clear q0 q1 q2 p0 p1 p2 s0 s1 s2 hi1a hi2a hi3a hi4a
                    obtain ⟨q0, q1, q2, p0, p1, p2, s0, s1, s2⟩ := kC.out _ HBb
                    go_wp2
                    go_quiet ((first | (go_at_call 38; exact quiet_left (rreduce_any (z - u) Q t HT (by omega) (by omega) (by omega) (by omega) _)) | (go_at_call 39; exact quiet_left (rmul_any t i Q rx HVV (by omega) t0 t1 i0 i1 _))))
                    have hbF := fun q => below_ext HBw.out (below_drawN HBb.out q)
                    go_wp2
                    go_ret3
                    exact ⟨rfl, hbF _⟩
                · obtain rfl : k = yn := by omega
                  have e9 := HR.out
                  rw [exR_end] at e9
                  simp only [Prod.mk.injEq] at e9
                  obtain ⟨rfl, rfl, rfl⟩ := e9
                  have hbF := below_ext HBw.out HBr.out
                  clear HR hlt
                  go_wp2
                  go_ret3
                  exact ⟨rfl, hbF⟩
theorem cws2 (w : World) (T : TypeId) (x y : Cho) : CwS (w.alloc (.cells #[.slice x.A x.na x.ca, .slice x.C x.nc x.cc, .slice x.Z x.nz x.cz, .slice y.A y.na y.ca, .slice y.C y.nc y.cc, .slice y.Z y.nz y.cz] T)) w.heap.size [x, y] := fun k hk => by
  match k, hk with
  | 0, _ => exact ⟨allocs_cell rfl (by rfl), allocs_cell rfl (by rfl), allocs_cell rfl (by rfl)⟩
  | 1, _ => exact ⟨allocs_cell rfl (by rfl), allocs_cell rfl (by rfl), allocs_cell rfl (by rfl)⟩
theorem few2_parts {yn : Nat} {x y : Cho} (h : (decide (yn ≤ 40) && !([x, y].any bigC)) = true) : yn ≤ 40 ∧ (x.na ≤ 40 ∧ x.nc ≤ 40 ∧ x.nz ≤ 40) ∧ (y.na ≤ 40 ∧ y.nc ≤ 40 ∧ y.nz ≤ 40) := by
  simp [bigC] at h
  omega
set_option maxHeartbeats 25600000 in
theorem ce_true (P Q G b : Int) (Y : Option Addr) (ys : List Int) (yn yc : Nat) (A1 : Option Addr) (al1 : List Int) (na1 ca1 : Nat) (C1 : Option Addr) (cl1 : List Int) (nc1 cc1 : Nat) (Z1 : Option Addr) (zl1 : List Int) (nz1 cz1 : Nat) (A2 : Option Addr) (al2 : List Int) (na2 ca2 : Nat) (C2 : Option Addr) (cl2 : List Int) (nc2 cc2 : Nat) (Z2 : Option Addr) (zl2 : List Int) (nz2 cz2 : Nat) (hyn : Hid (ys.length = yn)) (han1 : Hid (al1.length = na1)) (hcn1 : Hid (cl1.length = nc1)) (hzn1 : Hid (zl1.length = nz1)) (han2 : Hid (al2.length = na2)) (hcn2 : Hid (cl2.length = nc2)) (hzn2 : Hid (zl2.length = nz2)) (hQ : Q < 9223372036854775808)
    (w : World) (hv : Hid (Vars w)) (hY : Hid (Sl w Y ys)) (hA1 : Hid (Sl w A1 al1)) (hC1 : Hid (Sl w C1 cl1)) (hZ1 : Hid (Sl w Z1 zl1)) (hA2 : Hid (Sl w A2 al2)) (hC2 : Hid (Sl w C2 cl2)) (hZ2 : Hid (Sl w Z2 zl2)) :
    Calls Tryd.prog 9 #[gv P Q G, .int .i64 b, .slice Y yn yc, choV A1 na1 ca1 C1 nc1 cc1 Z1 nz1 cz1, choV A2 na2 ca2 C2 nc2 cc2 Z2 nz2 cz2] w fun e' w' => e' = .returned (.bool true) ∧ Below w.heap.size w w' := by
  obtain ⟨fb, hfb⟩ : ∃ x, (decide (yn ≤ 40) && !(([⟨A1, na1, ca1, C1, nc1, cc1, Z1, nz1, cz1⟩, ⟨A2, na2, ca2, C2, nc2, cc2, Z2, nz2, cz2⟩] : List Cho).any bigC)) = x := ⟨_, rfl⟩
  obtain ⟨⟨ri, rx, re⟩, hr⟩ : ∃ x, extV P Q G b ys al1 cl1 zl1 al2 cl2 zl2 = x := ⟨_, rfl⟩
  have HFB := Lib.hid hfb
  have HR := Lib.hid hr
  have ei : ((ri : Int) == ri) = true := by simp
  have ex : ((rx : Int) == rx) = true := by simp
  have ee : ((re : Int) == re) = true := by simp
  clear hfb hr
  obtain ⟨w0, hW⟩ : ∃ W, (((w.alloc (gObj P Q G)).alloc (choO A1 na1 ca1 C1 nc1 cc1 Z1 nz1 cz1)).alloc (choO A2 na2 ca2 C2 nc2 cc2 Z2 nz2 cz2)) = W := ⟨_, rfl⟩
  have HBw : Hid (Below w.heap.size w w0) := Lib.hid (by rw [← hW]; exact (((Below.refl _ _).alloc (Nat.le_refl _) _).alloc (by simp) _).alloc (by simp; omega) _)
  have hc : w0.cell? ⟨w.heap.size, 0, none⟩ = some (.int .i64 P) ∧ w0.cell? ⟨w.heap.size, 1, none⟩ = some (.int .i64 Q) ∧ w0.cell? ⟨w.heap.size, 2, none⟩ = some (.int .i64 G) ∧ w0.cell? ⟨w.heap.size + 1, 0, none⟩ = some (.slice A1 na1 ca1) ∧ w0.cell? ⟨w.heap.size + 1, 1, none⟩ = some (.slice C1 nc1 cc1) ∧ w0.cell? ⟨w.heap.size + 1, 2, none⟩ = some (.slice Z1 nz1 cz1) ∧ w0.cell? ⟨w.heap.size + 2, 0, none⟩ = some (.slice A2 na2 ca2) ∧ w0.cell? ⟨w.heap.size + 2, 1, none⟩ = some (.slice C2 nc2 cc2) ∧ w0.cell? ⟨w.heap.size + 2, 2, none⟩ = some (.slice Z2 nz2 cz2) := by rw [← hW]; exact ⟨cell_below (cell_below (allocs_cell (by simp) (by rfl)) (below_box0 _ _)) (below_box0 _ _), cell_below (cell_below (allocs_cell (by simp) (by rfl)) (below_box0 _ _)) (below_box0 _ _), cell_below (cell_below (allocs_cell (by simp) (by rfl)) (below_box0 _ _)) (below_box0 _ _), cell_below (allocs_cell (by simp) (by rfl)) (below_box0 _ _), cell_below (allocs_cell (by simp) (by rfl)) (below_box0 _ _), cell_below (allocs_cell (by simp) (by rfl)) (below_box0 _ _), allocs_cell (by simp) (by rfl), allocs_cell (by simp) (by rfl), allocs_cell (by simp) (by rfl)⟩
  have kC := Lib.hid (show ∀ u : World, Hid (Below w0.heap.size w0 u) → u.cell? ⟨w.heap.size, 0, none⟩ = some (.int .i64 P) ∧ u.cell? ⟨w.heap.size, 1, none⟩ = some (.int .i64 Q) ∧ u.cell? ⟨w.heap.size, 2, none⟩ = some (.int .i64 G) ∧ u.cell? ⟨w.heap.size + 1, 0, none⟩ = some (.slice A1 na1 ca1) ∧ u.cell? ⟨w.heap.size + 1, 1, none⟩ = some (.slice C1 nc1 cc1) ∧ u.cell? ⟨w.heap.size + 1, 2, none⟩ = some (.slice Z1 nz1 cz1) ∧ u.cell? ⟨w.heap.size + 2, 0, none⟩ = some (.slice A2 na2 ca2) ∧ u.cell? ⟨w.heap.size + 2, 1, none⟩ = some (.slice C2 nc2 cc2) ∧ u.cell? ⟨w.heap.size + 2, 2, none⟩ = some (.slice Z2 nz2 cz2) from fun u h => ⟨cell_below hc.1 h.out, cell_below hc.2.1 h.out, cell_below hc.2.2.1 h.out, cell_below hc.2.2.2.1 h.out, cell_below hc.2.2.2.2.1 h.out, cell_below hc.2.2.2.2.2.1 h.out, cell_below hc.2.2.2.2.2.2.1 h.out, cell_below hc.2.2.2.2.2.2.2.1 h.out, cell_below hc.2.2.2.2.2.2.2.2 h.out⟩)
  have kV := Lib.hid (show ∀ u : World, Hid (Below w0.heap.size w0 u) → Hid (Vars u) from fun u h => Lib.hid ((hv.out.below) (below_ext HBw.out h.out)))
  have kY := Lib.hid (show ∀ u : World, Hid (Below w0.heap.size w0 u) → Hid (Sl u Y ys) from fun u h => Lib.hid ((hY.out.below) (below_ext HBw.out h.out)))
  have kA1 := Lib.hid (show ∀ u : World, Hid (Below w0.heap.size w0 u) → Hid (Sl u A1 al1) from fun u h => Lib.hid ((hA1.out.below) (below_ext HBw.out h.out)))
  have kCl1 := Lib.hid (show ∀ u : World, Hid (Below w0.heap.size w0 u) → Hid (Sl u C1 cl1) from fun u h => Lib.hid ((hC1.out.below) (below_ext HBw.out h.out)))
  have kZ1 := Lib.hid (show ∀ u : World, Hid (Below w0.heap.size w0 u) → Hid (Sl u Z1 zl1) from fun u h => Lib.hid ((hZ1.out.below) (below_ext HBw.out h.out)))
  have kA2 := Lib.hid (show ∀ u : World, Hid (Below w0.heap.size w0 u) → Hid (Sl u A2 al2) from fun u h => Lib.hid ((hA2.out.below) (below_ext HBw.out h.out)))
  have kCl2 := Lib.hid (show ∀ u : World, Hid (Below w0.heap.size w0 u) → Hid (Sl u C2 cl2) from fun u h => Lib.hid ((hC2.out.below) (below_ext HBw.out h.out)))
  have kZ2 := Lib.hid (show ∀ u : World, Hid (Below w0.heap.size w0 u) → Hid (Sl u Z2 zl2) from fun u h => Lib.hid ((hZ2.out.below) (below_ext HBw.out h.out)))
  have HB_0 : Hid (Below w0.heap.size w0 w0) := Lib.hid (Below.refl _ _)
  have HW := Lib.hid hW
  clear hW hc hv hY hA1 hC1 hZ1 hA2 hC2 hZ2
  go_enter Tryd.func9, Tryd.ntmps9
  go_wp2_with fail
  rw [HW.out]
  obtain ⟨zc0, zc1, zc2, zc3, zc4, zc5, zc6, zc7, zc8⟩ := kC.out _ HB_0
  go_wp2_with fail
  refine (awake19 _ (kV.out _ HB_0)).mono ?_
  rintro e w1 ⟨rfl, hb0⟩
  have HB_1 := Lib.hid (below_ext HB_0.out hb0)
  clear zc0 zc1 zc2 zc3 zc4 zc5 zc6 zc7 zc8
  clear hb0
  obtain ⟨zc0, zc1, zc2, zc3, zc4, zc5, zc6, zc7, zc8⟩ := kC.out _ HB_1
  have HCW := Lib.hid (cws2 w1 53 ⟨A1, na1, ca1, C1, nc1, cc1, Z1, nz1, cz1⟩ ⟨A2, na2, ca2, C2, nc2, cc2, Z2, nz2, cz2⟩)
  have hq := below_box0 w1 (.cells #[.slice A1 na1 ca1, .slice C1 nc1 cc1, .slice Z1 nz1 cz1, .slice A2 na2 ca2, .slice C2 nc2 cc2, .slice Z2 nz2 cz2] 53)
  have HB_2 := Lib.hid (below_ext HB_1.out hq)
  clear hq
  go_wp2_with fail
  refine (few19_any Y yn yc w1.heap.size fb [⟨A1, na1, ca1, C1, nc1, cc1, Z1, nz1, cz1⟩, ⟨A2, na2, ca2, C2, nc2, cc2, Z2, nz2, cz2⟩] 2 2 HFB (Lib.hid rfl) (by omega) _ HCW).mono ?_
  rintro e w3 ⟨rfl, hb0⟩
  have HB_3 := Lib.hid (below_ext HB_2.out hb0)
  clear zc0 zc1 zc2 zc3 zc4 zc5 zc6 zc7 zc8
  clear hb0
  obtain ⟨zc0, zc1, zc2, zc3, zc4, zc5, zc6, zc7, zc8⟩ := kC.out _ HB_3
  cases fb with
  | false =>
    go_wp2_with fail
    refine (awake19 _ (kV.out _ HB_3)).mono ?_
    rintro e w4 ⟨rfl, hb0⟩
    have HB_4 := Lib.hid (below_ext HB_3.out hb0)
    clear zc0 zc1 zc2 zc3 zc4 zc5 zc6 zc7 zc8
    clear hb0
    obtain ⟨zc0, zc1, zc2, zc3, zc4, zc5, zc6, zc7, zc8⟩ := kC.out _ HB_4
    have hbF := below_ext HBw.out HB_4.out
    go_wp2
    go_ret
    exact ⟨rfl, hbF⟩
  | true =>
    obtain ⟨l1, ⟨l2, l3, l4⟩, l5, l6, l7⟩ := few2_parts HFB.out
    dsimp only at l2 l3 l4 l5 l6 l7
    go_wp2_with fail
    refine (cextract_any P Q G b Y ys yn yc A1 al1 na1 ca1 C1 cl1 nc1 cc1 Z1 zl1 nz1 cz1 A2 al2 na2 ca2 C2 cl2 nc2 cc2 Z2 zl2 nz2 cz2 ri rx re HR hyn (by omega) han1 hcn1 hzn1 (by omega) (by omega) (by omega) han2 hcn2 hzn2 (by omega) (by omega) (by omega) hQ _ (kV.out _ HB_3) (kY.out _ HB_3) (kA1.out _ HB_3) (kCl1.out _ HB_3) (kZ1.out _ HB_3) (kA2.out _ HB_3) (kCl2.out _ HB_3) (kZ2.out _ HB_3)).mono ?_
    rintro e w4 ⟨rfl, hb0⟩
    have HB_4 := Lib.hid (below_ext HB_3.out hb0)
    clear zc0 zc1 zc2 zc3 zc4 zc5 zc6 zc7 zc8
    clear hb0
    obtain ⟨zc0, zc1, zc2, zc3, zc4, zc5, zc6, zc7, zc8⟩ := kC.out _ HB_4
    go_wp2_with fail
    refine (rextract_any P Q G b Y ys yn yc A1 al1 na1 ca1 C1 cl1 nc1 cc1 Z1 zl1 nz1 cz1 A2 al2 na2 ca2 C2 cl2 nc2 cc2 Z2 zl2 nz2 cz2 ri rx re HR hyn (by omega) han1 hcn1 hzn1 (by omega) (by omega) (by omega) han2 hcn2 hzn2 (by omega) (by omega) (by omega) hQ _ (kY.out _ HB_4) (kA1.out _ HB_4) (kCl1.out _ HB_4) (kZ1.out _ HB_4) (kA2.out _ HB_4) (kCl2.out _ HB_4) (kZ2.out _ HB_4)).mono ?_
    rintro e w5 ⟨rfl, hb0⟩
    have HB_5 := Lib.hid (below_ext HB_4.out hb0)
    clear zc0 zc1 zc2 zc3 zc4 zc5 zc6 zc7 zc8
    clear hb0
    obtain ⟨zc0, zc1, zc2, zc3, zc4, zc5, zc6, zc7, zc8⟩ := kC.out _ HB_5
    have hbF := below_ext HBw.out HB_5.out
    go_wp2
    go_ret
    exact ⟨rfl, hbF⟩
end Go.Proofs.YtijedphpcocfnaaDoor
