/- The contracts of word.Inverse (any residue) and of the reference's Gcd and Inverse. -/
import Derived.Test.YtohjfnhgibedpaaDoorRefD
import Derived.Test.YtohjfnhgibedpaaDoorInv
namespace Go.Proofs.YtohjfnhgibedpaaDoor
open Go.RowKit SpM
set_option linter.unusedVariables false

/-- the inverse of a residue; 0: there is none. -/
def IsInv (a m x : Int) : Prop := 0 ≤ x ∧ x < m ∧ (x * a % m = 1 ∨ (x = 0 ∧ ∀ y, y * a % m ≠ 1))

theorem isInv_unique {a m x y : Int} (hx : IsInv a m x) (hy : IsInv a m y) : x = y := by
  obtain ⟨x0, x1, hx⟩ := hx
  obtain ⟨y0, y1, hy⟩ := hy
  rcases hx with hx | ⟨rfl, hx⟩
  · rcases hy with hy | ⟨rfl, hy⟩
    · have h1 : x * (y * a) % m = x % m := by rw [Int.mul_emod, hy, Int.mul_one, Int.emod_emod_of_dvd _ (Int.dvd_refl m)]
      have h2 : x * (y * a) % m = y % m := by
        rw [show x * (y * a) = y * (x * a) by rw [← Int.mul_assoc, ← Int.mul_assoc, Int.mul_comm x y], Int.mul_emod, hx, Int.mul_one, Int.emod_emod_of_dvd _ (Int.dvd_refl m)]
      have h3 := h1.symm.trans h2
      rwa [Int.emod_eq_of_lt x0 x1, Int.emod_eq_of_lt y0 y1] at h3
    · exact absurd hx (hy x)
  · rcases hy with hy | ⟨rfl, hy⟩
    · exact absurd hy (hx y)
    · rfl

theorem no_inv {a m d : Int} (h1 : d ∣ a) (h2 : d ∣ m) (h0 : 0 < d) (hne : d ≠ 1) (y : Int) : y * a % m ≠ 1 := by
  intro h
  have h3 : d ∣ y * a := Int.dvd_mul_of_dvd_right h1
  have h4 : d ∣ m * (y * a / m) := Int.dvd_mul_of_dvd_left h2
  have h5 : d ∣ y * a - m * (y * a / m) := Int.dvd_sub h3 h4
  have h6 : y * a - m * (y * a / m) = 1 := by have := Int.emod_add_mul_ediv (y * a) m; omega
  rw [h6] at h5
  have := Int.le_of_dvd (by omega) h5
  omega

/-- what word.Inverse answers. -/
def WInvOut (a m : Int) (w : World) (e : Ending) (w' : World) : Prop :=
  ∃ x r : Int, e = .returned (.tuple #[.int .i64 x, .int .i64 r]) ∧ IsInv a m x ∧ ∃ n, w' = w.drewN n

set_option maxHeartbeats 800000 in
theorem winv_any (a m : Int) (h1 : 2 ≤ m) (h2 : m < 2305843009213693952) (ha0 : 0 ≤ a) (ha : a < m) (w : World) :
    Calls Tryd.prog 71 #[.int .i64 a, .int .i64 m] w (WInvOut a m w) := by
  have hc := Lib.hid (chk_ok (by omega) h2 ha0 ha ha0 ha)
  go_enter Tryd.func71, Tryd.ntmps71
  go_wp2_with (go_at_call 88; refine (check_any _ _ _ _).mono ?_; rintro e w' ⟨rfl, rfl⟩; rw [hc.out])
  refine (euclid_any a m (by omega) h2 ha0 ha _).mono ?_
  rintro e w' ⟨d, x, k, rfl, hx0, hx1, hd1, hd2, hd0, hd, hk, n, rfl⟩
  by_cases hd1' : d = 1
  · have h1d : (d == 1) = true := by simp [hd1']
    have h1n : (d != 1) = false := by simp [hd1']
    have HX : Hid (IsInv a m x) := Lib.hid ⟨hx0, hx1, .inl (by rw [hk, hd1', Int.add_mul_emod_self_left]; exact emod_one_of h1)⟩
    clear hk hd1 hd2 hd0 hd hd1'
    go_wp2
    go_ret2
    exact ⟨x, 0, rfl, HX.out, n, rfl⟩
  · have h1d : (d == 1) = false := by simp [hd1']
    have h1n : (d != 1) = true := by simp [hd1']
    have HX : Hid (IsInv a m 0) := Lib.hid ⟨by omega, by omega, .inr ⟨rfl, no_inv hd1 hd2 hd0 hd1'⟩⟩
    clear hk hd1 hd2 hd0 hd hd1'
    go_wp2
    go_ret2
    exact ⟨0, 10, rfl, HX.out, n, rfl⟩

theorem rsize_any (a : Int) (ha0 : 0 ≤ a) (ha : a < 9223372036854775808) (w : World) :
    Calls Tryd.prog 106 #[.int .i64 a] w fun e w' => e = .returned (.int .u64 a) ∧ w = w' := by
  have h1 : decide (a < 0) = false := by simp; omega
  have h2 : IntKind.u64.wrap a = a := by rw [IntKind.wrap_u64]; omega
  go_enter Tryd.func106, Tryd.ntmps106
  go_wp2
  go_ret
  exact ⟨rfl, rfl⟩

/-- what the loop of the greatest common divisor keeps. -/
def GcdRel (a m x y : Int) : Prop := 0 ≤ x ∧ 0 ≤ y ∧ x ≤ m ∧ y ≤ m ∧ (0 < x ∨ 0 < y) ∧ (∀ c, (c ∣ x ∧ c ∣ y) ↔ (c ∣ a ∧ c ∣ m))

theorem gcdRel_step {a m x y : Int} (h : GcdRel a m x y) (hy : 0 < y) : GcdRel a m y (x % y) := by
  obtain ⟨h1, h2, h3, h4, h5, h6⟩ := h
  have e1 : 0 ≤ x % y := Int.emod_nonneg _ (by omega)
  have e2 : x % y < y := Int.emod_lt_of_pos _ hy
  refine ⟨h2, e1, h4, by omega, .inl hy, fun c => ⟨fun ⟨c1, c2⟩ => ?_, fun ⟨c1, c2⟩ => ?_⟩⟩
  · refine (h6 c).1 ⟨?_, c1⟩
    have : c ∣ x % y + y * (x / y) := Int.dvd_add c2 (Int.dvd_mul_of_dvd_left c1)
    rwa [Int.emod_add_mul_ediv] at this
  · obtain ⟨k1, k2⟩ := (h6 c).2 ⟨c1, c2⟩
    refine ⟨k2, ?_⟩
    have : c ∣ x - y * (x / y) := Int.dvd_sub k1 (Int.dvd_mul_of_dvd_left k2)
    rwa [show x - y * (x / y) = x % y by have := Int.emod_add_mul_ediv x y; omega] at this

/-- a greatest common divisor. -/
def IsGcd (a m g : Int) : Prop := 0 < g ∧ g ≤ m ∧ g ∣ a ∧ g ∣ m ∧ ∀ c, c ∣ a → c ∣ m → c ∣ g
theorem gcdRel_done {a m x : Int} (h : GcdRel a m x 0) : IsGcd a m x := by
  obtain ⟨h1, h2, h3, h4, h5, h6⟩ := h
  obtain ⟨c1, c2⟩ := (h6 x).1 ⟨Int.dvd_refl x, Int.dvd_zero x⟩
  exact ⟨by omega, h3, c1, c2, fun c k1 k2 => ((h6 c).2 ⟨k1, k2⟩).1⟩

/-- what Gcd answers. -/
def GcdOut (a m : Int) (w : World) (e : Ending) (w' : World) : Prop := ∃ g : Int, e = .returned (.int .i64 g) ∧ IsGcd a m g ∧ ∃ n, w' = w.drewN n

set_option maxHeartbeats 1600000 in
theorem rgcd_any (a m : Int) (h1 : 1 ≤ m) (h2 : m < 2305843009213693952) (ha0 : 0 ≤ a) (ha : a < m) (w : World) :
    Calls Tryd.prog 96 #[.int .i64 a, .int .i64 m] w (GcdOut a m w) := by
  have HS : Hid (GcdRel a m a m) := Lib.hid ⟨by omega, by omega, by omega, by omega, .inr (by omega), fun c => Iff.rfl⟩
  go_enter Tryd.func96, Tryd.ntmps96
  go_wp2_with fail
  refine (rsize_any a ha0 (by omega) _).mono ?_
  rintro e w' ⟨rfl, rfl⟩
  go_wp2_with fail
  refine (rsize_any m (by omega) (by omega) _).mono ?_
  rintro e w' ⟨rfl, rfl⟩
  go_wp2
  go_loopw [5, 6] (fun u v wr => ∃ x y : Int, u = .int .u64 x ∧ v = .int .u64 y ∧ Hid (GcdRel a m x y) ∧ ∃ n, wr = w.drewN n) (fun _ v _ => (intOf v).toNat)
  case atStart => exact ⟨a, m, rfl, rfl, HS, 0, rfl⟩
  case round =>
    obtain ⟨x, y, rfl, rfl, HR, n, rfl⟩ := hrel
    obtain ⟨x0, y0, x1, y1, _⟩ := HR.out
    by_cases hy : y = 0
    · subst hy
      have HD := Lib.hid (gcdRel_done HR.out)
      have hne : ((x : Int) == 9223372036854775808) = false := by simp; omega
      have hcv : IntKind.i64.wrap x = x := IntWalk.i64_in _ (by omega)
      clear HR
      go_wp2
      go_ret
      exact ⟨x, rfl, HD.out, n, rfl⟩
    · have hyp : 0 < y := by omega
      have d1 : decide (0 < y) = true := by simp; omega
      have d2 : ((y : Int) == 0) = false := by simp [hy]
      have HN := Lib.hid (gcdRel_step HR.out hyp)
      have l2 : x % y < y := Int.emod_lt_of_pos _ hyp
      have l1 : 0 ≤ x % y := Int.emod_nonneg _ (by omega)
      clear HR hy
      go_wp2
      go_quiet (fail)
      go_wp2
      go_roundw
      case rel => exact ⟨y, x % y, rfl, rfl, HN, _, by first | rfl | exact World.drewN_drewN _ _ _⟩
      case measure => simp [intOf]; omega

/-- what the loop of the reference's Inverse keeps. -/
def RIRel (a m u v x y : Int) : Prop := GcdRel a m u v ∧ 0 ≤ x ∧ x < m ∧ 0 ≤ y ∧ y < m ∧ (∃ k, x * a = u + m * k) ∧ (∃ k, y * a = v + m * k)

theorem rIRel_start {a m : Int} (h1 : 2 ≤ m) (ha0 : 0 ≤ a) (ha : a < m) : RIRel a m a m (1 % m) 0 := by
  rw [emod_one_of h1]
  exact ⟨⟨by omega, by omega, by omega, by omega, .inr (by omega), fun c => Iff.rfl⟩, by omega, by omega, by omega, by omega, ⟨0, by omega⟩, ⟨-1, by omega⟩⟩

theorem rIRel_step {a m u v x y : Int} (h : RIRel a m u v x y) (hv : 0 < v) : RIRel a m v (u - u / v * v) y ((x - (u / v % m) * y % m) % m) ∧ 0 ≤ u / v ∧ u / v ≤ m ∧ 0 ≤ u / v * v ∧ u / v * v ≤ u ∧ u - u / v * v < v := by
  obtain ⟨hg, x0, x1, y0, y1, ⟨k1, hk1⟩, ⟨k2, hk2⟩⟩ := h
  have hs := gcdRel_step hg hv
  obtain ⟨g1, g2, g3, g4, g5, g6⟩ := hg
  have e1 : u - u / v * v = u % v := by have := Int.emod_add_mul_ediv u v; rw [Int.mul_comm] at this; omega
  have e2 : 0 ≤ u % v := Int.emod_nonneg _ (by omega)
  have e3 : u % v < v := Int.emod_lt_of_pos _ hv
  have e4 : 0 ≤ u / v := Int.ediv_nonneg g1 (by omega)
  have e5 : 0 ≤ u / v * v := Int.mul_nonneg e4 (by omega)
  have e6 : u / v ≤ u / v * v := by have := Int.mul_le_mul_of_nonneg_left (show (1 : Int) ≤ v by omega) e4; omega
  have hm : 0 < m := by omega
  refine ⟨⟨by rw [e1]; exact hs, y0, y1, Int.emod_nonneg _ (by omega), Int.emod_lt_of_pos _ hm, ⟨k2, hk2⟩, ?_⟩, e4, by omega, e5, by omega, by omega⟩
  -- the new coefficient
  obtain ⟨q, hq⟩ : ∃ q, u / v = q := ⟨_, rfl⟩
  rw [hq] at e1 ⊢
  have c1 : ∃ t, (q % m) * y % m = q * y + m * t := by
    refine ⟨-(q / m * y) - ((q % m) * y / m), ?_⟩
    have h1 := Int.emod_add_mul_ediv ((q % m) * y) m
    have h2 : (q % m) * y = q * y - m * (q / m * y) := by
      have := Int.emod_add_mul_ediv q m
      rw [show q % m = q - m * (q / m) by omega, Int.sub_mul, Int.mul_assoc]
    rw [Int.mul_sub, Int.mul_neg]
    omega
  obtain ⟨t, ht⟩ := c1
  obtain ⟨s, hs2⟩ : ∃ s, (x - (q % m) * y % m) % m = x - (q % m) * y % m + m * s := ⟨-((x - (q % m) * y % m) / m), by have := Int.emod_add_mul_ediv (x - (q % m) * y % m) m; rw [Int.mul_neg]; omega⟩
  refine ⟨k1 - q * k2 + (s - t) * a, ?_⟩
  rw [hs2, ht]
  obtain ⟨e, he⟩ : ∃ e, s - t = e := ⟨_, rfl⟩
  rw [he, show x - (q * y + m * t) + m * s = x - q * y + m * e by rw [← he, Int.mul_sub]; omega, Int.add_mul, Int.sub_mul, hk1, Int.mul_assoc q y a, hk2, Int.mul_add q, Int.mul_add m, Int.mul_sub m, ← Int.mul_assoc q m, Int.mul_comm q m, Int.mul_assoc m q, Int.mul_assoc m e a]
  omega

theorem rIRel_done {a m u x y g : Int} (h1 : 2 ≤ m) (h : RIRel a m u 0 x y) (hg : IsGcd a m g) (h1g : g = 1) : IsInv a m x ∧ x * a % m = 1 := by
  obtain ⟨hG, x0, x1, y0, y1, ⟨k1, hk1⟩, _⟩ := h
  obtain ⟨d1, d2, d3, d4, d5⟩ := gcdRel_done hG
  have hu : u ∣ 1 := by rw [← h1g]; exact hg.2.2.2.2 u d3 d4
  have hu1 : u = 1 := by have := Int.le_of_dvd (by omega) hu; omega
  have he : x * a % m = 1 := by
    rw [hk1, hu1, Int.add_mul_emod_self_left]
    exact emod_one_of h1
  exact ⟨⟨x0, x1, .inl he⟩, he⟩

/-- what the reference's Inverse answers. -/
def RInvOut (a m : Int) (w : World) (e : Ending) (w' : World) : Prop :=
  ∃ (x : Int) (b : Bool), e = .returned (.tuple #[.int .i64 x, .bool b]) ∧ IsInv a m x ∧ (b = true ↔ ∃ y, y * a % m = 1) ∧ ∃ n, w' = w.drewN n

set_option maxHeartbeats 3200000 in
theorem rinv_any (a m : Int) (h1 : 2 ≤ m) (h2 : m < 2305843009213693952) (ha0 : 0 ≤ a) (ha : a < m) (w : World) :
    Calls Tryd.prog 74 #[.int .i64 a, .int .i64 m] w (RInvOut a m w) := by
  have hmz : ((m : Int) == 0) = false := by simp; omega
  have HS : Hid (RIRel a m a m (1 % m) 0) := Lib.hid (rIRel_start h1 ha0 ha)
  go_enter Tryd.func74, Tryd.ntmps74
  go_wp2_with fail
  refine (rgcd_any a m (by omega) h2 ha0 ha _).mono ?_
  rintro e w' ⟨g, rfl, hg, n0, rfl⟩
  by_cases hg1 : g = 1
  · have d1 : (g == 1) = true := by simp [hg1]
    have d2 : (g != 1) = false := by simp [hg1]
    have HG := Lib.hid hg
    have HG1 := Lib.hid hg1
    clear hg hg1
    go_wp2
    go_loopw [6, 7, 8, 9] (fun u v s t wr => ∃ u' v' x y : Int, u = .int .i64 u' ∧ v = .int .i64 v' ∧ s = .int .i64 x ∧ t = .int .i64 y ∧ Hid (RIRel a m u' v' x y) ∧ ∃ n, wr = w.drewN n) (fun u v _ _ _ => (intOf v).toNat)
    case atStart => exact ⟨a, m, 1 % m, 0, rfl, rfl, rfl, rfl, HS, n0, rfl⟩
    case round =>
      obtain ⟨u, v, x, y, rfl, rfl, rfl, rfl, HR, n, rfl⟩ := hrel
      by_cases hv : v = 0
      · subst hv
        have HD := Lib.hid (rIRel_done h1 HR.out HG.out HG1.out)
        clear HR
        go_wp2
        go_ret2
        exact ⟨x, true, rfl, HD.out.1, ⟨fun _ => ⟨x, HD.out.2⟩, fun _ => rfl⟩, n, rfl⟩
      · obtain ⟨⟨u0, v0, u1, v1, _⟩, x0, x1, y0, y1, _⟩ := HR.out
        have hvp : 0 < v := by omega
        have d1 : ((v : Int) == 0) = false := by simp [hv]
        have d2 : ((v : Int) != 0) = true := by simp [hv]
        obtain ⟨hst, s1, s2, s3, s4, s5⟩ := rIRel_step HR.out hvp
        obtain ⟨q, hq⟩ : ∃ q, u / v = q := ⟨_, rfl⟩
        rw [hq] at hst s1 s2 s3 s4 s5
        obtain ⟨qv, hqv⟩ : ∃ t, q * v = t := ⟨_, rfl⟩
        rw [hqv] at hst s3 s4 s5
        obtain ⟨r, hr⟩ : ∃ r, q % m = r := ⟨_, rfl⟩
        obtain ⟨p, hp⟩ : ∃ p, r * y % m = p := ⟨_, rfl⟩
        obtain ⟨z, hz⟩ : ∃ z, (x - p) % m = z := ⟨_, rfl⟩
        rw [hr, hp, hz] at hst
        have r0 : 0 ≤ r := by rw [← hr]; exact Int.emod_nonneg _ (by omega)
        have r1 : r < m := by rw [← hr]; exact Int.emod_lt_of_pos _ (by omega)
        have p0 : 0 ≤ p := by rw [← hp]; exact Int.emod_nonneg _ (by omega)
        have p1 : p < m := by rw [← hp]; exact Int.emod_lt_of_pos _ (by omega)
        have HST := Lib.hid hst
        have HRr := Lib.hid hr
        have HPp := Lib.hid hp
        have HZz := Lib.hid hz
        have hdif : IntKind.i64.wrap (x - p) = x - p := IntWalk.i64_in _ (by omega)
        clear hst HR hr hp hz hv
        go_wp2_with fail
        refine (rreduce_any q m r HRr (by omega) h2 (by omega) (by omega) _).mono ?_
        rintro e w' ⟨rfl, rfl⟩
        go_wp2_with fail
        refine (rmul_any r y m p HPp h2 r0 r1 y0 y1 _).mono ?_
        rintro e w' ⟨rfl, rfl⟩
        go_wp2_with fail
        refine (rreduce_any (x - p) m z HZz (by omega) h2 (by omega) (by omega) _).mono ?_
        rintro e w' ⟨rfl, rfl⟩
        go_wp2
        go_roundw
        case rel => exact ⟨v, u - qv, y, z, rfl, rfl, rfl, rfl, HST, _, rfl⟩
        case measure => simp [intOf]; omega
  · have d1 : (g == 1) = false := by simp [hg1]
    have d2 : (g != 1) = true := by simp [hg1]
    have HNO : Hid (∀ y, y * a % m ≠ 1) := Lib.hid (no_inv hg.2.2.1 hg.2.2.2.1 hg.1 hg1)
    have HD : Hid (IsInv a m 0) := Lib.hid ⟨by omega, by omega, .inr ⟨rfl, HNO.out⟩⟩
    clear hg hg1
    go_wp2
    go_ret2
    exact ⟨0, false, rfl, HD.out, ⟨fun h => (by cases h), fun ⟨y, hy⟩ => absurd hy (HNO.out y)⟩, n0, rfl⟩

/-- the inverse of a residue as a function; 0: there is none. -/
noncomputable def invOf (a m : Int) : Int := @dite _ (∃ x, IsInv a m x) (Classical.propDecidable _) (fun h => Classical.choose h) (fun _ => 0)
noncomputable def invB (a m : Int) : Bool := @decide (∃ y, y * a % m = 1) (Classical.propDecidable _)
theorem invOf_eq {a m x : Int} (h : IsInv a m x) : invOf a m = x := by
  have he : ∃ x, IsInv a m x := ⟨x, h⟩
  unfold invOf
  rw [dif_pos he]
  exact isInv_unique (Classical.choose_spec he) h

theorem rinv_val (a m x : Int) (b : Bool) (hx : Hid (invOf a m = x)) (hb : Hid (invB a m = b)) (h1 : 2 ≤ m) (h2 : m < 2305843009213693952) (ha0 : 0 ≤ a) (ha : a < m) (w : World) :
    Calls Tryd.prog 74 #[.int .i64 a, .int .i64 m] w fun e w' => e = .returned (.tuple #[.int .i64 x, .bool b]) ∧ ∃ n, w' = w.drewN n :=
  (rinv_any a m h1 h2 ha0 ha w).mono fun e w' ⟨x', b', he, hi, hb', hn⟩ => by
    obtain rfl : x' = x := (invOf_eq hi).symm.trans hx.out
    obtain rfl : b' = b := by
      rw [← hb.out, invB, Bool.eq_iff_iff]
      simp only [decide_eq_true_eq]
      exact hb'
    exact ⟨he, hn⟩
theorem invOf_bounds {a m x : Int} (hx : invOf a m = x) (h : ∃ y, IsInv a m y) : 0 ≤ x ∧ x < m := by
  obtain ⟨y, hy⟩ := h
  rw [← hx, invOf_eq hy]
  exact ⟨hy.1, hy.2.1⟩
theorem quiet_draws {P : Program} {f : FuncId} {args : Array Value} {w : World} {n : Nat} {v : Value}
    (h : Calls P f args (w.drewN n) fun e w' => e = .returned v ∧ ∃ m, w' = (w.drewN n).drewN m) : Calls P f args (w.drewN n) fun e w'' => e = .returned v ∧ ∃ m, w'' = w.drewN m :=
  h.mono fun _ _ ⟨he, m, hm⟩ => ⟨he, n + m, by rw [hm, World.drewN_drewN]⟩
end Go.Proofs.YtohjfnhgibedpaaDoor
