/- The contracts of the reference of layer 1: products and powers. -/
import Derived.Test.YtijedphpcocfnaaDoorPow
namespace Go.Proofs.YtijedphpcocfnaaDoor
open Go.RowKit SpM
set_option linter.unusedVariables false

theorem ret_int {k : IntKind} {a b : Int} (h : a = b) : Ending.returned (.int k a) = .returned (.int k b) := by rw [h]
def MulRel (a b m a' b' o : Int) : Prop := (o + a' * b') % m = a * b % m
theorem mulRel_start (a b m : Int) : MulRel a b m a b 0 := by unfold MulRel; rw [Int.zero_add]
theorem mulRel_odd {a b m a' b' o k : Int} (h : MulRel a b m a' b' o) (hb : b' = 2 * k + 1) : MulRel a b m ((a' + a') % m) k ((o + a') % m) := by
  unfold MulRel at *
  rw [← h, hb, Int.emod_add_emod, Int.add_emod, Int.mul_emod, Int.emod_emod_of_dvd _ (Int.dvd_refl m), ← Int.mul_emod, ← Int.add_emod]
  congr 1
  rw [Int.mul_add, Int.add_mul, Int.mul_one, ← Int.mul_assoc, Int.mul_comm a' 2, Int.mul_assoc]
  omega
theorem mulRel_even {a b m a' b' o k : Int} (h : MulRel a b m a' b' o) (hb : b' = 2 * k) : MulRel a b m ((a' + a') % m) k o := by
  unfold MulRel at *
  rw [← h, hb, Int.add_emod, Int.mul_emod, Int.emod_emod_of_dvd _ (Int.dvd_refl m), ← Int.mul_emod, ← Int.add_emod]
  congr 1
  rw [Int.add_mul, ← Int.mul_assoc, Int.mul_comm a' 2, Int.mul_assoc]
  omega
theorem mulRel_done {a b m a' o : Int} (h : MulRel a b m a' 0 o) (h0 : 0 ≤ o) (h1 : o < m) : o = a * b % m := by
  unfold MulRel at h
  rw [← h, Int.mul_zero, Int.add_zero, Int.emod_eq_of_lt h0 h1]

set_option maxHeartbeats 800000 in
theorem rmul_any (a b m r : Int) (hr : Hid (a * b % m = r)) (hm : m < 2305843009213693952) (ha0 : 0 ≤ a) (ha : a < m) (hb0 : 0 ≤ b) (hb : b < m) (w : World) :
    Calls Tryd.prog 39 #[.int .i64 a, .int .i64 b, .int .i64 m] w fun e w' => e = .returned (.int .i64 r) ∧ w = w' := by
  have hmz : ((m : Int) == 0) = false := by simp; omega
  by_cases hs : a < 2147483648 ∧ b < 2147483648
  · obtain ⟨hs1, hs2⟩ := hs
    have hp0 : 0 ≤ a * b := Int.mul_nonneg ha0 hb0
    have hp1 : a * b ≤ 2147483648 * 2147483648 := Int.mul_le_mul (by omega) (by omega) hb0 (by decide)
    obtain ⟨p, hp⟩ : ∃ p, a * b = p := ⟨_, rfl⟩
    have hr2 : p % m = r := by rw [← hp]; exact hr.out
    rw [hp] at hp0 hp1
    have hw : wrap64 (a * b) = p := by rw [hp]; exact IntWalk.wrap64_in _ (by omega)
    have HP := Lib.hid hp
    clear hp
    have HR := Lib.hid hr2
    clear hr2
    go_enter Tryd.func39, Tryd.ntmps39
    go_wp2
    go_ret
    exact ⟨ret_int HR.out, rfl⟩
  · have HS : Hid (MulRel a b m a b 0) := mulRel_start a b m
    by_cases ha2 : a < 2147483648
    all_goals
      first | (have hb2 : ¬ b < 2147483648 := by omega) | skip
      clear hs
      go_enter Tryd.func39, Tryd.ntmps39
      go_wp2
      go_loop [0, 1, 7] (fun u v t => ∃ a' b' o : Int, u = .int .i64 a' ∧ v = .int .i64 b' ∧ t = .int .i64 o ∧ 0 ≤ a' ∧ a' < m ∧ 0 ≤ b' ∧ b' < m ∧ 0 ≤ o ∧ o < m ∧ Hid (MulRel a b m a' b' o)) (fun _ v _ => (intOf v).toNat)
      case atStart => exact ⟨a, b, 0, rfl, rfl, rfl, ha0, ha, hb0, hb, by omega, by omega, HS⟩
      case round =>
        obtain ⟨a', b', o, rfl, rfl, rfl, ha0', ha', hb0', hb', ho0, ho', HR⟩ := hrel
        by_cases h0 : b' = 0
        · subst h0
          obtain rfl := (mulRel_done HR.out ho0 ho').trans hr.out
          clear HR ho0 ho'
          go_wp2
          go_ret
          exact ⟨rfl, rfl⟩
        · have hpos : decide (0 < b') = true := by simp; omega
          have hpp : 1 ≤ b' := by omega
          have hq0 : 0 ≤ (a' + a') % m := Int.emod_nonneg _ (by omega)
          have hq1 : (a' + a') % m < m := Int.emod_lt_of_pos _ (by omega)
          by_cases hodd : b' % 2 = 1
          · have ht : ((b' % 2 : Int) == 1) = true := by simp [hodd]
            have hp0 : 0 ≤ (o + a') % m := Int.emod_nonneg _ (by omega)
            have hp1 : (o + a') % m < m := Int.emod_lt_of_pos _ (by omega)
            have HN : Hid (MulRel a b m ((a' + a') % m) (b' / 2) ((o + a') % m)) := mulRel_odd HR.out (by omega)
            clear h0 hodd
            go_wp2
            go_round
            case rel => exact ⟨_, b' / 2, _, rfl, rfl, rfl, hq0, hq1, by omega, by omega, hp0, hp1, HN⟩
            case measure => simp [intOf]; omega
          · have ht : ((b' % 2 : Int) == 1) = false := by simp [hodd]
            have HN : Hid (MulRel a b m ((a' + a') % m) (b' / 2) o) := mulRel_even HR.out (by omega)
            clear h0 hodd
            go_wp2
            go_round
            case rel => exact ⟨_, b' / 2, _, rfl, rfl, rfl, hq0, hq1, by omega, by omega, ho0, ho', HN⟩
            case measure => simp [intOf]; omega

set_option maxHeartbeats 800000 in
theorem rpow_any (a e m r : Int) (hr : Hid (pw a e m = r)) (h1 : 1 ≤ m) (h2 : m < 2305843009213693952) (ha0 : 0 ≤ a) (ha : a < m) (he0 : 0 ≤ e) (he : e < 9223372036854775808) (w : World) :
    Calls Tryd.prog 60 #[.int .i64 a, .int .i64 e, .int .i64 m] w fun e' w' => e' = .returned (.int .i64 r) ∧ w = w' := by
  have hm : ((m : Int) == 0) = false := by simp; omega
  have hx1 : Hid (0 ≤ 1 % m ∧ 1 % m < m) := ⟨Int.emod_nonneg _ (by omega), Int.emod_lt_of_pos _ (by omega)⟩
  have HS : Hid (PowRel a e m a e (1 % m)) := powRel_start a e m
  go_enter Tryd.func60, Tryd.ntmps60
  go_wp2
  go_loop [0, 1, 7] (fun u v t => ∃ a' e' x' : Int, u = .int .i64 a' ∧ v = .int .i64 e' ∧ t = .int .i64 x' ∧ 0 ≤ a' ∧ a' < m ∧ 0 ≤ e' ∧ e' < 9223372036854775808 ∧ 0 ≤ x' ∧ x' < m ∧ Hid (PowRel a e m a' e' x')) (fun _ v _ => (intOf v).toNat)
  case atStart => exact ⟨a, e, 1 % m, rfl, rfl, rfl, ha0, ha, he0, he, hx1.out.1, hx1.out.2, HS⟩
  case round =>
    obtain ⟨a', e', x', rfl, rfl, rfl, ha0', ha', he0', he', hx0', hx', HR⟩ := hrel
    by_cases h0 : e' = 0
    · subst h0
      obtain rfl := (powRel_done HR.out hx0' hx').trans hr.out
      clear HR hx0' hx'
      go_wp2
      go_ret
      exact ⟨rfl, rfl⟩
    · have hpos : decide (0 < e') = true := by simp; omega
      have hpp : 1 ≤ e' := by omega
      have hq0 : 0 ≤ a' * a' % m := Int.emod_nonneg _ (by omega)
      have hq1 : a' * a' % m < m := Int.emod_lt_of_pos _ (by omega)
      by_cases ho : e' % 2 = 1
      · have ht : ((e' % 2 : Int) == 1) = true := by simp [ho]
        have hp0 : 0 ≤ x' * a' % m := Int.emod_nonneg _ (by omega)
        have hp1 : x' * a' % m < m := Int.emod_lt_of_pos _ (by omega)
        have HN : Hid (PowRel a e m (a' * a' % m) (e' / 2) (x' * a' % m)) := powRel_odd HR.out (by omega) (by omega)
        obtain ⟨q, hq⟩ : ∃ q, a' * a' % m = q := ⟨_, rfl⟩
        obtain ⟨p, hp⟩ : ∃ p, x' * a' % m = p := ⟨_, rfl⟩
        rw [hq] at hq0 hq1 HN
        rw [hp] at hp0 hp1 HN
        have HQ := Lib.hid hq
        have HP := Lib.hid hp
        clear hq hp ho h0
        go_wp2_with fail
        refine (rmul_any _ _ _ p HP h2 hx0' hx' ha0' ha' _).mono ?_
        rintro e w' ⟨rfl, rfl⟩
        go_wp2_with fail
        refine (rmul_any _ _ _ q HQ h2 ha0' ha' ha0' ha' _).mono ?_
        rintro e w' ⟨rfl, rfl⟩
        go_wp2
        go_round
        case rel => exact ⟨q, e' / 2, p, rfl, rfl, rfl, hq0, hq1, by omega, by omega, hp0, hp1, HN⟩
        case measure => simp [intOf]; omega
      · have ht : ((e' % 2 : Int) == 1) = false := by simp [ho]
        have HN : Hid (PowRel a e m (a' * a' % m) (e' / 2) x') := powRel_even HR.out (by omega) (by omega)
        obtain ⟨q, hq⟩ : ∃ q, a' * a' % m = q := ⟨_, rfl⟩
        rw [hq] at hq0 hq1 HN
        have HQ := Lib.hid hq
        clear hq ho h0
        go_wp2_with fail
        refine (rmul_any _ _ _ q HQ h2 ha0' ha' ha0' ha' _).mono ?_
        rintro e w' ⟨rfl, rfl⟩
        go_wp2
        go_round
        case rel => exact ⟨q, e' / 2, x', rfl, rfl, rfl, hq0, hq1, by omega, by omega, hx0', hx', HN⟩
        case measure => simp [intOf]; omega
end Go.Proofs.YtijedphpcocfnaaDoor
