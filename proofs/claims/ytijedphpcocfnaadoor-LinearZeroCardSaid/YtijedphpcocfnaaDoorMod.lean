/- Plain arithmetic of powers modulo a number (no program). -/
import Derived.WalkKit
namespace Go.Proofs.YtijedphpcocfnaaDoor
namespace SpM

theorem pow_emod (a m : Int) (k : Nat) : (a % m) ^ k % m = a ^ k % m := by
  induction k with
  | zero => simp
  | succ n ih => rw [Int.pow_succ, Int.pow_succ, Int.mul_emod, ih, Int.emod_emod_of_dvd _ (Int.dvd_refl m), ← Int.mul_emod]

theorem mul_pow_emod (x a m : Int) (k : Nat) : (x % m) * (a % m) ^ k % m = x * a ^ k % m := by
  rw [Int.mul_emod, pow_emod, Int.emod_emod_of_dvd _ (Int.dvd_refl m), ← Int.mul_emod]

theorem mul_pow_emod' (x a m : Int) (k : Nat) : x * (a % m) ^ k % m = x * a ^ k % m := by
  rw [Int.mul_emod, pow_emod, ← Int.mul_emod]

theorem pow_two_mul (a : Int) (k : Nat) : (a * a) ^ k = a ^ (2 * k) := by
  rw [Int.pow_mul]; congr 1; rw [Int.pow_succ, Int.pow_succ, Int.pow_zero, Int.one_mul]

/-- a power modulo a number. -/
def pw (a e m : Int) : Int := a ^ e.toNat % m

theorem pw_lt (a e m : Int) (h : 0 < m) : 0 ≤ pw a e m ∧ pw a e m < m := ⟨Int.emod_nonneg _ (by omega), Int.emod_lt_of_pos _ h⟩

/-- what the loop of a power keeps. -/
def PowRel (a e m a' e' x' : Int) : Prop := x' * a' ^ e'.toNat % m = pw a e m

theorem powRel_start (a e m : Int) : PowRel a e m a e (1 % m) := by
  unfold PowRel pw
  rw [Int.mul_emod, Int.emod_emod_of_dvd _ (Int.dvd_refl m), ← Int.mul_emod, Int.one_mul]

theorem powRel_odd {a e m a' e' x' k : Int} (h : PowRel a e m a' e' x') (he : e' = 2 * k + 1) (hk : 0 ≤ k) : PowRel a e m (a' * a' % m) k (x' * a' % m) := by
  unfold PowRel at *
  rw [mul_pow_emod, pow_two_mul, ← h]
  have : e'.toNat = 2 * k.toNat + 1 := by omega
  rw [this, Int.pow_succ, Int.mul_assoc, Int.mul_comm a']

theorem powRel_even {a e m a' e' x' k : Int} (h : PowRel a e m a' e' x') (he : e' = 2 * k) (hk : 0 ≤ k) : PowRel a e m (a' * a' % m) k x' := by
  unfold PowRel at *
  rw [mul_pow_emod', pow_two_mul, ← h]
  have : e'.toNat = 2 * k.toNat := by omega
  rw [this]

theorem powRel_done {a e m a' x' : Int} (h : PowRel a e m a' 0 x') (h0 : 0 ≤ x') (h1 : x' < m) : x' = pw a e m := by
  unfold PowRel at h
  rw [← h]
  simp
  rw [Int.emod_eq_of_lt h0 h1]

theorem i64_and1 (e : Int) (h : 0 ≤ e) (h2 : e < 9223372036854775808) : bits .and .i64 e 1 = e % 2 := by
  obtain ⟨n, rfl⟩ := Int.eq_ofNat_of_zero_le h
  have h1 : (BitVec.ofInt 64 (n : Int)).toNat = n := by
    rw [BitVec.ofInt_natCast, BitVec.toNat_ofNat]; exact Nat.mod_eq_of_lt (by omega)
  show IntKind.i64.wrap ((BitVec.ofInt 64 (n : Int) &&& BitVec.ofInt 64 (1 : Int)).toNat : Int) = _
  rw [BitVec.toNat_and, h1, show (BitVec.ofInt 64 (1 : Int)).toNat = 1 from rfl, Nat.and_one_is_mod, IntKind.wrap_i64]
  omega

theorem u64_and1 (e : Int) (h : 0 ≤ e) (h2 : e < 18446744073709551616) : bits .and .u64 e 1 = e % 2 := by
  obtain ⟨n, rfl⟩ := Int.eq_ofNat_of_zero_le h
  have := bits_and_u64_nat n 1 (by omega) (by decide)
  rw [show ((1 : Nat) : Int) = (1 : Int) from rfl] at this
  rw [this, Nat.and_one_is_mod]
  omega
end SpM
end Go.Proofs.YtijedphpcocfnaaDoor
