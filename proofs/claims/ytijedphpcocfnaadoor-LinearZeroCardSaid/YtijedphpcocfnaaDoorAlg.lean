/- Plain algebra of the elements of a group (no program is walked). -/
import Derived.Test.YtijedphpcocfnaaDoorEl
namespace Go.Proofs.YtijedphpcocfnaaDoor
open Go.RowKit SpM
set_option linter.unusedVariables false

theorem emod_one_of {P : Int} (h : 2 ≤ P) : (1 : Int) % P = 1 := Int.emod_eq_of_lt (by omega) (by omega)

theorem pw_def (a e m : Int) : pw a e m = a ^ e.toNat % m := rfl

theorem pw_emod (a e m : Int) : pw (a % m) e m = pw a e m := pow_emod a m _

theorem pw_mulb (a b e m : Int) : pw (a * b % m) e m = pw a e m * pw b e m % m := by
  rw [pw_emod, pw_def, pw_def, pw_def, Int.mul_pow, Int.mul_emod]

theorem pw_one (e m : Int) (h : 2 ≤ m) : pw 1 e m = 1 := by rw [pw_def, Int.one_pow, emod_one_of h]

theorem pw_zero (a m : Int) (h : 2 ≤ m) : pw a 0 m = 1 := by rw [pw_def]; show a ^ 0 % m = 1; rw [Int.pow_zero]; exact emod_one_of h

theorem pw_add (a i j m : Int) (hi : 0 ≤ i) (hj : 0 ≤ j) : pw a (i + j) m = pw a i m * pw a j m % m := by
  rw [pw_def, pw_def, pw_def, show (i + j).toNat = i.toNat + j.toNat by omega, Int.pow_add, Int.mul_emod]

theorem pw_pw (a i j m : Int) (hi : 0 ≤ i) (hj : 0 ≤ j) : pw (pw a i m) j m = pw a (i * j) m := by
  rw [pw_def a i, pw_emod, pw_def, pw_def, ← Int.pow_mul]
  congr 2
  obtain ⟨x, rfl⟩ := Int.eq_ofNat_of_zero_le hi
  obtain ⟨y, rfl⟩ := Int.eq_ofNat_of_zero_le hj
  rw [← Int.natCast_mul]
  rfl

theorem pw_one_exp (a m : Int) : pw a 1 m = a % m := by rw [pw_def]; show a ^ 1 % m = _; rw [Int.pow_succ, Int.pow_zero, Int.one_mul]

theorem zero_pow_succ (n : Nat) : (0 : Int) ^ (n + 1) = 0 := by rw [Int.pow_succ, Int.mul_zero]

/-- a residue whose power is 1 is positive. -/
theorem pos_of_pw {x Q P : Int} (h0 : 0 ≤ x) (hQ : 1 ≤ Q) (h : pw x Q P = 1) : 1 ≤ x := by
  by_cases hx : x = 0
  · subst hx
    rw [pw_def] at h
    obtain ⟨n, hn⟩ : ∃ n, Q.toNat = n + 1 := ⟨Q.toNat - 1, by omega⟩
    rw [hn, zero_pow_succ] at h
    simp at h
  · omega

theorem mem_mk {P Q x : Int} (h0 : 0 ≤ x) (h1 : x < P) (hQ : 1 ≤ Q) (h : pw x Q P = 1) : memG P Q x = true := by
  simp [memG]; exact ⟨pos_of_pw h0 hQ h, h1, h⟩

theorem mem_one {P Q : Int} (hP : 2 ≤ P) : memG P Q 1 = true := by
  simp [memG]; exact ⟨by omega, pw_one Q P hP⟩

theorem mem_mul {P Q a b : Int} (hP : 2 ≤ P) (hQ : 1 ≤ Q) (ha : memG P Q a = true) (hb : memG P Q b = true) : memG P Q (a * b % P) = true :=
  mem_mk (Int.emod_nonneg _ (by omega)) (Int.emod_lt_of_pos _ (by omega)) hQ (by rw [pw_mulb, memG_pw ha, memG_pw hb]; exact emod_one_of hP)

theorem mem_pw {P Q a k : Int} (hP : 2 ≤ P) (hQ : 1 ≤ Q) (hk : 0 ≤ k) (ha : memG P Q a = true) : memG P Q (pw a k P) = true := by
  refine mem_mk (Int.emod_nonneg _ (by omega)) (Int.emod_lt_of_pos _ (by omega)) hQ ?_
  rw [pw_pw _ _ _ _ hk (by omega), Int.mul_comm, ← pw_pw _ _ _ _ (by omega) hk, memG_pw ha, pw_one _ _ hP]

/-- powers of an element go by the exponent's residue. -/
theorem pw_mod {P Q a k : Int} (hP : 2 ≤ P) (hQ : 1 ≤ Q) (hk : 0 ≤ k) (ha : pw a Q P = 1) : pw a k P = pw a (k % Q) P := by
  have h1 : 0 ≤ k % Q := Int.emod_nonneg _ (by omega)
  have h2 : 0 ≤ k / Q := Int.ediv_nonneg hk (by omega)
  have e : k = Q * (k / Q) + k % Q := (Int.mul_ediv_add_emod k Q).symm
  have h3 : 0 ≤ Q * (k / Q) := Int.mul_nonneg (by omega) h2
  have h4 : pw a k P = pw a (Q * (k / Q) + k % Q) P := by rw [← e]
  rw [h4, pw_add _ _ _ _ h3 h1, ← pw_pw _ _ _ _ (by omega) h2, ha, pw_one _ _ hP, Int.one_mul, pw_def a (k % Q), Int.emod_emod_of_dvd _ (Int.dvd_refl P)]

/-- a divisor of an element and of the modulus is 1. -/
theorem unit_of_mem {P Q a d : Int} (hP : 2 ≤ P) (hQ : 1 ≤ Q) (ha : memG P Q a = true) (h1 : d ∣ a) (h2 : d ∣ P) (hd : 0 < d) : d = 1 := by
  have h := memG_pw ha
  rw [pw_def] at h
  obtain ⟨n, hn⟩ : ∃ n, Q.toNat = n + 1 := ⟨Q.toNat - 1, by omega⟩
  rw [hn] at h
  have h3 : d ∣ a ^ (n + 1) := by rw [Int.pow_succ]; exact Int.dvd_mul_of_dvd_right h1
  have h4 : d ∣ P * (a ^ (n + 1) / P) := Int.dvd_mul_of_dvd_left h2
  have h5 : d ∣ a ^ (n + 1) - P * (a ^ (n + 1) / P) := Int.dvd_sub h3 h4
  have h6 : a ^ (n + 1) - P * (a ^ (n + 1) / P) = 1 := by have := Int.emod_add_mul_ediv (a ^ (n + 1)) P; omega
  rw [h6] at h5
  have := Int.le_of_dvd (by omega) h5
  omega

/-- the inverse of an element is an element. -/
theorem mem_inv {P Q a x : Int} (hP : 2 ≤ P) (hQ : 1 ≤ Q) (ha : memG P Q a = true) (h0 : 0 ≤ x) (h1 : x < P) (h : x * a % P = 1) : memG P Q x = true := by
  refine mem_mk h0 h1 hQ ?_
  have e : pw (x * a % P) Q P = pw x Q P := by rw [pw_mulb, memG_pw ha, Int.mul_one, pw_def x, Int.emod_emod_of_dvd _ (Int.dvd_refl P)]
  rw [← e, h, pw_one _ _ hP]

/-- multiplying by an inverse undoes a product. -/
theorem mul_undo {P a k x : Int} (hk0 : 0 ≤ k) (hk : k < P) (h : x * a % P = 1) : (k * a % P) * x % P = k := by
  have e : k * a * x = k * (x * a) := by rw [Int.mul_assoc, Int.mul_comm a x]
  rw [Int.mul_emod, Int.emod_emod_of_dvd _ (Int.dvd_refl P), ← Int.mul_emod, e, Int.mul_emod, h, Int.mul_one, Int.emod_emod_of_dvd _ (Int.dvd_refl P), Int.emod_eq_of_lt hk0 hk]
end Go.Proofs.YtijedphpcocfnaaDoor
