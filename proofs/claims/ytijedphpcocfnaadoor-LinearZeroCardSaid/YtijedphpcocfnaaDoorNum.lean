/- Plain arithmetic of the long division by halves (no program). -/
import Derived.WalkKit
import Derived.Lib.BitFns
namespace Go.Proofs.YtijedphpcocfnaaDoor
namespace SpM


/-- half a step of the long division: the estimate that passes the test is the quotient's digit. -/
theorem half_le {y1 y0 u un q r : Nat} (h : q * y1 + r = u) (hy : q * y0 ≤ 4294967296 * r + un) :
    q * (y1 * 4294967296 + y0) ≤ u * 4294967296 + un := by grind

theorem half_gt {y1 y0 u un q r : Nat} (h : q * y1 + r = u) (hy : 4294967296 * r + un < q * y0) :
    u * 4294967296 + un < q * (y1 * 4294967296 + y0) := by grind

/-- the digit. -/
def dig (y u un : Nat) : Nat := (u * 4294967296 + un) / y

theorem dig_lt {y u un : Nat} (hu : u < y) (hun : un < 4294967296) : dig y u un < 4294967296 := by
  unfold dig
  rw [Nat.div_lt_iff_lt_mul (by omega)]
  have : (u + 1) * 4294967296 ≤ y * 4294967296 := Nat.mul_le_mul_right _ hu
  omega

theorem dig_start {y1 y0 u un : Nat} (h1 : 0 < y1) (hun : un < 4294967296) : dig (y1 * 4294967296 + y0) u un ≤ u / y1 := by
  unfold dig
  rw [Nat.le_div_iff_mul_le h1]
  have h0 : 0 < y1 * 4294967296 + y0 := by omega
  have h := Nat.div_mul_le_self (u * 4294967296 + un) (y1 * 4294967296 + y0)
  generalize (u * 4294967296 + un) / (y1 * 4294967296 + y0) = Q at *
  have e : Q * (y1 * 4294967296 + y0) = Q * y1 * 4294967296 + Q * y0 := by grind
  rw [e] at h
  have : 0 ≤ Q * y0 := Nat.zero_le _
  generalize Q * y1 = A at *
  generalize Q * y0 = B at *
  omega

theorem dig_done {y1 y0 u un q r : Nat} (h0 : 0 < y1) (h : q * y1 + r = u) (hq : dig (y1 * 4294967296 + y0) u un ≤ q) (hy : q * y0 ≤ 4294967296 * r + un) :
    q = dig (y1 * 4294967296 + y0) u un := by
  have := half_le h hy
  have : q ≤ dig (y1 * 4294967296 + y0) u un := by
    unfold dig
    rw [Nat.le_div_iff_mul_le (by omega)]
    exact this
  omega

theorem dig_big {y1 y0 u un q r : Nat} (hu : u < y1 * 4294967296 + y0) (hy0 : y0 < 4294967296) (h : q * y1 + r = u) (hr : 4294967296 ≤ r) : q * y0 ≤ 4294967296 * r + un ∧ q < 4294967296 := by
  have hq : q < 4294967296 := by
    have h2 : q * y1 < y1 * 4294967296 := by omega
    have h3 : q * y1 < 4294967296 * y1 := by omega
    exact Nat.lt_of_mul_lt_mul_right h3
  refine ⟨?_, hq⟩
  have : q * y0 ≤ 4294967296 * 4294967296 := Nat.mul_le_mul (by omega) (by omega)
  omega

theorem dig_next {y1 y0 u un q r : Nat} (hu : u < y1 * 4294967296 + y0) (hun : un < 4294967296) (h : q * y1 + r = u) (hq : dig (y1 * 4294967296 + y0) u un ≤ q)
    (ht : 4294967296 ≤ q ∨ 4294967296 * r + un < q * y0) : dig (y1 * 4294967296 + y0) u un ≤ q - 1 ∧ 1 ≤ q ∧ (q - 1) * y1 + (r + y1) = u := by
  have hd := dig_lt hu hun
  have h1 : 1 ≤ q := by
    rcases ht with ht | ht
    · omega
    · cases q with
      | zero => simp at ht
      | succ n => omega
  refine ⟨?_, h1, ?_⟩
  · rcases ht with ht | ht
    · omega
    · have := half_gt h ht
      have : dig (y1 * 4294967296 + y0) u un < q := by
        unfold dig
        rw [Nat.div_lt_iff_lt_mul (by omega)]
        exact this
      omega
  · obtain ⟨n, rfl⟩ : ∃ n, q = n + 1 := ⟨q - 1, by omega⟩
    simp only [Nat.add_sub_cancel]
    rw [← h, Nat.add_mul]; omega


theorem bitLen_eq (x : Nat) (h0 : x ≠ 0) (hx : x < 2 ^ 64) : Lib.bitLen x = x.log2 + 1 := by
  have h1 : 2 ^ x.log2 ≤ x := Nat.log2_self_le h0
  have h2 : x < 2 ^ (x.log2 + 1) := Nat.lt_log2_self
  rw [Lib.bitLen_shift x.log2 x h1 hx]
  have h3 : x / 2 ^ x.log2 = 1 := by
    rw [Nat.div_eq_iff (Nat.two_pow_pos _)]
    rw [Nat.pow_succ] at h2
    omega
  rw [h3]
  rfl

/-- the shift that makes the divisor great. -/
theorem shift_spec (y : Nat) (h0 : 0 < y) (hy : y < 9223372036854775808) :
    ∃ s, 64 - Lib.bitLen y = s ∧ 1 ≤ s ∧ s ≤ 63 ∧ 9223372036854775808 ≤ y * 2 ^ s ∧ y * 2 ^ s < 18446744073709551616 := by
  have h1 : 2 ^ y.log2 ≤ y := Nat.log2_self_le (by omega)
  have h2 : y < 2 ^ (y.log2 + 1) := Nat.lt_log2_self
  have h3 : y.log2 < 63 := by
    rw [Nat.log2_lt (by omega)]; exact hy
  refine ⟨63 - y.log2, ?_, by omega, by omega, ?_, ?_⟩
  · rw [bitLen_eq y (by omega) (by omega)]; omega
  · have : 2 ^ y.log2 * 2 ^ (63 - y.log2) = 9223372036854775808 := by rw [← Nat.pow_add, show y.log2 + (63 - y.log2) = 63 from by omega]
    rw [← this]; exact Nat.mul_le_mul_right _ h1
  · have : 2 ^ (y.log2 + 1) * 2 ^ (63 - y.log2) = 18446744073709551616 := by rw [← Nat.pow_add, show y.log2 + 1 + (63 - y.log2) = 64 from by omega]
    rw [← this]; exact Nat.mul_lt_mul_of_pos_right h2 (Nat.two_pow_pos _)

theorem two_pow_split (s : Nat) (h : s ≤ 64) : 18446744073709551616 = 2 ^ (64 - s) * 2 ^ s := by
  rw [← Nat.pow_add, show 64 - s + s = 64 from by omega]

theorem wrap_of_nat (x : Nat) : IntKind.u64.wrap (x : Int) = ((x % 18446744073709551616 : Nat) : Int) := by
  rw [IntKind.wrap_u64]; omega

theorem nat_pow_int (s : Nat) : (2 : Int) ^ s = ((2 ^ s : Nat) : Int) := by simp

theorem norm_Y (y s : Nat) (h : y * 2 ^ s < 18446744073709551616) : IntKind.u64.wrap ((y : Int) * 2 ^ s) = ((y * 2 ^ s : Nat) : Int) := by
  rw [nat_pow_int, ← Int.natCast_mul, wrap_of_nat, Nat.mod_eq_of_lt h]

theorem norm_L (lo s : Nat) : IntKind.u64.wrap ((lo : Int) * 2 ^ s) = ((lo * 2 ^ s % 18446744073709551616 : Nat) : Int) := by
  rw [nat_pow_int, ← Int.natCast_mul, wrap_of_nat]

theorem mask32 (x : Nat) (h : x < 18446744073709551616) : bits .and .u64 (x : Int) 4294967295 = ((x % 4294967296 : Nat) : Int) := by
  have := bits_and_u64_nat x 4294967295 h (by decide)
  rw [show ((4294967295 : Nat) : Int) = (4294967295 : Int) from rfl] at this
  rw [this]
  congr 1
  rw [show 4294967295 = 2 ^ 32 - 1 from rfl, Nat.and_two_pow_sub_one_eq_mod]

theorem norm_U (hi lo y s : Nat) (hs : s ≤ 63) (hs1 : 1 ≤ s) (hh : hi < y) (hlo : lo < 18446744073709551616) (h : y * 2 ^ s < 18446744073709551616) :
    bits .or .u64 (IntKind.u64.wrap ((hi : Int) * 2 ^ s)) ((lo : Int) / 2 ^ (64 - s)) = ((hi * 2 ^ s + lo / 2 ^ (64 - s) : Nat) : Int) ∧ hi * 2 ^ s + lo / 2 ^ (64 - s) < y * 2 ^ s := by
  have hb : lo / 2 ^ (64 - s) < 2 ^ s := by
    rw [Nat.div_lt_iff_lt_mul (Nat.two_pow_pos _), Nat.mul_comm, ← two_pow_split s (by omega)]; exact hlo
  have ha : (hi + 1) * 2 ^ s ≤ y * 2 ^ s := Nat.mul_le_mul_right _ hh
  rw [Nat.add_mul] at ha
  refine ⟨?_, by omega⟩
  rw [norm_Y hi s (by omega), nat_pow_int, ← Int.natCast_ediv, bits_or_u64_nat _ _ (by omega) (by omega)]
  congr 1
  rw [Nat.mul_comm hi, Nat.two_pow_add_eq_or_of_lt hb]

/-- the whole division out of both halves. -/
theorem div_join (hi lo y s Y U L : Nat) (hs : s ≤ 63) (hY : Y = y * 2 ^ s) (hU : U = hi * 2 ^ s + lo / 2 ^ (64 - s)) (hL : L = lo * 2 ^ s % 18446744073709551616) (hy : 0 < y) :
    (hi * 18446744073709551616 + lo) / y = dig Y U (L / 4294967296) * 4294967296 + dig Y ((U * 4294967296 + L / 4294967296) % Y) (L % 4294967296) ∧
    (hi * 18446744073709551616 + lo) % y * 2 ^ s = ((U * 4294967296 + L / 4294967296) % Y * 4294967296 + L % 4294967296) % Y := by
  have hYp : 0 < Y := by rw [hY]; exact Nat.mul_pos hy (Nat.two_pow_pos _)
  have e : (hi * 18446744073709551616 + lo) * 2 ^ s = U * 18446744073709551616 + L := by
    have e1 : lo * 2 ^ s = lo / 2 ^ (64 - s) * 18446744073709551616 + lo * 2 ^ s % 18446744073709551616 := by
      have e2 : lo * 2 ^ s / 18446744073709551616 = lo / 2 ^ (64 - s) := by
        rw [two_pow_split s (by omega), Nat.mul_div_mul_right _ _ (Nat.two_pow_pos _)]
      rw [← e2]; exact (Nat.div_add_mod' _ _).symm
    rw [hU, hL, Nat.add_mul, Nat.add_mul]
    have e3 : hi * 18446744073709551616 * 2 ^ s = hi * 2 ^ s * 18446744073709551616 := by rw [Nat.mul_right_comm]
    rw [e3]; omega
  have q1 : (hi * 18446744073709551616 + lo) / y = (U * 18446744073709551616 + L) / Y := by
    rw [← e, hY, Nat.mul_div_mul_right _ _ (Nat.two_pow_pos _)]
  have q2 : (hi * 18446744073709551616 + lo) % y * 2 ^ s = (U * 18446744073709551616 + L) % Y := by
    rw [← e, hY, Nat.mul_mod_mul_right]
  have e4 : U * 18446744073709551616 + L = (U * 4294967296 + L / 4294967296) * 4294967296 + L % 4294967296 := by omega
  obtain ⟨N, hN⟩ : ∃ N, U * 4294967296 + L / 4294967296 = N := ⟨_, rfl⟩
  obtain ⟨l, hl⟩ : ∃ l, L % 4294967296 = l := ⟨_, rfl⟩
  rw [q1, q2, e4]
  unfold dig
  rw [hN, hl]
  have eN : N * 4294967296 + l = N / Y * 4294967296 * Y + (N % Y * 4294967296 + l) := by
    have h1 := Nat.div_add_mod' N Y
    have h2 : N * 4294967296 = (N / Y * Y + N % Y) * 4294967296 := by rw [h1]
    rw [h2, Nat.add_mul, Nat.mul_right_comm]; omega
  constructor
  · rw [eN, Nat.add_comm, Nat.add_mul_div_right _ _ hYp, Nat.add_comm]
  · rw [eN, Nat.add_comm, Nat.add_mul_mod_self_right]
end SpM
end Go.Proofs.YtijedphpcocfnaaDoor
