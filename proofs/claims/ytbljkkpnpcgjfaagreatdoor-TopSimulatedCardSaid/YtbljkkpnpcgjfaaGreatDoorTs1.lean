/- Contracts and lemmas: Num, Div, Word, Mod, WordB, Pow, Mr, Prime, PrimeB, Is, Group, El, Alg, LawKit, Inv, Chk, Cf, Bits, RBits, RefA, RefB, RefC, GroupR, Gops, RefD, Sml, Slk, Sha. -/
import Derived.WalkKit
import Derived.Lib.BitFns
import Derived.Test.YtbljkkpnpcgjfaaGreatDoorTsS
import Derived.Deep.QuietTactic
import Derived.BigQuiet
import Derived.Lib.Hide
import Derived.Outline
import Derived.Lib.TrailingZeros
import Derived.Test.YtbljkkpnpcgjfaaGreatDoorCards
import Derived.Test.YtbljkkpnpcgjfaaGreatDoorTie
import Derived.ProofKit
import Derived.OpenShut
import Derived.Carry
import Derived.Deep.DeepHandedRow
import Derived.Lib.LaidTab
import Derived.Stop.LaidErr
import Derived.Laws.MakeOwn
import Derived.Laws.OwnMore
import Derived.Deep.OwnRows
import Derived.OwnWalk
import Derived.Maps.AppendAt
import Derived.Deep.RegionHeld3
import Derived.Laws.BitsAllLaws
import Derived.BigRegion
import Derived.Deep.WholeRow
import Derived.Deep.Cut
import Derived.ChangeMaps5
import Derived.Deep.AppendLies
import Derived.Laws.AppendOwnNone
import Derived.Deep.MidRow
import Derived.Lib.ItoaLen
import Derived.Deep.Slices
import Derived.Laws.EntriesVeiled
import Derived.Great.BuildSlice
set_option linter.unusedVariables false
set_option linter.unusedSimpArgs false
set_option maxRecDepth 100000
set_option maxHeartbeats 25600000
namespace Go.Proofs.YtbljkkpnpcgjfaaGreatDoor
theorem aa {p : Prop} (h : p) : Go.RowKit.Hid p := Go.Lib.hid h
namespace rM
theorem Mj {y1 y0 u un q r : Nat} (h : q * y1 + r = u) (hy : q * y0 ≤ 4294967296 * r + un) :
  q * (y1 * 4294967296 + y0) ≤ u * 4294967296 + un := by grind
theorem Mk {y1 y0 u un q r : Nat} (h : q * y1 + r = u) (hy : 4294967296 * r + un < q * y0) :
  u * 4294967296 + un < q * (y1 * 4294967296 + y0) := by grind
def vv (y u un : Nat) : Nat := (u * 4294967296 + un) / y
theorem CU {y u un : Nat} (hu : u < y) (hun : un < 4294967296) : vv y u un < 4294967296 := by
 unfold vv
 rw [Nat.div_lt_iff_lt_mul (by omega)]
 have : (u + 1) * 4294967296 ≤ y * 4294967296 := Nat.mul_le_mul_right _ hu
 omega
theorem F5 {y1 y0 u un : Nat} (h1 : 0 < y1) (hun : un < 4294967296) : vv (y1 * 4294967296 + y0) u un ≤ u / y1 := by
 unfold vv
 rw [Nat.le_div_iff_mul_le h1]
 have h0 : 0 < y1 * 4294967296 + y0 := by omega
 have h := Nat.div_mul_le_self (u * 4294967296 + un) (y1 * 4294967296 + y0)
 generalize (u * 4294967296 + un) / (y1 * 4294967296 + y0) = Q at *
 have e : Q * (y1 * 4294967296 + y0) = Q * y1 * 4294967296 + Q * y0 := by grind
 rw [e] at h
 have : 0 ≤ Q * y0 := Nat.zero_le _
 generalize Q * y1 = A at *
 generalize Q * y0 = B at *
 omega
theorem AL {y1 y0 u un q r : Nat} (h0 : 0 < y1) (h : q * y1 + r = u) (hq : vv (y1 * 4294967296 + y0) u un ≤ q) (hy : q * y0 ≤ 4294967296 * r + un) :
  q = vv (y1 * 4294967296 + y0) u un := by
 have := Mj h hy
 have : q ≤ vv (y1 * 4294967296 + y0) u un := by
  unfold vv
  rw [Nat.le_div_iff_mul_le (by omega)]
  exact this
 omega
theorem Mw {y1 y0 u un q r : Nat} (hu : u < y1 * 4294967296 + y0) (hy0 : y0 < 4294967296) (h : q * y1 + r = u) (hr : 4294967296 ≤ r) : q * y0 ≤ 4294967296 * r + un ∧ q < 4294967296 := by
 have hq : q < 4294967296 := by
  have h2 : q * y1 < y1 * 4294967296 := by omega
  have h3 : q * y1 < 4294967296 * y1 := by omega
  exact Nat.lt_of_mul_lt_mul_right h3
 refine ⟨?_, hq⟩
 have : q * y0 ≤ 4294967296 * 4294967296 := Nat.mul_le_mul (by omega) (by omega)
 omega
theorem AJ {y1 y0 u un q r : Nat} (hu : u < y1 * 4294967296 + y0) (hun : un < 4294967296) (h : q * y1 + r = u) (hq : vv (y1 * 4294967296 + y0) u un ≤ q)
  (ht : 4294967296 ≤ q ∨ 4294967296 * r + un < q * y0) : vv (y1 * 4294967296 + y0) u un ≤ q - 1 ∧ 1 ≤ q ∧ (q - 1) * y1 + (r + y1) = u := by
 have hd := CU hu hun
 have h1 : 1 ≤ q := by
  rcases ht with ht | ht
  · omega
  ·
   cases q with
   | zero => simp at ht
   | succ n => omega
 refine ⟨?_, h1, ?_⟩
 ·
  rcases ht with ht | ht
  · omega
  ·
   have := Mk h ht
   have : vv (y1 * 4294967296 + y0) u un < q := by
    unfold vv
    rw [Nat.div_lt_iff_lt_mul (by omega)]
    exact this
   omega
 ·
  obtain ⟨n, rfl⟩ : ∃ n, q = n + 1 := ⟨q - 1, by omega⟩
  simp only [Nat.add_sub_cancel]
  rw [← h, Nat.add_mul]; omega
theorem bitLen_eq (x : Nat) (h0 : x ≠ 0) (hx : x < 2 ^ 64) : Lib.bitLen x = x.log2 + 1 := by
 have h1 : 2 ^ x.log2 ≤ x := Nat.log2_self_le h0
 have h2 : x < 2 ^ (x.log2 + 1) := Nat.lt_log2_self
 rw [Lib.bitLen_shift x.log2 x h1 hx]
 have h3 : x / 2 ^ x.log2 = 1 := by
  rw [Nat.div_eq_iff (Nat.two_pow_pos _)]
  rw [Nat.pow_succ] at h2
  omega
 rw [h3]
 rfl
theorem BH (y : Nat) (h0 : 0 < y) (hy : y < 9223372036854775808) :
  ∃ s, 64 - Lib.bitLen y = s ∧ 1 ≤ s ∧ s ≤ 63 ∧ 9223372036854775808 ≤ y * 2 ^ s ∧ y * 2 ^ s < 18446744073709551616 := by
 have h1 : 2 ^ y.log2 ≤ y := Nat.log2_self_le (by omega)
 have h2 : y < 2 ^ (y.log2 + 1) := Nat.lt_log2_self
 have h3 : y.log2 < 63 := by
  rw [Nat.log2_lt (by omega)]; exact hy
 refine ⟨63 - y.log2, ?_, by omega, by omega, ?_, ?_⟩
 · rw [bitLen_eq y (by omega) (by omega)]; omega
 ·
  have : 2 ^ y.log2 * 2 ^ (63 - y.log2) = 9223372036854775808 := by rw [← Nat.pow_add, show y.log2 + (63 - y.log2) = 63 from by omega]
  rw [← this]; exact Nat.mul_le_mul_right _ h1
 ·
  have : 2 ^ (y.log2 + 1) * 2 ^ (63 - y.log2) = 18446744073709551616 := by rw [← Nat.pow_add, show y.log2 + 1 + (63 - y.log2) = 64 from by omega]
  rw [← this]; exact Nat.mul_lt_mul_of_pos_right h2 (Nat.two_pow_pos _)
theorem nO (s : Nat) (h : s ≤ 64) : 18446744073709551616 = 2 ^ (64 - s) * 2 ^ s := by
 rw [← Nat.pow_add, show 64 - s + s = 64 from by omega]
theorem eX (x : Nat) : IntKind.u64.wrap (x : Int) = ((x % 18446744073709551616 : Nat) : Int) := by
 rw [IntKind.wrap_u64]; omega
theorem jV (s : Nat) : (2 : Int) ^ s = ((2 ^ s : Nat) : Int) := by simp
theorem Iy (y s : Nat) (h : y * 2 ^ s < 18446744073709551616) : IntKind.u64.wrap ((y : Int) * 2 ^ s) = ((y * 2 ^ s : Nat) : Int) := by
 rw [jV, ← Int.natCast_mul, eX, Nat.mod_eq_of_lt h]
theorem N_ (lo s : Nat) : IntKind.u64.wrap ((lo : Int) * 2 ^ s) = ((lo * 2 ^ s % 18446744073709551616 : Nat) : Int) := by
 rw [jV, ← Int.natCast_mul, eX]
theorem mask32 (x : Nat) (h : x < 18446744073709551616) : bits .and .u64 (x : Int) 4294967295 = ((x % 4294967296 : Nat) : Int) := by
 have := bits_and_u64_nat x 4294967295 h (by decide)
 rw [show ((4294967295 : Nat) : Int) = (4294967295 : Int) from rfl] at this
 rw [this]
 congr 1
 rw [show 4294967295 = 2 ^ 32 - 1 from rfl, Nat.and_two_pow_sub_one_eq_mod]
theorem N9 (hi lo y s : Nat) (hs : s ≤ 63) (hs1 : 1 ≤ s) (hh : hi < y) (hlo : lo < 18446744073709551616) (h : y * 2 ^ s < 18446744073709551616) :
  bits .or .u64 (IntKind.u64.wrap ((hi : Int) * 2 ^ s)) ((lo : Int) / 2 ^ (64 - s)) = ((hi * 2 ^ s + lo / 2 ^ (64 - s) : Nat) : Int) ∧ hi * 2 ^ s + lo / 2 ^ (64 - s) < y * 2 ^ s := by
 have hb : lo / 2 ^ (64 - s) < 2 ^ s := by
  rw [Nat.div_lt_iff_lt_mul (Nat.two_pow_pos _), Nat.mul_comm, ← nO s (by omega)]; exact hlo
 have ha : (hi + 1) * 2 ^ s ≤ y * 2 ^ s := Nat.mul_le_mul_right _ hh
 rw [Nat.add_mul] at ha
 refine ⟨?_, by omega⟩
 rw [Iy hi s (by omega), jV, ← Int.natCast_ediv, bits_or_u64_nat _ _ (by omega) (by omega)]
 congr 1
 rw [Nat.mul_comm hi, Nat.two_pow_add_eq_or_of_lt hb]
theorem JI (hi lo y s Y U L : Nat) (hs : s ≤ 63) (hY : Y = y * 2 ^ s) (hU : U = hi * 2 ^ s + lo / 2 ^ (64 - s)) (hL : L = lo * 2 ^ s % 18446744073709551616) (hy : 0 < y) :
  (hi * 18446744073709551616 + lo) / y = vv Y U (L / 4294967296) * 4294967296 + vv Y ((U * 4294967296 + L / 4294967296) % Y) (L % 4294967296) ∧
  (hi * 18446744073709551616 + lo) % y * 2 ^ s = ((U * 4294967296 + L / 4294967296) % Y * 4294967296 + L % 4294967296) % Y := by
 have ZC : 0 < Y := by rw [hY]; exact Nat.mul_pos hy (Nat.two_pow_pos _)
 have e : (hi * 18446744073709551616 + lo) * 2 ^ s = U * 18446744073709551616 + L := by
  have e1 : lo * 2 ^ s = lo / 2 ^ (64 - s) * 18446744073709551616 + lo * 2 ^ s % 18446744073709551616 := by
   have e2 : lo * 2 ^ s / 18446744073709551616 = lo / 2 ^ (64 - s) := by
    rw [nO s (by omega), Nat.mul_div_mul_right _ _ (Nat.two_pow_pos _)]
   rw [← e2]; exact (Nat.div_add_mod' _ _).symm
  rw [hU, hL, Nat.add_mul, Nat.add_mul]
  have e3 : hi * 18446744073709551616 * 2 ^ s = hi * 2 ^ s * 18446744073709551616 := by rw [Nat.mul_right_comm]
  rw [e3]; omega
 have q1 : (hi * 18446744073709551616 + lo) / y = (U * 18446744073709551616 + L) / Y := by
  rw [← e, hY, Nat.mul_div_mul_right _ _ (Nat.two_pow_pos _)]
 have q2 : (hi * 18446744073709551616 + lo) % y * 2 ^ s = (U * 18446744073709551616 + L) % Y := by
  rw [← e, hY, Nat.mul_mod_mul_right]
 have e4 : U * 18446744073709551616 + L = (U * 4294967296 + L / 4294967296) * 4294967296 + L % 4294967296 := by omega
 obtain ⟨N, hN⟩ : ∃ N, U * 4294967296 + L / 4294967296 = N := ⟨_, rfl⟩
 obtain ⟨l, hl⟩ : ∃ l, L % 4294967296 = l := ⟨_, rfl⟩
 rw [q1, q2, e4]
 unfold vv
 rw [hN, hl]
 have eN : N * 4294967296 + l = N / Y * 4294967296 * Y + (N % Y * 4294967296 + l) := by
  have h1 := Nat.div_add_mod' N Y
  have h2 : N * 4294967296 = (N / Y * Y + N % Y) * 4294967296 := by rw [h1]
  rw [h2, Nat.add_mul, Nat.mul_right_comm]; omega
 constructor
 · rw [eN, Nat.add_comm, Nat.add_mul_div_right _ _ ZC, Nat.add_comm]
 · rw [eN, Nat.add_comm, Nat.add_mul_mod_self_right]
end rM
open Go.RowKit rM
def gq (Y1 Y0 U L1 q r : Nat) : Prop := q * Y1 + r = U ∧ vv (Y1 * 4294967296 + Y0) U L1 ≤ q ∧ r < 4294967296
theorem uy {Y1 Y0 U L1 : Nat} (O9 : 2147483648 ≤ Y1) (De : Y1 < 4294967296) (KO : L1 < 4294967296) : gq Y1 Y0 U L1 (U / Y1) (U - U / Y1 * Y1) := by
 have h1 := Nat.div_add_mod' U Y1
 have h2 := Nat.mod_lt U (show Y1 > 0 by omega)
 exact ⟨by omega, F5 (by omega) KO, by omega⟩
theorem iM {Y1 Y0 U L1 q r : Nat} (De : Y1 < 4294967296) (qa : Y0 < 4294967296) (KO : L1 < 4294967296) (bU : U < Y1 * 4294967296 + Y0) (h : gq Y1 Y0 U L1 q r)
  (ht : 4294967296 ≤ q ∨ 4294967296 * r + L1 < q * Y0) (hr : r + Y1 < 4294967296) : gq Y1 Y0 U L1 (q - 1) (r + Y1) ∧ 1 ≤ q := by
 obtain ⟨a, b, c⟩ := h
 have := AJ bU KO a b ht
 exact ⟨⟨this.2.2, this.1, hr⟩, this.2.1⟩
theorem gJ {Y1 Y0 U L1 q r : Nat} (O9 : 0 < Y1) (qa : Y0 < 4294967296) (KO : L1 < 4294967296) (bU : U < Y1 * 4294967296 + Y0) (h : gq Y1 Y0 U L1 q r)
  (ht : 4294967296 ≤ q ∨ 4294967296 * r + L1 < q * Y0) (hr : 4294967296 ≤ r + Y1) : q - 1 = vv (Y1 * 4294967296 + Y0) U L1 ∧ 1 ≤ q := by
 obtain ⟨a, b, c⟩ := h
 have := AJ bU KO a b ht
 exact ⟨AL O9 this.2.2 this.1 (Mw bU qa this.2.2 hr).1, this.2.1⟩
theorem oQ {Y1 Y0 U L1 q r : Nat} (O9 : 0 < Y1) (h : gq Y1 Y0 U L1 q r) (ht : q * Y0 ≤ 4294967296 * r + L1) : q = vv (Y1 * 4294967296 + Y0) U L1 := by
 obtain ⟨a, b, c⟩ := h
 exact AL O9 a b ht
theorem Ll {Y1 Y0 U L1 q r : Nat} (O9 : 0 < Y1) (h : gq Y1 Y0 U L1 q r) (bU : U < Y1 * 4294967296 + Y0) (De : Y1 < 4294967296) (qa : Y0 < 4294967296) : q ≤ 18446744073709551615 := by
 obtain ⟨a, b, c⟩ := h
 have : q * 1 ≤ q * Y1 := Nat.mul_le_mul_left _ O9
 omega
theorem pE {q Y0 : Nat} (h : q < 4294967296) (qa : Y0 < 4294967296) : ∃ M, q * Y0 = M ∧ IntKind.u64.wrap ((q : Int) * (Y0 : Int)) = (M : Int) := by
 refine ⟨_, rfl, ?_⟩
 rw [← Int.natCast_mul, eX, Nat.mod_eq_of_lt]
 have : q * Y0 ≤ 4294967295 * 4294967295 := Nat.mul_le_mul (by omega) (by omega)
 omega
theorem CS (hi lo y : Nat) (s : Nat) (hs : 64 - Lib.bitLen y = s) (hs1 : 1 ≤ s) (hs2 : s ≤ 63) (hh : 0 < hi) (hy : hi < y) (hy2 : y < 9223372036854775808) (hlo : lo < 18446744073709551616) 
    (Y Y1 Y0 U L L1 L0 Q0 P0 R0 D1 T1 T2 T3 R1 Q2 P2 R2 D0 T4 T5 T6 T7 T8 T9 : Nat) (hY : IntKind.u64.wrap ((y : Int) * 2 ^ s) = (Y : Int)) (XA : (Y : Int) / 4294967296 = (Y1 : Int)) (hY0 : bits .and .u64 Y 4294967295 = (Y0 : Int))
   (hU : bits .or .u64 (IntKind.u64.wrap ((hi : Int) * 2 ^ s)) ((lo : Int) / 2 ^ (64 - s)) = (U : Int)) (hL : IntKind.u64.wrap ((lo : Int) * 2 ^ s) = (L : Int)) (hL1 : (L : Int) / 4294967296 = (L1 : Int)) (hL0 : bits .and .u64 L 4294967295 = (L0 : Int))
   (FV : IntKind.u64.wrap ((U : Int) / (Y1 : Int)) = (Q0 : Int)) (XH : IntKind.u64.wrap ((Q0 : Int) * (Y1 : Int)) = (P0 : Int)) (hR0 : IntKind.u64.wrap ((U : Int) - (P0 : Int)) = (R0 : Int))
   (hT1 : IntKind.u64.wrap ((U : Int) * 4294967296) = (T1 : Int)) (hT2 : IntKind.u64.wrap ((T1 : Int) + (L1 : Int)) = (T2 : Int)) (XC : IntKind.u64.wrap ((D1 : Int) * (Y : Int)) = (T3 : Int)) (Vo : IntKind.u64.wrap ((T2 : Int) - (T3 : Int)) = (R1 : Int))
   (Vp : IntKind.u64.wrap ((R1 : Int) / (Y1 : Int)) = (Q2 : Int)) (hP2 : IntKind.u64.wrap ((Q2 : Int) * (Y1 : Int)) = (P2 : Int)) (hR2 : IntKind.u64.wrap ((R1 : Int) - (P2 : Int)) = (R2 : Int))
   (hT4 : IntKind.u64.wrap ((D1 : Int) * 4294967296) = (T4 : Int)) (hT5 : IntKind.u64.wrap ((T4 : Int) + (D0 : Int)) = (T5 : Int))
   (hT6 : IntKind.u64.wrap ((R1 : Int) * 4294967296) = (T6 : Int)) (hT7 : IntKind.u64.wrap ((T6 : Int) + (L0 : Int)) = (T7 : Int)) (hT8 : IntKind.u64.wrap ((D0 : Int) * (Y : Int)) = (T8 : Int)) (hT9 : IntKind.u64.wrap ((T7 : Int) - (T8 : Int)) = (T9 : Int))
   (O9 : 2147483648 ≤ Y1) (De : Y1 < 4294967296) (qa : Y0 < 4294967296) (KO : L1 < 4294967296) (Gy : L0 < 4294967296) 
   (bU : Hid (U < Y1 * 4294967296 + Y0)) (hD1 : Hid (D1 = vv (Y1 * 4294967296 + Y0) U L1)) (bR : Hid (R1 < Y1 * 4294967296 + Y0)) (hD0 : Hid (D0 = vv (Y1 * 4294967296 + Y0) R1 L0))
   (UL : Hid (gq Y1 Y0 U L1 Q0 R0)) (Ol : Hid (gq Y1 Y0 R1 L0 Q2 R2))
   (w : World) :
    Calls Tryz.prog 146 #[.int .u64 hi, .int .u64 lo, .int .u64 y] w fun e w' => e = .returned (.tuple #[.int .u64 (T5 : Int), .int .u64 ((T9 : Int) / 2 ^ s)]) ∧ ∃ n, w' = w.drewN n := by
  have h1 : ((y : Int) == 0) = false := by simp; omega
  have h2 : decide ((y : Int) ≤ (hi : Int)) = false := by simp; omega
  have h3 : ((hi : Int) == 0) = false := by simp; omega
  have hb : (64 : Int) - (Lib.bitLen y : Int) = (s : Int) := by omega
  have HB := aa hb
  clear hb hs
  go_in
  go_wp2_with (go_at_call 163; refine (Tryz.bits_LeadingZeros64 _ _ (by omega) (by omega)).mono ?_; rintro e w' ⟨rfl, rfl⟩; rw [Int.toNat_natCast, HB.out])
  go_loop [15, 16] (fun a b => ∃ q r : Nat, a = .int .u64 q ∧ b = .int .u64 r ∧ gq Y1 Y0 U L1 q r) (fun a _ => (intOf a).toNat)
  case atStart => exact ⟨Q0, R0, rfl, rfl, UL.out⟩
  case round =>
    obtain ⟨q, r, rfl, rfl, HR⟩ := hrel
    have b2 : r < 4294967296 := HR.2.2
    have b3 := Ll (by omega) HR bU.out De qa
    by_cases ht : 4294967296 ≤ q
    · have hd : decide ((4294967296 : Int) ≤ (q : Int)) = true := by simp; omega
      by_cases hr : r + Y1 < 4294967296
      · have hw := iM De qa KO bU.out HR (.inl ht) hr
        have hd2 : decide ((4294967296 : Int) ≤ (r : Int) + (Y1 : Int)) = false := by simp; omega
        have b1 : 1 ≤ q := hw.2
        have HW := aa hw.1
        clear hw hr ht
        go_wp2
        go_round
        case rel => exact ⟨q - 1, r + Y1, by go_num, by go_num, HW.out⟩
        case measure => simp [intOf]; omega
      · have hw := gJ (by omega) qa KO bU.out HR (.inl ht) (by omega)
        rw [← hD1.out] at hw
        have hd2 : decide ((4294967296 : Int) ≤ (r : Int) + (Y1 : Int)) = true := by simp; omega
        have b1 : 1 ≤ q := hw.2
        have hq : (q : Int) - 1 = (D1 : Int) := by omega
        clear hw hr ht
        go_wp2
        clear hq hd2 b1 b2 b3 hd
        go_loop [18, 16] (fun a b => ∃ q r : Nat, a = .int .u64 q ∧ b = .int .u64 r ∧ gq Y1 Y0 R1 L0 q r) (fun a _ => (intOf a).toNat)
        case atStart => exact ⟨Q2, R2, rfl, rfl, Ol.out⟩
        case round =>
          obtain ⟨q, r, rfl, rfl, HR⟩ := hrel
          have b2 : r < 4294967296 := HR.2.2
          have b3 := Ll (by omega) HR bR.out De qa
          by_cases ht : 4294967296 ≤ q
          · have hd : decide ((4294967296 : Int) ≤ (q : Int)) = true := by simp; omega
            by_cases hr : r + Y1 < 4294967296
            · have hw := iM De qa Gy bR.out HR (.inl ht) hr
              have hd2 : decide ((4294967296 : Int) ≤ (r : Int) + (Y1 : Int)) = false := by simp; omega
              have b1 : 1 ≤ q := hw.2
              have HW := aa hw.1
              clear hw hr ht
              go_wp2
              go_round
              case rel => exact ⟨q - 1, r + Y1, by go_num, by go_num, HW.out⟩
              case measure => simp [intOf]; omega
            · have hw := gJ (by omega) qa Gy bR.out HR (.inl ht) (by omega)
              rw [← hD0.out] at hw
              have hd2 : decide ((4294967296 : Int) ≤ (r : Int) + (Y1 : Int)) = true := by simp; omega
              have b1 : 1 ≤ q := hw.2
              have hq : (q : Int) - 1 = (D0 : Int) := by omega
              clear hw hr ht
              go_wp2
              clear hq hd2 b1 b2 b3 hd
              go_ret2
              exact ⟨rfl, 0, rfl⟩
          · have hd : decide ((4294967296 : Int) ≤ (q : Int)) = false := by simp; omega
            obtain ⟨M, hM, OL⟩ := pE (q := q) (by omega) qa
            by_cases hc : 4294967296 * r + L0 < M
            · have hd3 : decide ((4294967296 : Int) * (r : Int) + (L0 : Int) < (M : Int)) = true := by simp; omega
              by_cases hr : r + Y1 < 4294967296
              · have hw := iM De qa Gy bR.out HR (.inr (by rw [hM]; exact hc)) hr
                have hd2 : decide ((4294967296 : Int) ≤ (r : Int) + (Y1 : Int)) = false := by simp; omega
                have b1 : 1 ≤ q := hw.2
                have HW := aa hw.1
                clear hw hr ht hc hM
                go_wp2
                go_round
                case rel => exact ⟨q - 1, r + Y1, by go_num, by go_num, HW.out⟩
                case measure => simp [intOf]; omega
              · have hw := gJ (by omega) qa Gy bR.out HR (.inr (by rw [hM]; exact hc)) (by omega)
                rw [← hD0.out] at hw
                have hd2 : decide ((4294967296 : Int) ≤ (r : Int) + (Y1 : Int)) = true := by simp; omega
                have b1 : 1 ≤ q := hw.2
                have hq : (q : Int) - 1 = (D0 : Int) := by omega
                clear hw hr ht hc hM
                go_wp2
                clear hq hd2 b1 b2 b3 hd
                go_ret2
                exact ⟨rfl, 0, rfl⟩
            · have hd3 : decide ((4294967296 : Int) * (r : Int) + (L0 : Int) < (M : Int)) = false := by simp; omega
              have hw := oQ (by omega) HR (by rw [hM]; omega)
              rw [← hD0.out] at hw
              subst hw
              clear ht hc hM
              go_wp2
              clear hd3 OL b2 b3 hd
              go_ret2
              exact ⟨rfl, 0, rfl⟩
    · have hd : decide ((4294967296 : Int) ≤ (q : Int)) = false := by simp; omega
      obtain ⟨M, hM, OL⟩ := pE (q := q) (by omega) qa
      by_cases hc : 4294967296 * r + L1 < M
      · have hd3 : decide ((4294967296 : Int) * (r : Int) + (L1 : Int) < (M : Int)) = true := by simp; omega
        by_cases hr : r + Y1 < 4294967296
        · have hw := iM De qa KO bU.out HR (.inr (by rw [hM]; exact hc)) hr
          have hd2 : decide ((4294967296 : Int) ≤ (r : Int) + (Y1 : Int)) = false := by simp; omega
          have b1 : 1 ≤ q := hw.2
          have HW := aa hw.1
          clear hw hr ht hc hM
          go_wp2
          go_round
          case rel => exact ⟨q - 1, r + Y1, by go_num, by go_num, HW.out⟩
          case measure => simp [intOf]; omega
        · have hw := gJ (by omega) qa KO bU.out HR (.inr (by rw [hM]; exact hc)) (by omega)
          rw [← hD1.out] at hw
          have hd2 : decide ((4294967296 : Int) ≤ (r : Int) + (Y1 : Int)) = true := by simp; omega
          have b1 : 1 ≤ q := hw.2
          have hq : (q : Int) - 1 = (D1 : Int) := by omega
          clear hw hr ht hc hM
          go_wp2
          clear hq hd2 b1 b2 b3 hd
          go_loop [18, 16] (fun a b => ∃ q r : Nat, a = .int .u64 q ∧ b = .int .u64 r ∧ gq Y1 Y0 R1 L0 q r) (fun a _ => (intOf a).toNat)
          case atStart => exact ⟨Q2, R2, rfl, rfl, Ol.out⟩
          case round =>
            obtain ⟨q, r, rfl, rfl, HR⟩ := hrel
            have b2 : r < 4294967296 := HR.2.2
            have b3 := Ll (by omega) HR bR.out De qa
            by_cases ht : 4294967296 ≤ q
            · have hd : decide ((4294967296 : Int) ≤ (q : Int)) = true := by simp; omega
              by_cases hr : r + Y1 < 4294967296
              · have hw := iM De qa Gy bR.out HR (.inl ht) hr
                have hd2 : decide ((4294967296 : Int) ≤ (r : Int) + (Y1 : Int)) = false := by simp; omega
                have b1 : 1 ≤ q := hw.2
                have HW := aa hw.1
                clear hw hr ht
                go_wp2
                go_round
                case rel => exact ⟨q - 1, r + Y1, by go_num, by go_num, HW.out⟩
                case measure => simp [intOf]; omega
              · have hw := gJ (by omega) qa Gy bR.out HR (.inl ht) (by omega)
                rw [← hD0.out] at hw
                have hd2 : decide ((4294967296 : Int) ≤ (r : Int) + (Y1 : Int)) = true := by simp; omega
                have b1 : 1 ≤ q := hw.2
                have hq : (q : Int) - 1 = (D0 : Int) := by omega
                clear hw hr ht
                go_wp2
                clear hq hd2 b1 b2 b3 hd
                go_ret2
                exact ⟨rfl, 0, rfl⟩
            · have hd : decide ((4294967296 : Int) ≤ (q : Int)) = false := by simp; omega
              obtain ⟨M, hM, OL⟩ := pE (q := q) (by omega) qa
              by_cases hc : 4294967296 * r + L0 < M
              · have hd3 : decide ((4294967296 : Int) * (r : Int) + (L0 : Int) < (M : Int)) = true := by simp; omega
                by_cases hr : r + Y1 < 4294967296
                · have hw := iM De qa Gy bR.out HR (.inr (by rw [hM]; exact hc)) hr
                  have hd2 : decide ((4294967296 : Int) ≤ (r : Int) + (Y1 : Int)) = false := by simp; omega
                  have b1 : 1 ≤ q := hw.2
                  have HW := aa hw.1
                  clear hw hr ht hc hM
                  go_wp2
                  go_round
                  case rel => exact ⟨q - 1, r + Y1, by go_num, by go_num, HW.out⟩
                  case measure => simp [intOf]; omega
                · have hw := gJ (by omega) qa Gy bR.out HR (.inr (by rw [hM]; exact hc)) (by omega)
                  rw [← hD0.out] at hw
                  have hd2 : decide ((4294967296 : Int) ≤ (r : Int) + (Y1 : Int)) = true := by simp; omega
                  have b1 : 1 ≤ q := hw.2
                  have hq : (q : Int) - 1 = (D0 : Int) := by omega
                  clear hw hr ht hc hM
                  go_wp2
                  clear hq hd2 b1 b2 b3 hd
                  go_ret2
                  exact ⟨rfl, 0, rfl⟩
              · have hd3 : decide ((4294967296 : Int) * (r : Int) + (L0 : Int) < (M : Int)) = false := by simp; omega
                have hw := oQ (by omega) HR (by rw [hM]; omega)
                rw [← hD0.out] at hw
                subst hw
                clear ht hc hM
                go_wp2
                clear hd3 OL b2 b3 hd
                go_ret2
                exact ⟨rfl, 0, rfl⟩
      · have hd3 : decide ((4294967296 : Int) * (r : Int) + (L1 : Int) < (M : Int)) = false := by simp; omega
        have hw := oQ (by omega) HR (by rw [hM]; omega)
        rw [← hD1.out] at hw
        subst hw
        clear ht hc hM
        go_wp2
        clear hd3 OL b2 b3 hd
        go_loop [18, 16] (fun a b => ∃ q r : Nat, a = .int .u64 q ∧ b = .int .u64 r ∧ gq Y1 Y0 R1 L0 q r) (fun a _ => (intOf a).toNat)
        case atStart => exact ⟨Q2, R2, rfl, rfl, Ol.out⟩
        case round =>
          obtain ⟨q, r, rfl, rfl, HR⟩ := hrel
          have b2 : r < 4294967296 := HR.2.2
          have b3 := Ll (by omega) HR bR.out De qa
          by_cases ht : 4294967296 ≤ q
          · have hd : decide ((4294967296 : Int) ≤ (q : Int)) = true := by simp; omega
            by_cases hr : r + Y1 < 4294967296
            · have hw := iM De qa Gy bR.out HR (.inl ht) hr
              have hd2 : decide ((4294967296 : Int) ≤ (r : Int) + (Y1 : Int)) = false := by simp; omega
              have b1 : 1 ≤ q := hw.2
              have HW := aa hw.1
              clear hw hr ht
              go_wp2
              go_round
              case rel => exact ⟨q - 1, r + Y1, by go_num, by go_num, HW.out⟩
              case measure => simp [intOf]; omega
            · have hw := gJ (by omega) qa Gy bR.out HR (.inl ht) (by omega)
              rw [← hD0.out] at hw
              have hd2 : decide ((4294967296 : Int) ≤ (r : Int) + (Y1 : Int)) = true := by simp; omega
              have b1 : 1 ≤ q := hw.2
              have hq : (q : Int) - 1 = (D0 : Int) := by omega
              clear hw hr ht
              go_wp2
              clear hq hd2 b1 b2 b3 hd
              go_ret2
              exact ⟨rfl, 0, rfl⟩
          · have hd : decide ((4294967296 : Int) ≤ (q : Int)) = false := by simp; omega
            obtain ⟨M, hM, OL⟩ := pE (q := q) (by omega) qa
            by_cases hc : 4294967296 * r + L0 < M
            · have hd3 : decide ((4294967296 : Int) * (r : Int) + (L0 : Int) < (M : Int)) = true := by simp; omega
              by_cases hr : r + Y1 < 4294967296
              · have hw := iM De qa Gy bR.out HR (.inr (by rw [hM]; exact hc)) hr
                have hd2 : decide ((4294967296 : Int) ≤ (r : Int) + (Y1 : Int)) = false := by simp; omega
                have b1 : 1 ≤ q := hw.2
                have HW := aa hw.1
                clear hw hr ht hc hM
                go_wp2
                go_round
                case rel => exact ⟨q - 1, r + Y1, by go_num, by go_num, HW.out⟩
                case measure => simp [intOf]; omega
              · have hw := gJ (by omega) qa Gy bR.out HR (.inr (by rw [hM]; exact hc)) (by omega)
                rw [← hD0.out] at hw
                have hd2 : decide ((4294967296 : Int) ≤ (r : Int) + (Y1 : Int)) = true := by simp; omega
                have b1 : 1 ≤ q := hw.2
                have hq : (q : Int) - 1 = (D0 : Int) := by omega
                clear hw hr ht hc hM
                go_wp2
                clear hq hd2 b1 b2 b3 hd
                go_ret2
                exact ⟨rfl, 0, rfl⟩
            · have hd3 : decide ((4294967296 : Int) * (r : Int) + (L0 : Int) < (M : Int)) = false := by simp; omega
              have hw := oQ (by omega) HR (by rw [hM]; omega)
              rw [← hD0.out] at hw
              subst hw
              clear ht hc hM
              go_wp2
              clear hd3 OL b2 b3 hd
              go_ret2
              exact ⟨rfl, 0, rfl⟩
theorem AB (lo y : Nat) (hy : 0 < y) (hy2 : y < 18446744073709551616) (hlo : lo < 18446744073709551616) (w : World) :
  Calls Tryz.prog 146 #[.int .u64 (0 : Int), .int .u64 lo, .int .u64 y] w fun e w' => e = .returned (.tuple #[.int .u64 ((lo / y : Nat) : Int), .int .u64 ((lo % y : Nat) : Int)]) ∧ ∃ n, w' = w.drewN n := by
 have h1 : ((y : Int) == 0) = false := by simp; omega
 have h2 : decide ((y : Int) ≤ 0) = false := by simp; omega
 have h3 : IntKind.u64.wrap ((lo : Int) / (y : Int)) = ((lo / y : Nat) : Int) := by
  rw [← Int.natCast_ediv, eX, Nat.mod_eq_of_lt]
  have := Nat.div_le_self lo y; omega
 go_in
 go_wp2
 go_quiet (fail)
 go_wp2
 go_ret2
 exact ⟨rfl, _, rfl⟩
theorem xM (a b : Nat) : IntKind.u64.wrap ((a : Int) - (b : Int)) = (((a + (18446744073709551616 - b % 18446744073709551616)) % 18446744073709551616 : Nat) : Int) := by
 rw [IntKind.wrap_u64]; omega
theorem lq (a b : Nat) : IntKind.u64.wrap ((a : Int) + (b : Int)) = (((a + b) % 18446744073709551616 : Nat) : Int) := by
 rw [← Int.natCast_add, eX]
theorem jc (a b : Nat) : IntKind.u64.wrap ((a : Int) * (b : Int)) = (((a * b) % 18446744073709551616 : Nat) : Int) := by
 rw [← Int.natCast_mul, eX]
theorem nX (a : Nat) : IntKind.u64.wrap ((a : Int) * 4294967296) = (((a * 4294967296) % 18446744073709551616 : Nat) : Int) := by
 rw [show (4294967296 : Int) = ((4294967296 : Nat) : Int) from rfl, jc]
theorem oN (a b : Nat) (h : a < 18446744073709551616) : IntKind.u64.wrap ((a : Int) / (b : Int)) = ((a / b : Nat) : Int) := by
 rw [← Int.natCast_ediv, eX, Nat.mod_eq_of_lt]
 exact Nat.lt_of_le_of_lt (Nat.div_le_self _ _) h
theorem est (U Y1 : Nat) (hU : U < 18446744073709551616) :
  IntKind.u64.wrap (((U / Y1 : Nat) : Int) * (Y1 : Int)) = ((U / Y1 * Y1 : Nat) : Int) ∧ IntKind.u64.wrap ((U : Int) - ((U / Y1 * Y1 : Nat) : Int)) = ((U - U / Y1 * Y1 : Nat) : Int) := by
 have h := Nat.div_mul_le_self U Y1
 rw [jc, Nat.mod_eq_of_lt (by omega)]
 refine ⟨rfl, ?_⟩
 rw [← Int.natCast_sub h, eX, Nat.mod_eq_of_lt (by omega)]
theorem Im (D Y N A B : Nat) (hD : D = N / Y) (hY : 0 < Y) (TI : Y < 18446744073709551616) (hA : A % 18446744073709551616 = N % 18446744073709551616) (hB : B % 18446744073709551616 = D * Y % 18446744073709551616) :
  IntKind.u64.wrap ((A : Int) - (B : Int)) = ((N % Y : Nat) : Int) := by
 have h1 := Nat.div_add_mod' N Y
 have h2 := Nat.mod_lt N hY
 rw [← hD] at h1
 rw [xM]
 generalize N % Y = R at *
 generalize D * Y = P at *
 congr 1
 omega
theorem F4 (hi lo y : Nat) (hh : 0 < hi) (hy : hi < y) (hy2 : y < 9223372036854775808) (hlo : lo < 18446744073709551616) (w : World) :
  Calls Tryz.prog 146 #[.int .u64 hi, .int .u64 lo, .int .u64 y] w fun e w' => e = .returned (.tuple #[.int .u64 (((hi * 18446744073709551616 + lo) / y : Nat) : Int), .int .u64 (((hi * 18446744073709551616 + lo) % y : Nat) : Int)]) ∧ ∃ n, w' = w.drewN n := by
 obtain ⟨s, hs, hs1, hs2, XA, hY2⟩ := BH y (by omega) hy2
 obtain ⟨hU, TK⟩ := N9 hi lo y s hs2 hs1 hy hlo hY2
 have hL := N_ lo s
 have hj := JI hi lo y s _ _ _ hs2 rfl rfl rfl (by omega)
 have hY := Iy y s hY2
 have XL : lo * 2 ^ s % 18446744073709551616 < 18446744073709551616 := Nat.mod_lt _ (by decide)
 obtain ⟨Y, eY⟩ : ∃ Y, y * 2 ^ s = Y := ⟨_, rfl⟩
 obtain ⟨U, eU⟩ : ∃ U, hi * 2 ^ s + lo / 2 ^ (64 - s) = U := ⟨_, rfl⟩
 obtain ⟨L, eL⟩ : ∃ L, lo * 2 ^ s % 18446744073709551616 = L := ⟨_, rfl⟩
 rw [eY] at XA hY2 TK hY hj
 rw [eU] at hU TK hj
 rw [eL] at hL hj XL
 have RP : Y / 4294967296 * 4294967296 + Y % 4294967296 = Y := by omega
 have hm := mask32 Y hY2
 have hml := mask32 L XL
 obtain ⟨Y1, Z0⟩ : ∃ Y1, Y / 4294967296 = Y1 := ⟨_, rfl⟩
 obtain ⟨Y0, XW⟩ : ∃ Y0, Y % 4294967296 = Y0 := ⟨_, rfl⟩
 obtain ⟨L1, Z4⟩ : ∃ L1, L / 4294967296 = L1 := ⟨_, rfl⟩
 obtain ⟨L0, Z5⟩ : ∃ L0, L % 4294967296 = L0 := ⟨_, rfl⟩
 rw [Z0, XW] at RP
 rw [XW] at hm
 rw [Z5] at hml hj
 rw [Z4] at hj
 have b1 : L1 < 4294967296 := by omega
 have b0 : L0 < 4294967296 := by omega
 obtain ⟨R1, VC⟩ : ∃ R1, (U * 4294967296 + L1) % Y = R1 := ⟨_, rfl⟩
 have Vo : R1 < Y := by rw [← VC]; exact Nat.mod_lt _ (by omega)
 rw [VC] at hj
 obtain ⟨D1, TN⟩ : ∃ D1, vv Y U L1 = D1 := ⟨_, rfl⟩
 obtain ⟨D0, TP⟩ : ∃ D0, vv Y R1 L0 = D0 := ⟨_, rfl⟩
 rw [TN, TP] at hj
 have hD1 : D1 < 4294967296 := by rw [← TN]; exact CU TK b1
 have hD0 : D0 < 4294967296 := by rw [← TP]; exact CU Vo b0
 have e1 := est U Y1 (by omega)
 have e2 := est R1 Y1 (by omega)
 have r1 := Im D1 Y (U * 4294967296 + L1) ((U * 4294967296 % 18446744073709551616 + L1) % 18446744073709551616) (D1 * Y % 18446744073709551616) (by rw [← TN]; rfl) (by omega) hY2 (by omega) (by omega)
 have r2 := Im D0 Y (R1 * 4294967296 + L0) ((R1 * 4294967296 % 18446744073709551616 + L0) % 18446744073709551616) (D0 * Y % 18446744073709551616) (by rw [← TP]; rfl) (by omega) hY2 (by omega) (by omega)
 rw [VC] at r1
 refine (CS hi lo y s hs hs1 hs2 hh hy hy2 hlo Y Y1 Y0 U L L1 L0 _ _ _ D1 _ _ _ R1 _ _ _ D0 _ _ _ _ _ _ hY (by omega) hm hU hL (by omega) hml
  (oN U Y1 (by omega)) e1.1 e1.2 (nX _) (lq _ _) (jc _ _) r1 (oN R1 Y1 (by omega)) e2.1 e2.2 (nX _) (lq _ _) (nX _) (lq _ _) (jc _ _) r2
  (by omega) (by omega) (by omega) b1 b0 (by rw [RP]; exact TK) (by rw [RP]; exact TN.symm) (by rw [RP]; exact Vo) (by rw [RP]; exact TP.symm)
  (uy (by omega) (by omega) b1) (uy (by omega) (by omega) b0) w).mono ?_
 rintro e w' ⟨rfl, hw⟩
 refine ⟨?_, hw⟩
 rw [hj.1, ← hj.2]
 have q1 : (D1 * 4294967296 % 18446744073709551616 + D0) % 18446744073709551616 = D1 * 4294967296 + D0 := by omega
 have q2 : (((hi * 18446744073709551616 + lo) % y * 2 ^ s : Nat) : Int) / 2 ^ s = (((hi * 18446744073709551616 + lo) % y : Nat) : Int) := by
  rw [jV, ← Int.natCast_ediv, Nat.mul_div_cancel _ (Nat.two_pow_pos _)]
 rw [q1, q2]
theorem wX (hi lo y : Int) (h0 : 0 ≤ hi) (hy : hi < y) (hy2 : y < 9223372036854775808) (hl0 : 0 ≤ lo) (hlo : lo < 18446744073709551616) (w : World) :
  Calls Tryz.prog 146 #[.int .u64 hi, .int .u64 lo, .int .u64 y] w fun e w' => e = .returned (.tuple #[.int .u64 ((hi * 18446744073709551616 + lo) / y), .int .u64 ((hi * 18446744073709551616 + lo) % y)]) ∧ ∃ n, w' = w.drewN n := by
 obtain ⟨a, rfl⟩ := Int.eq_ofNat_of_zero_le h0
 obtain ⟨b, rfl⟩ := Int.eq_ofNat_of_zero_le hl0
 obtain ⟨c, rfl⟩ := Int.eq_ofNat_of_zero_le (show 0 ≤ y by omega)
 by_cases ha : a = 0
 ·
  subst ha
  refine (AB b c (by omega) (by omega) (by omega) w).mono ?_
  rintro e w' ⟨rfl, hw⟩
  refine ⟨?_, hw⟩
  simp
 ·
  refine (F4 a b c (by omega) (by omega) (by omega) (by omega) w).mono ?_
  rintro e w' ⟨rfl, hw⟩
  refine ⟨?_, hw⟩
  simp
theorem wI (x y hi lo : Int) (hx0 : 0 ≤ x) (hx : x < 18446744073709551616) (hy0 : 0 ≤ y) (hy : y < 18446744073709551616)
  (hhi : Hid (x * y / 18446744073709551616 = hi)) (hlo : Hid (x * y % 18446744073709551616 = lo)) (w : World) :
  Calls Tryz.prog 145 #[.int .u64 x, .int .u64 y] w fun e w' => e = .returned (.tuple #[.int .u64 hi, .int .u64 lo]) ∧ w = w' := by
 obtain ⟨a, rfl⟩ := Int.eq_ofNat_of_zero_le hx0
 obtain ⟨b, rfl⟩ := Int.eq_ofNat_of_zero_le hy0
 refine (Tryz.bits_Mul64 a b (by omega) (by omega) w).mono ?_
 rintro e w' ⟨rfl, rfl⟩
 rw [← hhi.out, ← hlo.out]
 refine ⟨?_, rfl⟩
 simp
theorem Iz {a b m : Int} (ha0 : 0 ≤ a) (hb0 : 0 ≤ b) (hb : b < m) (ha : a < 18446744073709551616) : 0 ≤ a * b / 18446744073709551616 ∧ a * b / 18446744073709551616 < m := by
 have h0 : 0 ≤ a * b := Int.mul_nonneg ha0 hb0
 have h1 : a * b ≤ 18446744073709551616 * b := Int.mul_le_mul_of_nonneg_right (by omega) hb0
 omega
theorem JH (a b m : Int) : a * b / 18446744073709551616 * 18446744073709551616 + a * b % 18446744073709551616 = a * b := by omega
theorem sK (a b m : Int) (ha0 : 0 ≤ a) (ha : a < m) (hb0 : 0 ≤ b) (hb : b < m) (hm : m < 9223372036854775808) (w : World) :
  Calls Tryz.prog 119 #[.int .i64 a, .int .i64 b, .int .i64 m] w fun e w' => e = .returned (.int .i64 (a * b % m)) ∧ ∃ n, w' = w.drewN n := by
 have h1 := Iz ha0 hb0 hb (by omega)
 have h2 := JH a b m
 have h3 : 0 ≤ a * b % m := Int.emod_nonneg _ (by omega)
 have h4 : a * b % m < m := Int.emod_lt_of_pos _ (by omega)
 obtain ⟨hi, hhi⟩ : ∃ hi, a * b / 18446744073709551616 = hi := ⟨_, rfl⟩
 obtain ⟨lo, hlo⟩ : ∃ lo, a * b % 18446744073709551616 = lo := ⟨_, rfl⟩
 have h5 : 0 ≤ lo ∧ lo < 18446744073709551616 := by omega
 obtain ⟨r, hr⟩ : ∃ r, a * b % m = r := ⟨_, rfl⟩
 rw [hr] at h3 h4 ⊢
 rw [hhi] at h1 h2
 rw [hlo] at h2
 rw [← h2] at hr
 obtain ⟨h10, h11⟩ := h1
 obtain ⟨h50, Vv⟩ := h5
 have Wp := aa hhi
 have PG := aa hlo
 have HR := aa hr
 clear hhi hlo hr h2
 go_in
 go_wp2_with fail
 refine (wI a b hi lo (by omega) (by omega) (by omega) (by omega) Wp PG _).mono ?_
 rintro e w' ⟨rfl, rfl⟩
 go_wp2_with fail
 refine (wX hi lo m h10 h11 hm h50 Vv _).mono ?_
 rintro e w' ⟨rfl, n, rfl⟩
 rw [HR.out]
 go_wp2
 go_ret
 exact ⟨rfl, n, rfl⟩
def F9 (a b m : Int) : Int := if m < 1 ∨ 2305843009213693952 ≤ m then 1 else if (0 ≤ a ∧ a < m) ∧ (0 ≤ b ∧ b < m) then 0 else 2
theorem wu (a m : Int) (h0 : 0 ≤ a) (h1 : a < m) (w : World) :
  Calls Tryz.prog 144 #[.int .i64 a, .int .i64 m] w fun e w' => e = .returned (.bool true) ∧ w = w' := by
 go_in
 go_wp2
 go_ret
 exact ⟨rfl, rfl⟩
theorem wC (a m : Int) (h : ¬ (0 ≤ a ∧ a < m)) (w : World) :
  Calls Tryz.prog 144 #[.int .i64 a, .int .i64 m] w fun e w' => e = .returned (.bool false) ∧ w = w' := by
 by_cases h0 : 0 ≤ a
 ·
  have h1 : decide (a < m) = false := by simp; omega
  clear h
  go_in
  go_wp2
  go_ret
  exact ⟨rfl, rfl⟩
 ·
  clear h
  go_in
  go_wp2
  go_ret
  exact ⟨rfl, rfl⟩
theorem jk (a b m : Int) (w : World) :
  Calls Tryz.prog 118 #[.int .i64 a, .int .i64 b, .int .i64 m] w fun e w' => e = .returned (.int .i64 (F9 a b m)) ∧ w = w' := by
 by_cases hm : m < 1
 ·
  have hfin : F9 a b m = 1 := by simp [F9, hm]
  rw [hfin]
  clear hfin
  go_in
  go_wp2
  go_ret
  exact ⟨rfl, rfl⟩
 by_cases hm2 : 2305843009213693952 ≤ m
 ·
  have hfin : F9 a b m = 1 := by simp [F9, hm2]
  rw [hfin]
  clear hfin
  go_in
  go_wp2
  go_ret
  exact ⟨rfl, rfl⟩
 by_cases ha : 0 ≤ a ∧ a < m
 ·
  by_cases hb : 0 ≤ b ∧ b < m
  ·
   have hfin : F9 a b m = 0 := by simp [F9, hm, hm2, ha, hb]
   rw [hfin]
   obtain ⟨ha0, ha1⟩ := ha
   obtain ⟨hb0, hb1⟩ := hb
   clear hfin
   go_in
   go_wp2_with (first | (go_at_call 144; refine (wu _ _ (by assumption) (by assumption) _).mono ?_; rintro e w' ⟨rfl, rfl⟩))
   go_ret
   exact ⟨rfl, rfl⟩
  ·
   have hfin : F9 a b m = 2 := by simp [F9, hm, hm2]; omega
   rw [hfin]
   obtain ⟨ha0, ha1⟩ := ha
   clear hfin
   go_in
   go_wp2_with fail
   refine (wu _ _ ha0 ha1 _).mono ?_; rintro e w' ⟨rfl, rfl⟩
   go_wp2_with fail
   refine (wC _ _ hb _).mono ?_; rintro e w' ⟨rfl, rfl⟩
   go_wp2
   go_ret
   exact ⟨rfl, rfl⟩
 ·
  have hfin : F9 a b m = 2 := by simp [F9, hm, hm2]; omega
  rw [hfin]
  clear hfin
  go_in
  go_wp2_with fail
  refine (wC _ _ ha _).mono ?_; rintro e w' ⟨rfl, rfl⟩
  go_wp2
  go_ret
  exact ⟨rfl, rfl⟩
namespace rM
theorem tZ (a m : Int) (k : Nat) : (a % m) ^ k % m = a ^ k % m := by
 induction k with
 | zero => simp
 | succ n ih => rw [Int.pow_succ, Int.pow_succ, Int.mul_emod, ih, Int.emod_emod_of_dvd _ (Int.dvd_refl m), ← Int.mul_emod]
theorem yx (x a m : Int) (k : Nat) : (x % m) * (a % m) ^ k % m = x * a ^ k % m := by
 rw [Int.mul_emod, tZ, Int.emod_emod_of_dvd _ (Int.dvd_refl m), ← Int.mul_emod]
theorem vG (x a m : Int) (k : Nat) : x * (a % m) ^ k % m = x * a ^ k % m := by
 rw [Int.mul_emod, tZ, ← Int.mul_emod]
theorem qZ (a : Int) (k : Nat) : (a * a) ^ k = a ^ (2 * k) := by
 rw [Int.pow_mul]; congr 1; rw [Int.pow_succ, Int.pow_succ, Int.pow_zero, Int.one_mul]
def pw (a e m : Int) : Int := a ^ e.toNat % m
theorem tX (a e m : Int) (h : 0 < m) : 0 ≤ pw a e m ∧ pw a e m < m := ⟨Int.emod_nonneg _ (by omega), Int.emod_lt_of_pos _ h⟩
def dX (a e m a' e' x' : Int) : Prop := x' * a' ^ e'.toNat % m = pw a e m
theorem lK (a e m : Int) : dX a e m a e (1 % m) := by
 unfold dX pw
 rw [Int.mul_emod, Int.emod_emod_of_dvd _ (Int.dvd_refl m), ← Int.mul_emod, Int.one_mul]
theorem nZ {a e m a' e' x' k : Int} (h : dX a e m a' e' x') (he : e' = 2 * k + 1) (hk : 0 ≤ k) : dX a e m (a' * a' % m) k (x' * a' % m) := by
 unfold dX at *
 rw [yx, qZ, ← h]
 have : e'.toNat = 2 * k.toNat + 1 := by omega
 rw [this, Int.pow_succ, Int.mul_assoc, Int.mul_comm a']
theorem mI {a e m a' e' x' k : Int} (h : dX a e m a' e' x') (he : e' = 2 * k) (hk : 0 ≤ k) : dX a e m (a' * a' % m) k x' := by
 unfold dX at *
 rw [vG, qZ, ← h]
 have : e'.toNat = 2 * k.toNat := by omega
 rw [this]
theorem mJ {a e m a' x' : Int} (h : dX a e m a' 0 x') (h0 : 0 ≤ x') (h1 : x' < m) : x' = pw a e m := by
 unfold dX at h
 rw [← h]
 simp
 rw [Int.emod_eq_of_lt h0 h1]
theorem I6 (e : Int) (h : 0 ≤ e) (h2 : e < 9223372036854775808) : bits .and .i64 e 1 = e % 2 := by
 obtain ⟨n, rfl⟩ := Int.eq_ofNat_of_zero_le h
 have h1 : (BitVec.ofInt 64 (n : Int)).toNat = n := by
  rw [BitVec.ofInt_natCast, BitVec.toNat_ofNat]; exact Nat.mod_eq_of_lt (by omega)
 show IntKind.i64.wrap ((BitVec.ofInt 64 (n : Int) &&& BitVec.ofInt 64 (1 : Int)).toNat : Int) = _
 rw [BitVec.toNat_and, h1, show (BitVec.ofInt 64 (1 : Int)).toNat = 1 from rfl, Nat.and_one_is_mod, IntKind.wrap_i64]
 omega
theorem u64_and1 (e : Int) (h : 0 ≤ e) (h2 : e < 18446744073709551616) : bits .and .u64 e 1 = e % 2 := by
 obtain ⟨n, rfl⟩ := Int.eq_ofNat_of_zero_le h
 have := bits_and_u64_nat n 1 (by omega) (by decide)
 rw [show ((1 : Nat) : Int) = (1 : Int) from rfl] at this
 rw [this, Nat.and_one_is_mod]
 omega
end rM
open Go.RowKit rM
theorem yN {a b m : Int} (h1 : 1 ≤ m) (h2 : m < 2305843009213693952) (ha0 : 0 ≤ a) (ha : a < m) (hb0 : 0 ≤ b) (hb : b < m) : F9 a b m = 0 := by
 simp [F9]; omega
theorem J4 (a b m : Int) (h2 : m < 2305843009213693952) (ha0 : 0 ≤ a) (ha : a < m) (hb0 : 0 ≤ b) (hb : b < m) (w : World) :
  Calls Tryz.prog 141 #[.int .i64 a, .int .i64 b, .int .i64 m] w fun e w' => e = .returned (.tuple #[.int .i64 ((a + b) % m), .int .i64 0]) ∧ w = w' := by
 have hc := aa (yN (by omega) h2 ha0 ha hb0 hb)
 have hm : ((m : Int) == 0) = false := by simp; omega
 go_in
 go_wp2_with (go_at_call 118; refine (jk _ _ _ _).mono ?_; rintro e w' ⟨rfl, rfl⟩; rw [hc.out])
 go_ret2
 exact ⟨rfl, rfl⟩
theorem Dw (a b m : Int) (h2 : m < 2305843009213693952) (ha0 : 0 ≤ a) (ha : a < m) (hb0 : 0 ≤ b) (hb : b < m) (w : World) :
  Calls Tryz.prog 84 #[.int .i64 a, .int .i64 b, .int .i64 m] w fun e w' => e = .returned (.tuple #[.int .i64 (a * b % m), .int .i64 0]) ∧ ∃ n, w' = w.drewN n := by
 have hc := aa (yN (by omega) h2 ha0 ha hb0 hb)
 go_in
 go_wp2_with (go_at_call 118; refine (jk _ _ _ _).mono ?_; rintro e w' ⟨rfl, rfl⟩; rw [hc.out])
 refine (sK _ _ _ ha0 ha hb0 hb (by omega) _).mono ?_
 rintro e w' ⟨rfl, n, rfl⟩
 go_wp2
 go_ret2
 exact ⟨rfl, n, rfl⟩
theorem tY (a e m : Int) (h1 : 1 ≤ m) (h2 : m < 2305843009213693952) (ha0 : 0 ≤ a) (ha : a < m) (he0 : 0 ≤ e) (he : e < 9223372036854775808) (w : World) :
  Calls Tryz.prog 79 #[.int .i64 a, .int .i64 e, .int .i64 m] w fun e' w' => e' = .returned (.tuple #[.int .i64 (pw a e m), .int .i64 0]) ∧ ∃ n, w' = w.drewN n := by
 have hc := aa (yN (by omega) h2 ha0 ha ha0 ha)
 have hm : ((m : Int) == 0) = false := by simp; omega
 have hlt : decide (e < 0) = false := by simp; omega
 have hx1 : Hid (0 ≤ 1 % m ∧ 1 % m < m) := ⟨Int.emod_nonneg _ (by omega), Int.emod_lt_of_pos _ (by omega)⟩
 have HS : Hid (dX a e m a e (1 % m)) := lK a e m
 go_in
 go_wp2_with (go_at_call 118; refine (jk _ _ _ _).mono ?_; rintro e w' ⟨rfl, rfl⟩; rw [hc.out])
 go_loopw [0, 1, 9] (fun u v t wr => ∃ a' e' x' : Int, u = .int .i64 a' ∧ v = .int .i64 e' ∧ t = .int .i64 x' ∧ 0 ≤ a' ∧ a' < m ∧ 0 ≤ e' ∧ e' < 9223372036854775808 ∧ 0 ≤ x' ∧ x' < m ∧ Hid (dX a e m a' e' x') ∧ ∃ n, wr = w.drewN n) (fun _ v _ _ => (intOf v).toNat)
 case atStart => exact ⟨a, e, 1 % m, rfl, rfl, rfl, ha0, ha, he0, he, hx1.out.1, hx1.out.2, HS, 0, rfl⟩
 case round =>
  obtain ⟨a', e', x', rfl, rfl, rfl, l9, ha', Mg, he', hx0', hx', HR, n, rfl⟩ := hrel
  by_cases h0 : e' = 0
  ·
   subst h0
   obtain rfl := mJ HR.out hx0' hx'
   clear HR hx0' hx'
   go_wp2
   go_ret2
   exact ⟨rfl, n, rfl⟩
  ·
   have hpos : decide (0 < e') = true := by simp; omega
   have Md : 1 ≤ e' := by omega
   have hand := I6 e' Mg he'
   have hq0 : 0 ≤ a' * a' % m := Int.emod_nonneg _ (by omega)
   have hq1 : a' * a' % m < m := Int.emod_lt_of_pos _ (by omega)
   by_cases ho : e' % 2 = 1
   ·
    have hand1 : bits .and .i64 e' 1 = 1 := by rw [hand, ho]
    have hp0 : 0 ≤ x' * a' % m := Int.emod_nonneg _ (by omega)
    have hp1 : x' * a' % m < m := Int.emod_lt_of_pos _ (by omega)
    have HN : Hid (dX a e m (a' * a' % m) (e' / 2) (x' * a' % m)) := nZ HR.out (by omega) (by omega)
    obtain ⟨q, hq⟩ : ∃ q, a' * a' % m = q := ⟨_, rfl⟩
    obtain ⟨p, hp⟩ : ∃ p, x' * a' % m = p := ⟨_, rfl⟩
    rw [hq] at hq0 hq1 HN
    rw [hp] at hp0 hp1 HN
    have HQ := aa hq
    have HP := aa hp
    clear hq hp hand ho h0
    go_wp2_with fail
    refine (sK _ _ _ hx0' hx' l9 ha' (by omega) _).mono ?_
    rintro e w' ⟨rfl, n1, rfl⟩
    rw [HP.out]
    go_wp2_with fail
    refine (sK _ _ _ l9 ha' l9 ha' (by omega) _).mono ?_
    rintro e w' ⟨rfl, n2, rfl⟩
    rw [HQ.out]
    go_wp2
    go_roundw
    case rel => exact ⟨q, e' / 2, p, rfl, rfl, rfl, hq0, hq1, by omega, by omega, hp0, hp1, HN, _, rfl⟩
    case measure => simp [intOf]; omega
   ·
    have hand1 : bits .and .i64 e' 1 = 0 := by rw [hand]; omega
    have HN : Hid (dX a e m (a' * a' % m) (e' / 2) x') := mI HR.out (by omega) (by omega)
    obtain ⟨q, hq⟩ : ∃ q, a' * a' % m = q := ⟨_, rfl⟩
    rw [hq] at hq0 hq1 HN
    have HQ := aa hq
    clear hq hand ho h0
    go_wp2_with fail
    refine (sK _ _ _ l9 ha' l9 ha' (by omega) _).mono ?_
    rintro e w' ⟨rfl, n2, rfl⟩
    rw [HQ.out]
    go_wp2
    go_roundw
    case rel => exact ⟨q, e' / 2, x', rfl, rfl, rfl, hq0, hq1, by omega, by omega, hx0', hx', HN, _, rfl⟩
    case measure => simp [intOf]; omega
namespace rM
def mQ : List Int := [2, 3, 5, 7, 11, 13, 17, 19, 23, 29, 31, 37]
def bs (k : Nat) : Int := mQ.getD k 0
def bQ (n : Int) : List Int → Option Bool
 | [] => none
 | p :: ps => if n % p = 0 then some (decide (n = p)) else bQ n ps
def sq (n : Int) : Nat → Int → Bool
 | 0, _ => true
 | k + 1, x => if x * x % n = n - 1 then false else sq n k (x * x % n)
def comp (a n d : Int) (s : Nat) : Bool :=
 if pw a d n = 1 ∨ pw a d n = n - 1 then false else sq n (s - 1) (pw a d n)
def fG (n d : Int) (s : Nat) : List Int → Bool
 | [] => true
 | a :: l => if comp a n d s = true then false else fG n d s l
def lu (n : Int) : Nat := Lib.ctz 64 (n - 1).toNat
def r9 (n : Int) : Int := (n - 1) / 2 ^ lu n
def l7 (n : Int) : Bool :=
 if n < 2 then false else match bQ n mQ with
  | some b => b
  | none => fG n (r9 n) (lu n) mQ
theorem yR : ∀ k, k < 12 → 2 ≤ bs k ∧ bs k ≤ 37 := by decide
theorem sQ : ∀ k, k < 12 → mQ.drop k = bs k :: mQ.drop (k + 1) := by decide
theorem pY (n : Int) (k : Nat) (hk : k < 12) (h : n % bs k ≠ 0) : bQ n (mQ.drop k) = bQ n (mQ.drop (k + 1)) := by
 rw [sQ k hk, bQ, if_neg h]
theorem mY (n : Int) (k : Nat) (hk : k < 12) (h : n % bs k = 0) : bQ n (mQ.drop k) = some (decide (n = bs k)) := by
 rw [sQ k hk, bQ, if_pos h]
theorem qb (n d : Int) (s k : Nat) (hk : k < 12) (h : comp (bs k) n d s = false) : fG n d s (mQ.drop k) = fG n d s (mQ.drop (k + 1)) := by
 rw [sQ k hk, fG, if_neg (by simp [h])]
theorem rH (n d : Int) (s k : Nat) (hk : k < 12) (h : comp (bs k) n d s = true) : fG n d s (mQ.drop k) = false := by
 rw [sQ k hk, fG, if_pos h]
theorem EU : ∀ n : Nat, n < 41 → 2 ≤ n → bQ (n : Int) mQ ≠ none := by decide
theorem zY {n : Int} (h2 : 2 ≤ n) (h : bQ n mQ = none) : 41 ≤ n := by
 by_cases hn : n < 41
 ·
  obtain ⟨m, rfl⟩ := Int.eq_ofNat_of_zero_le (show 0 ≤ n by omega)
  exact absurd h (EU m (by omega) (by omega))
 · omega
theorem zX {n : Int} (h : bQ n mQ = none) : n % 2 = 1 := by
 by_cases h0 : n % 2 = 0
 ·
  have : bQ n mQ = some (decide (n = 2)) := by
   show bQ n (mQ.drop 0) = _
   rw [mY n 0 (by decide) (by show n % 2 = 0; exact h0)]
   rfl
  rw [this] at h; exact absurd h (by simp)
 · omega
theorem DZ {n : Int} (h : l7 n = true) : 2 ≤ n := by
 unfold l7 at h
 by_cases h2 : n < 2
 · rw [if_pos h2] at h; exact absurd h (by decide)
 · omega
theorem vZ {n : Int} (h2 : 2 ≤ n) (hn : n < 9223372036854775808) : lu n < 64 ∧ ∃ m : Int, 0 ≤ m ∧ n - 1 = 2 ^ lu n * (2 * m + 1) ∧ r9 n = 2 * m + 1 := by
 obtain ⟨x, hx⟩ : ∃ x : Nat, (n - 1).toNat = x := ⟨_, rfl⟩
 have hn1 : n - 1 = (x : Int) := by omega
 obtain ⟨m, hm, hk⟩ := Lib.ctzFrom_spec 64 x (by omega) (by omega)
 have e : Lib.ctz 64 x = Lib.ctzFrom 64 x := by unfold Lib.ctz; rw [if_neg (by omega)]
 unfold r9 lu
 rw [hx, e, hn1]
 obtain ⟨c, hc⟩ : ∃ c, Lib.ctzFrom 64 x = c := ⟨_, rfl⟩
 rw [hc] at hm hk ⊢
 have hm2 : (x : Int) = 2 ^ c * (2 * (m : Int) + 1) := by rw [hm]; simp
 refine ⟨hk, (m : Int), by omega, hm2, ?_⟩
 have hp : (0 : Int) < 2 ^ c := Int.pow_pos (by decide)
 rw [hm2, Int.mul_ediv_cancel_left _ (Int.ne_of_gt hp)]
end rM
open Go.RowKit rM
theorem mK (a b m : Int) (ha0 : 0 ≤ a) (ha : a < m) (hb0 : 0 ≤ b) (hb : b < m) (hm : m < 9223372036854775808) (w : World) :
  Calls Tryz.prog 143 #[.int .u64 a, .int .u64 b, .int .u64 m] w fun e w' => e = .returned (.int .u64 (a * b % m)) ∧ ∃ n, w' = w.drewN n := by
 have h1 := Iz ha0 hb0 hb (by omega)
 have h2 := JH a b m
 obtain ⟨hi, hhi⟩ : ∃ hi, a * b / 18446744073709551616 = hi := ⟨_, rfl⟩
 obtain ⟨lo, hlo⟩ : ∃ lo, a * b % 18446744073709551616 = lo := ⟨_, rfl⟩
 have h5 : 0 ≤ lo ∧ lo < 18446744073709551616 := by omega
 obtain ⟨r, hr⟩ : ∃ r, a * b % m = r := ⟨_, rfl⟩
 rw [hr]
 rw [hhi] at h1 h2
 rw [hlo] at h2
 rw [← h2] at hr
 obtain ⟨h10, h11⟩ := h1
 obtain ⟨h50, Vv⟩ := h5
 have Wp := aa hhi
 have PG := aa hlo
 have HR := aa hr
 clear hhi hlo hr h2
 go_in
 go_wp2_with fail
 refine (wI a b hi lo (by omega) (by omega) (by omega) (by omega) Wp PG _).mono ?_
 rintro e w' ⟨rfl, rfl⟩
 go_wp2_with fail
 refine (wX hi lo m h10 h11 hm h50 Vv _).mono ?_
 rintro e w' ⟨rfl, n, rfl⟩
 rw [HR.out]
 go_wp2
 go_ret
 exact ⟨rfl, n, rfl⟩
theorem xX (a e m : Int) (h1 : 2 ≤ m) (h2 : m < 9223372036854775808) (ha0 : 0 ≤ a) (ha : a < m) (he0 : 0 ≤ e) (he : e < 9223372036854775808) (w : World) :
  Calls Tryz.prog 142 #[.int .u64 a, .int .u64 e, .int .u64 m] w fun e' w' => e' = .returned (.int .u64 (pw a e m)) ∧ ∃ n, w' = w.drewN n := by
 have HS : Hid (dX a e m a e 1) := by have h := lK a e m; rw [Int.emod_eq_of_lt (by decide) (by omega)] at h; exact h
 go_in
 go_wp2
 go_loopw [0, 1, 7] (fun u v t wr => ∃ a' e' x' : Int, u = .int .u64 a' ∧ v = .int .u64 e' ∧ t = .int .u64 x' ∧ 0 ≤ a' ∧ a' < m ∧ 0 ≤ e' ∧ e' < 9223372036854775808 ∧ 0 ≤ x' ∧ x' < m ∧ Hid (dX a e m a' e' x') ∧ ∃ n, wr = w.drewN n) (fun _ v _ _ => (intOf v).toNat)
 case atStart => exact ⟨a, e, 1, rfl, rfl, rfl, ha0, ha, he0, he, by decide, by omega, HS, 0, rfl⟩
 case round =>
  obtain ⟨a', e', x', rfl, rfl, rfl, l9, ha', Mg, he', hx0', hx', HR, n, rfl⟩ := hrel
  by_cases h0 : e' = 0
  ·
   subst h0
   obtain rfl := mJ HR.out hx0' hx'
   clear HR hx0' hx'
   go_wp2
   go_ret
   exact ⟨rfl, n, rfl⟩
  ·
   have hpos : decide (0 < e') = true := by simp; omega
   have Md : 1 ≤ e' := by omega
   have hand := u64_and1 e' Mg (by omega)
   have hq0 : 0 ≤ a' * a' % m := Int.emod_nonneg _ (by omega)
   have hq1 : a' * a' % m < m := Int.emod_lt_of_pos _ (by omega)
   by_cases ho : e' % 2 = 1
   ·
    have hand1 : bits .and .u64 e' 1 = 1 := by rw [hand, ho]
    have hp0 : 0 ≤ x' * a' % m := Int.emod_nonneg _ (by omega)
    have hp1 : x' * a' % m < m := Int.emod_lt_of_pos _ (by omega)
    have HN : Hid (dX a e m (a' * a' % m) (e' / 2) (x' * a' % m)) := nZ HR.out (by omega) (by omega)
    obtain ⟨q, hq⟩ : ∃ q, a' * a' % m = q := ⟨_, rfl⟩
    obtain ⟨p, hp⟩ : ∃ p, x' * a' % m = p := ⟨_, rfl⟩
    rw [hq] at hq0 hq1 HN
    rw [hp] at hp0 hp1 HN
    have HQ := aa hq
    have HP := aa hp
    clear hq hp hand ho h0
    go_wp2_with fail
    refine (mK _ _ _ hx0' hx' l9 ha' (by omega) _).mono ?_
    rintro e w' ⟨rfl, n1, rfl⟩
    rw [HP.out]
    go_wp2_with fail
    refine (mK _ _ _ l9 ha' l9 ha' (by omega) _).mono ?_
    rintro e w' ⟨rfl, n2, rfl⟩
    rw [HQ.out]
    go_wp2
    go_roundw
    case rel => exact ⟨q, e' / 2, p, rfl, rfl, rfl, hq0, hq1, by omega, by omega, hp0, hp1, HN, _, rfl⟩
    case measure => simp [intOf]; omega
   ·
    have hand1 : bits .and .u64 e' 1 = 0 := by rw [hand]; omega
    have HN : Hid (dX a e m (a' * a' % m) (e' / 2) x') := mI HR.out (by omega) (by omega)
    obtain ⟨q, hq⟩ : ∃ q, a' * a' % m = q := ⟨_, rfl⟩
    rw [hq] at hq0 hq1 HN
    have HQ := aa hq
    clear hq hand ho h0
    go_wp2_with fail
    refine (mK _ _ _ l9 ha' l9 ha' (by omega) _).mono ?_
    rintro e w' ⟨rfl, n2, rfl⟩
    rw [HQ.out]
    go_wp2
    go_roundw
    case rel => exact ⟨q, e' / 2, x', rfl, rfl, rfl, hq0, hq1, by omega, by omega, hx0', hx', HN, _, rfl⟩
    case measure => simp [intOf]; omega
theorem p8 {a n d x : Int} {s : Nat} (hx : pw a d n = x) (h : x = 1 ∨ x = n - 1) : comp a n d s = false := by
 unfold comp; rw [hx, if_pos h]
theorem wY {a n d x : Int} {s : Nat} (hx : pw a d n = x) (h1 : x ≠ 1) (h2 : x ≠ n - 1) : comp a n d s = sq n (s - 1) x := by
 unfold comp; rw [hx, if_neg (by omega)]
theorem Hf {n y z : Int} {j : Nat} (hj : 1 ≤ j) (hz : y * y % n = z) (h : z = n - 1) : sq n j y = false := by
 obtain ⟨i, rfl⟩ : ∃ i, j = i + 1 := ⟨j - 1, by omega⟩
 unfold sq; rw [hz, if_pos h]
theorem DC {n y z : Int} {j : Nat} (hj : 1 ≤ j) (hz : y * y % n = z) (h : z ≠ n - 1) : sq n j y = sq n (j - 1) z := by
 obtain ⟨i, rfl⟩ : ∃ i, j = i + 1 := ⟨j - 1, by omega⟩
 rw [sq, hz, if_neg h]; rfl
theorem nU (a n d : Int) (s : Nat) (h1 : 2 ≤ n) (h2 : n < 9223372036854775808) (ha0 : 0 ≤ a) (ha : a < n) (he0 : 0 ≤ d) (he : d < 9223372036854775808) (hs1 : 1 ≤ s) (hs2 : s < 64) (c : Bool) (hc : Hid (comp a n d s = c)) (w : World) :
  Calls Tryz.prog 117 #[.int .u64 a, .int .u64 n, .int .u64 d, .int .i64 s] w fun e' w' => e' = .returned (.bool c) ∧ ∃ n, w' = w.drewN n := by
 have hb := tX a d n (by omega)
 obtain ⟨x, hx⟩ : ∃ x, pw a d n = x := ⟨_, rfl⟩
 rw [hx] at hb
 obtain ⟨hb0, hb1⟩ := hb
 have HX := aa hx
 clear hx
 by_cases hx1 : x = 1
 ·
  subst hx1
  obtain rfl : c = false := by rw [← hc.out]; exact p8 HX.out (.inl rfl)
  go_in
  go_wp2_with fail
  refine (xX a d n h1 h2 ha0 ha he0 he _).mono ?_
  rintro e w' ⟨rfl, m, rfl⟩
  rw [HX.out]
  go_wp2
  go_ret
  exact ⟨rfl, m, rfl⟩
 by_cases hx2 : x = n - 1
 ·
  have g1 : ((x : Int) == 1) = false := by simp [hx1]
  have g2 : ((x : Int) == n - 1) = true := by simp [hx2]
  obtain rfl : c = false := by rw [← hc.out]; exact p8 HX.out (.inr hx2)
  clear hx1 hx2
  go_in
  go_wp2_with fail
  refine (xX a d n h1 h2 ha0 ha he0 he _).mono ?_
  rintro e w' ⟨rfl, m, rfl⟩
  rw [HX.out]
  go_wp2
  go_ret
  exact ⟨rfl, m, rfl⟩
 have g1 : ((x : Int) == 1) = false := by simp [hx1]
 have g2 : ((x : Int) == n - 1) = false := by simp [hx2]
 have HS : Hid (sq n (s - 1) x = c) := by rw [← hc.out]; exact (wY HX.out hx1 hx2).symm
 clear hx1 hx2
 go_in
 go_wp2_with fail
 refine (xX a d n h1 h2 ha0 ha he0 he _).mono ?_
 rintro e w' ⟨rfl, m, rfl⟩
 rw [HX.out]
 go_wp2
 go_loopw [9, 24] (fun u v wr => ∃ (k : Nat) (y : Int), u = .int .u64 y ∧ v = .int .i64 k ∧ k + 1 ≤ s ∧ 0 ≤ y ∧ y < n ∧ Hid (sq n (s - 1 - k) y = c) ∧ ∃ n, wr = w.drewN n) (fun _ v _ => s - (intOf v).toNat)
 case atStart => exact ⟨0, x, rfl, rfl, hs1, hb0, hb1, HS, m, rfl⟩
 case round =>
  obtain ⟨k, y, rfl, rfl, hk, hy0, hy1, HR, m2, rfl⟩ := hrel
  by_cases hlt : k + 1 < s
  ·
   have hd : decide ((k : Int) < (s : Int) - 1) = true := by simp; omega
   have hz0 : 0 ≤ y * y % n := Int.emod_nonneg _ (by omega)
   have hz1 : y * y % n < n := Int.emod_lt_of_pos _ (by omega)
   obtain ⟨z, hz⟩ : ∃ z, y * y % n = z := ⟨_, rfl⟩
   rw [hz] at hz0 hz1
   have HZ := aa hz
   clear hz
   by_cases hzn : z = n - 1
   ·
    have g3 : ((z : Int) == n - 1) = true := by simp [hzn]
    obtain rfl : c = false := by rw [← HR.out]; exact Hf (by omega) HZ.out hzn
    clear hzn
    go_wp2_with fail
    refine (mK _ _ _ hy0 hy1 hy0 hy1 h2 _).mono ?_
    rintro e w' ⟨rfl, m3, rfl⟩
    rw [HZ.out]
    go_wp2
    go_ret
    exact ⟨rfl, _, rfl⟩
   ·
    have g3 : ((z : Int) == n - 1) = false := by simp [hzn]
    have HN : Hid (sq n (s - 1 - (k + 1)) z = c) := by rw [← HR.out, DC (j := s - 1 - k) (by omega) HZ.out hzn]; rfl
    clear hzn
    go_wp2_with fail
    refine (mK _ _ _ hy0 hy1 hy0 hy1 h2 _).mono ?_
    rintro e w' ⟨rfl, m3, rfl⟩
    rw [HZ.out]
    go_wp2
    go_roundw
    case rel => exact ⟨k + 1, z, rfl, by go_num, by omega, hz0, hz1, HN, _, rfl⟩
    case measure => simp [intOf]; omega
  ·
   have hd : decide ((k : Int) < (s : Int) - 1) = false := by simp; omega
   obtain rfl : c = true := by rw [← HR.out, show s - 1 - k = 0 from by omega]; rfl
   go_wp2
   go_ret
   exact ⟨rfl, _, rfl⟩
def Vars (w : World) : Prop := (∀ k, k < 12 → w.cell? ⟨0, k, none⟩ = some (.int .u64 (bs k))) ∧ TabAt 2 Lib.deBruijn64tab w
theorem Od (n : Int) (h : n < 2) (w : World) :
  Calls Tryz.prog 78 #[.int .i64 n] w fun e' w' => e' = .returned (.bool (l7 n)) ∧ ∃ n, w' = w.drewN n := by
 have hf : l7 n = false := by unfold l7; rw [if_pos h]
 rw [hf]
 clear hf
 go_in
 go_wp2
 go_ret
 exact ⟨rfl, 0, rfl⟩
theorem wJ : ∀ k : Nat, k < 12 → ∀ w, (Instr.index 144 (.agg #[.int .u64 2, .int .u64 3, .int .u64 5, .int .u64 7, .int .u64 11, .int .u64 13, .int .u64 17, .int .u64 19, .int .u64 23, .int .u64 29, .int .u64 31, .int .u64 37]) (.int .i64 (k : Int))).run Tryz.prog w = .ok (.int .u64 (bs k)) w
 | 0, _ => fun w => by kernel_rfl
 | 1, _ => fun w => by kernel_rfl
 | 2, _ => fun w => by kernel_rfl
 | 3, _ => fun w => by kernel_rfl
 | 4, _ => fun w => by kernel_rfl
 | 5, _ => fun w => by kernel_rfl
 | 6, _ => fun w => by kernel_rfl
 | 7, _ => fun w => by kernel_rfl
 | 8, _ => fun w => by kernel_rfl
 | 9, _ => fun w => by kernel_rfl
 | 10, _ => fun w => by kernel_rfl
 | 11, _ => fun w => by kernel_rfl
 | k + 12, h => absurd h (by omega)
theorem NK (n : Int) (h : 2 ≤ n) (h2 : n < 9223372036854775808) (s : Nat) (hs : Hid (lu n = s)) (w : World) (hv : Vars w) :
  Calls Tryz.prog 116 #[.int .u64 (n - 1)] w fun e' w' => e' = .returned (.int .i64 s) ∧ w = w' := by
 obtain ⟨x, hx⟩ := Int.eq_ofNat_of_zero_le (show 0 ≤ n - 1 by omega)
 rw [hx]
 refine (Tryz.bits_TrailingZeros64 x (by omega) w (fun _ => hv.2)).mono ?_
 rintro e w' ⟨rfl, rfl⟩
 refine ⟨?_, rfl⟩
 rw [← hs.out]
 unfold lu
 rw [hx]; rfl
theorem Ae {n : Int} {b : Bool} (h : 2 ≤ n) (hd : bQ n mQ = some b) : l7 n = b := by
 unfold l7; rw [if_neg (by omega), hd]
theorem Af {n : Int} (h : 2 ≤ n) (hd : bQ n mQ = none) : l7 n = fG n (r9 n) (lu n) mQ := by
 unfold l7; rw [if_neg (by omega), hd]
theorem Oe (n : Int) (h : 2 ≤ n) (h2 : n < 9223372036854775808) (b : Bool) (hb : Hid (l7 n = b)) (w : World) (hv : Vars w) :
  Calls Tryz.prog 78 #[.int .i64 n] w fun e' w' => e' = .returned (.bool b) ∧ ∃ n, w' = w.drewN n := by
 have c0 : w.cell? ⟨0, 0, none⟩ = some (.int .u64 2) := hv.1 0 (by decide)
 have c1 : w.cell? ⟨0, 1, none⟩ = some (.int .u64 3) := hv.1 1 (by decide)
 have c2 : w.cell? ⟨0, 2, none⟩ = some (.int .u64 5) := hv.1 2 (by decide)
 have c3 : w.cell? ⟨0, 3, none⟩ = some (.int .u64 7) := hv.1 3 (by decide)
 have c4 : w.cell? ⟨0, 4, none⟩ = some (.int .u64 11) := hv.1 4 (by decide)
 have c5 : w.cell? ⟨0, 5, none⟩ = some (.int .u64 13) := hv.1 5 (by decide)
 have c6 : w.cell? ⟨0, 6, none⟩ = some (.int .u64 17) := hv.1 6 (by decide)
 have c7 : w.cell? ⟨0, 7, none⟩ = some (.int .u64 19) := hv.1 7 (by decide)
 have c8 : w.cell? ⟨0, 8, none⟩ = some (.int .u64 23) := hv.1 8 (by decide)
 have c9 : w.cell? ⟨0, 9, none⟩ = some (.int .u64 29) := hv.1 9 (by decide)
 have c10 : w.cell? ⟨0, 10, none⟩ = some (.int .u64 31) := hv.1 10 (by decide)
 have c11 : w.cell? ⟨0, 11, none⟩ = some (.int .u64 37) := hv.1 11 (by decide)
 go_in
 go_wp2
 go_loop [14] (fun i => ∃ k : Nat, k ≤ 12 ∧ i = .int .i64 k ∧ Hid (bQ n mQ = bQ n (mQ.drop k))) (fun i => 12 - (intOf i).toNat)
 case atStart => exact ⟨0, by omega, rfl, rfl⟩
 case round =>
  obtain ⟨k, hk, rfl, HR⟩ := hrel
  by_cases hlt : k < 12
  ·
   have hi := wJ k hlt
   have hbp := yR k hlt
   by_cases hz : n % bs k = 0
   ·
    have HD := aa (HR.out.trans (mY n k hlt hz))
    obtain ⟨p, hp⟩ : ∃ p, bs k = p := ⟨_, rfl⟩
    rw [hp] at hi hbp hz HD
    clear hp
    have hz2 : ((n % p : Int) == 0) = true := by simp [hz]
    have hb2 : ((n : Int) == p) = b := by rw [← hb.out, Ae h HD.out]; rfl
    obtain ⟨hb4, hb5⟩ := hbp
    clear hz HD HR
    go_wp2
    go_ret
    exact ⟨rfl, 0, rfl⟩
   ·
    have HD : Hid (bQ n mQ = bQ n (mQ.drop (k + 1))) := HR.out.trans (pY n k hlt hz)
    obtain ⟨p, hp⟩ : ∃ p, bs k = p := ⟨_, rfl⟩
    rw [hp] at hi hbp hz
    clear hp
    have hz2 : ((n % p : Int) == 0) = false := by simp [hz]
    obtain ⟨hb4, hb5⟩ := hbp
    clear hz
    go_wp2
    go_round
    case rel => exact ⟨k + 1, by omega, by go_num, HD⟩
    case measure => simp [intOf]; omega
  ·
   obtain rfl : k = 12 := by omega
   have hnone : bQ n mQ = none := HR.out
   have UU := zY h hnone
   have hodd := zX hnone
   obtain ⟨ht1, m, hm0, hm1, hm2⟩ := vZ h h2
   have HF : Hid (fG n (r9 n) (lu n) mQ = b) := by rw [← hb.out]; exact (Af h hnone).symm
   obtain ⟨s, hs⟩ : ∃ s, lu n = s := ⟨_, rfl⟩
   obtain ⟨d, hd⟩ : ∃ d, r9 n = d := ⟨_, rfl⟩
   have hdd : (n - 1) / 2 ^ s = d := by rw [← hs]; exact hd
   have hs1 : 1 ≤ s := by
    cases s with
    | zero => rw [hs] at hm1; simp at hm1; omega
    | succ j => omega
   have hd0 : 0 ≤ d := by omega
   have hd1 : d < 9223372036854775808 := by
    rw [← hd, hm2]
    have : (1 : Int) ≤ 2 ^ lu n := by have : (0 : Int) < 2 ^ lu n := Int.pow_pos (by decide); omega
    have : 1 * (2 * m + 1) ≤ 2 ^ lu n * (2 * m + 1) := Int.mul_le_mul_of_nonneg_right this (by omega)
    omega
   rw [hs, hd] at HF
   rw [hs] at ht1
   have HS := aa hs
   clear hs hd hm1 hm2 hodd hnone HR hk
   go_wp2_with fail
   refine (NK n h h2 s HS _ hv).mono ?_
   rintro e w' ⟨rfl, rfl⟩
   go_wp2
   go_loopw [29] (fun i wr => ∃ k : Nat, k ≤ 12 ∧ i = .int .i64 k ∧ Hid (fG n d s (mQ.drop k) = b) ∧ ∃ n, wr = w.drewN n) (fun i _ => 12 - (intOf i).toNat)
   case atStart => exact ⟨0, by omega, rfl, HF, 0, rfl⟩
   case round =>
    obtain ⟨k, hk, rfl, HR, q, rfl⟩ := hrel
    by_cases hlt : k < 12
    ·
     have hi := wJ k hlt
     have hbp := yR k hlt
     cases hcc : comp (bs k) n d s with
     | true =>
      have HD := aa (HR.out.symm.trans (rH n d s k hlt hcc))
      obtain ⟨p, hp⟩ : ∃ p, bs k = p := ⟨_, rfl⟩
      rw [hp] at hi hbp hcc
      clear hp
      have HC := aa hcc
      obtain ⟨hb4, hb5⟩ := hbp
      obtain rfl : b = false := HD.out
      clear hcc HD HR
      go_wp2_with fail
      refine (nU p n d s h h2 (by omega) (by omega) hd0 hd1 hs1 ht1 true HC _).mono ?_
      rintro e w' ⟨rfl, m3, rfl⟩
      go_wp2
      go_ret
      exact ⟨rfl, _, rfl⟩
     | false =>
      have HD : Hid (fG n d s (mQ.drop (k + 1)) = b) := (qb n d s k hlt hcc).symm.trans HR.out
      obtain ⟨p, hp⟩ : ∃ p, bs k = p := ⟨_, rfl⟩
      rw [hp] at hi hbp hcc
      clear hp
      have HC := aa hcc
      obtain ⟨hb4, hb5⟩ := hbp
      clear hcc HR
      go_wp2_with fail
      refine (nU p n d s h h2 (by omega) (by omega) hd0 hd1 hs1 ht1 false HC _).mono ?_
      rintro e w' ⟨rfl, m3, rfl⟩
      go_wp2
      go_roundw
      case rel => exact ⟨k + 1, by omega, by go_num, HD, _, rfl⟩
      case measure => simp [intOf]; omega
    ·
     obtain rfl : k = 12 := by omega
     obtain rfl : b = true := HR.out.symm
     clear HR
     go_wp2
     go_ret
     exact ⟨rfl, _, rfl⟩
theorem jC (n : Int) (h2 : n < 9223372036854775808) (b : Bool) (hb : Hid (l7 n = b)) (w : World) (hv : Vars w) :
  Calls Tryz.prog 78 #[.int .i64 n] w fun e' w' => e' = .returned (.bool b) ∧ ∃ n, w' = w.drewN n := by
 by_cases h : n < 2
 · rw [← hb.out]; exact Od n h w
 · exact Oe n (by omega) h2 b hb w hv
abbrev Rt (w : World) (v : Value) (e : Ending) (w' : World) : Prop := e = .returned v ∧ Below w.heap.size w w'
theorem ay {B : Nat} {a w : World} (h : Below B a w) (n : Nat) : Below B a (w.drewN n) := by
 induction n with
 | zero => exact h
 | succ n ih => exact ih.drew
theorem Vars.below {w w' : World} (hv : Vars w) (hb : Below w.heap.size w w') : Vars w' :=
 ⟨fun k hk => (hb.cell (World.block_lt_of_cell? w _ (hv.1 k hk))).trans (hv.1 k hk), fun j hj => (hb.cell (World.block_lt_of_cell? w _ (hv.2 j hj))).trans (hv.2 j hj)⟩
def aJ (P Q G : Int) : Bool := decide (P < 2305843009213693952 ∧ 3 ≤ Q ∧ Q % 2 = 1 ∧ l7 P = true ∧ l7 Q = true ∧ (P - 1) % Q = 0 ∧ 2 ≤ G ∧ G < P ∧ pw G Q P = 1)
abbrev gv (P Q G : Int) : Value := .agg #[.int .i64 P, .int .i64 Q, .int .i64 G]
abbrev aN (P Q G : Int) : Obj := .cells #[.int .i64 P, .int .i64 Q, .int .i64 G] 23
theorem bV (w : World) (o : Obj) (n : Nat) : Below w.heap.size w ((w.alloc o).drewN n) := ay ((Below.refl _ _).alloc (Nat.le_refl _) _) n
theorem ai (w : World) (o : Obj) : Below w.heap.size w (w.alloc o) := (Below.refl _ _).alloc (Nat.le_refl _) _
theorem BF (P Q G : Int) (b : Bool) (h1 : P < 2305843009213693952) (h2 : 3 ≤ Q) (h3 : Hid (Q % 2 = 1)) (h4 : Hid (l7 P = true)) (h5 : Hid (l7 Q = true)) (h6 : Hid ((P - 1) % Q = 0)) (h7 : 2 ≤ G) (h8 : G < P)
  (hQ : Q < 9223372036854775808) (hb : Hid ((pw G Q P == 1) = b)) (w : World) (hv : Hid (Vars w)) :
  Calls Tryz.prog 34 #[gv P Q G] w fun e' w' => e' = .returned (.bool b) ∧ Below w.heap.size w w' := by
 have g3 : ((Q % 2 : Int) == 0) = false := by have := h3.out; simp; omega
 have g6 : (((P - 1) % Q : Int) == 0) = true := by rw [h6.out]; rfl
 have Mq : (((P - 1) % Q : Int) != 0) = false := by rw [h6.out]; rfl
 have g8 : decide (P ≤ G) = false := by simp; omega
 obtain ⟨x, hx⟩ : ∃ x, pw G Q P = x := ⟨_, rfl⟩
 have g9 : ((x : Int) == 1) = b := by rw [← hx]; exact hb.out
 have HX := aa hx
 clear hx
 go_in
 go_wp2_with fail
 refine (jC P (by omega) true h4 _ (hv.out.below (ai _ _))).mono ?_
 rintro e w' ⟨rfl, n1, rfl⟩
 go_wp2_with fail
 refine (jC Q (by omega) true h5 _ (hv.out.below (bV _ _ _))).mono ?_
 rintro e w' ⟨rfl, n2, rfl⟩
 go_wp2_with fail
 refine (tY G Q P (by omega) h1 (by omega) h8 (by omega) hQ _).mono ?_
 rintro e w' ⟨rfl, n3, rfl⟩
 rw [HX.out]
 go_wp2
 go_ret
 refine ⟨rfl, ?_⟩
 repeat (first | exact bV _ _ _ | refine ay ?_ _)
theorem K9 (P Q G : Int) (h1 : 2305843009213693952 ≤ P) (w : World) (hv : Hid (Vars w)) :
  Calls Tryz.prog 34 #[gv P Q G] w fun e' w' => e' = .returned (.bool false) ∧ Below w.heap.size w w' := by
 go_in
 go_wp2
 go_ret
 refine ⟨rfl, ?_⟩
 repeat (first | exact ai _ _ | exact bV _ _ _ | refine ay ?_ _)
theorem K8 (P Q G : Int) (h1 : P < 2305843009213693952) (h2 : Q < 3) (w : World) (hv : Hid (Vars w)) :
  Calls Tryz.prog 34 #[gv P Q G] w fun e' w' => e' = .returned (.bool false) ∧ Below w.heap.size w w' := by
 go_in
 go_wp2
 go_ret
 refine ⟨rfl, ?_⟩
 repeat (first | exact ai _ _ | exact bV _ _ _ | refine ay ?_ _)
theorem K7 (P Q G : Int) (h1 : P < 2305843009213693952) (h2 : 3 ≤ Q) (h3 : Hid (Q % 2 = 0)) (w : World) (hv : Hid (Vars w)) :
  Calls Tryz.prog 34 #[gv P Q G] w fun e' w' => e' = .returned (.bool false) ∧ Below w.heap.size w w' := by
 have g3 : ((Q % 2 : Int) == 0) = true := by rw [h3.out]; rfl
 go_in
 go_wp2
 go_ret
 refine ⟨rfl, ?_⟩
 repeat (first | exact ai _ _ | exact bV _ _ _ | refine ay ?_ _)
theorem K6 (P Q G : Int) (h1 : P < 2305843009213693952) (h2 : 3 ≤ Q) (h3 : Hid (Q % 2 = 1)) (h4 : Hid (l7 P = false)) (w : World) (hv : Hid (Vars w)) :
  Calls Tryz.prog 34 #[gv P Q G] w fun e' w' => e' = .returned (.bool false) ∧ Below w.heap.size w w' := by
 have g3 : ((Q % 2 : Int) == 0) = false := by have := h3.out; simp; omega
 go_in
 go_wp2_with fail
 refine (jC P (by omega) false h4 _ (hv.out.below (ai _ _))).mono ?_
 rintro e w' ⟨rfl, n1, rfl⟩
 go_wp2
 go_ret
 refine ⟨rfl, ?_⟩
 repeat (first | exact ai _ _ | exact bV _ _ _ | refine ay ?_ _)
theorem K5 (P Q G : Int) (h1 : P < 2305843009213693952) (h2 : 3 ≤ Q) (h3 : Hid (Q % 2 = 1)) (h4 : Hid (l7 P = true)) (h5 : Hid (l7 Q = false)) (hQ : Q < 9223372036854775808) (w : World) (hv : Hid (Vars w)) :
  Calls Tryz.prog 34 #[gv P Q G] w fun e' w' => e' = .returned (.bool false) ∧ Below w.heap.size w w' := by
 have g3 : ((Q % 2 : Int) == 0) = false := by have := h3.out; simp; omega
 go_in
 go_wp2_with fail
 refine (jC P (by omega) true h4 _ (hv.out.below (ai _ _))).mono ?_
 rintro e w' ⟨rfl, n1, rfl⟩
 go_wp2_with fail
 refine (jC Q (by omega) false h5 _ (hv.out.below (bV _ _ _))).mono ?_
 rintro e w' ⟨rfl, n2, rfl⟩
 go_wp2
 go_ret
 refine ⟨rfl, ?_⟩
 repeat (first | exact ai _ _ | exact bV _ _ _ | refine ay ?_ _)
theorem K4 (P Q G : Int) (h1 : P < 2305843009213693952) (h2 : 3 ≤ Q) (h3 : Hid (Q % 2 = 1)) (h4 : Hid (l7 P = true)) (h5 : Hid (l7 Q = true)) (h6 : Hid ((P - 1) % Q ≠ 0)) (hp : 2 ≤ P) (hQ : Q < 9223372036854775808) (w : World) (hv : Hid (Vars w)) :
  Calls Tryz.prog 34 #[gv P Q G] w fun e' w' => e' = .returned (.bool false) ∧ Below w.heap.size w w' := by
 have g3 : ((Q % 2 : Int) == 0) = false := by have := h3.out; simp; omega
 have g6 : (((P - 1) % Q : Int) == 0) = false := by have := h6.out; simp; omega
 have Mq : (((P - 1) % Q : Int) != 0) = true := by have := h6.out; simp; omega
 go_in
 go_wp2_with fail
 refine (jC P (by omega) true h4 _ (hv.out.below (ai _ _))).mono ?_
 rintro e w' ⟨rfl, n1, rfl⟩
 go_wp2_with fail
 refine (jC Q (by omega) true h5 _ (hv.out.below (bV _ _ _))).mono ?_
 rintro e w' ⟨rfl, n2, rfl⟩
 go_wp2
 go_ret
 refine ⟨rfl, ?_⟩
 repeat (first | exact ai _ _ | exact bV _ _ _ | refine ay ?_ _)
theorem K3 (P Q G : Int) (h1 : P < 2305843009213693952) (h2 : 3 ≤ Q) (h3 : Hid (Q % 2 = 1)) (h4 : Hid (l7 P = true)) (h5 : Hid (l7 Q = true)) (h6 : Hid ((P - 1) % Q = 0)) (hp : 2 ≤ P) (hQ : Q < 9223372036854775808) (h7 : G < 2) (w : World) (hv : Hid (Vars w)) :
  Calls Tryz.prog 34 #[gv P Q G] w fun e' w' => e' = .returned (.bool false) ∧ Below w.heap.size w w' := by
 have g3 : ((Q % 2 : Int) == 0) = false := by have := h3.out; simp; omega
 have g6 : (((P - 1) % Q : Int) == 0) = true := by rw [h6.out]; rfl
 have Mq : (((P - 1) % Q : Int) != 0) = false := by rw [h6.out]; rfl
 go_in
 go_wp2_with fail
 refine (jC P (by omega) true h4 _ (hv.out.below (ai _ _))).mono ?_
 rintro e w' ⟨rfl, n1, rfl⟩
 go_wp2_with fail
 refine (jC Q (by omega) true h5 _ (hv.out.below (bV _ _ _))).mono ?_
 rintro e w' ⟨rfl, n2, rfl⟩
 go_wp2
 go_ret
 refine ⟨rfl, ?_⟩
 repeat (first | exact ai _ _ | exact bV _ _ _ | refine ay ?_ _)
theorem KZ (P Q G : Int) (h1 : P < 2305843009213693952) (h2 : 3 ≤ Q) (h3 : Hid (Q % 2 = 1)) (h4 : Hid (l7 P = true)) (h5 : Hid (l7 Q = true)) (h6 : Hid ((P - 1) % Q = 0)) (hp : 2 ≤ P) (hQ : Q < 9223372036854775808) (h7 : 2 ≤ G) (h8 : P ≤ G) (w : World) (hv : Hid (Vars w)) :
  Calls Tryz.prog 34 #[gv P Q G] w fun e' w' => e' = .returned (.bool false) ∧ Below w.heap.size w w' := by
 have g3 : ((Q % 2 : Int) == 0) = false := by have := h3.out; simp; omega
 have g6 : (((P - 1) % Q : Int) == 0) = true := by rw [h6.out]; rfl
 have Mq : (((P - 1) % Q : Int) != 0) = false := by rw [h6.out]; rfl
 go_in
 go_wp2_with fail
 refine (jC P (by omega) true h4 _ (hv.out.below (ai _ _))).mono ?_
 rintro e w' ⟨rfl, n1, rfl⟩
 go_wp2_with fail
 refine (jC Q (by omega) true h5 _ (hv.out.below (bV _ _ _))).mono ?_
 rintro e w' ⟨rfl, n2, rfl⟩
 go_wp2
 go_ret
 refine ⟨rfl, ?_⟩
 repeat (first | exact ai _ _ | exact bV _ _ _ | refine ay ?_ _)
theorem bK (P Q G : Int) (b : Bool) (hb : Hid (aJ P Q G = b)) (hQ : Q < 9223372036854775808) (w : World) (hv : Hid (Vars w)) :
  Calls Tryz.prog 34 #[gv P Q G] w fun e' w' => e' = .returned (.bool b) ∧ Below w.heap.size w w' := by
 have hb' := hb.out
 unfold aJ at hb'
 by_cases h1 : P < 2305843009213693952
 ·
  by_cases h2 : 3 ≤ Q
  ·
   by_cases h3 : Q % 2 = 1
   ·
    cases h4 : l7 P with
    | true =>
     have hp := DZ h4
     cases h5 : l7 Q with
     | true =>
      by_cases h6 : (P - 1) % Q = 0
      ·
       by_cases h7 : 2 ≤ G
       ·
        by_cases h8 : G < P
        ·
         refine BF P Q G b h1 h2 h3 h4 h5 h6 h7 h8 hQ ?_ w hv
         rw [← hb']
         simp [h1, h2, h3, h4, h5, h6, h7, h8]
         show ((pw G Q P == 1) = decide (pw G Q P = 1))
         rfl
        ·
         obtain rfl : b = false := by rw [← hb']; simp [h8]
         exact KZ P Q G h1 h2 h3 h4 h5 h6 hp hQ h7 (by omega) w hv
       ·
        obtain rfl : b = false := by rw [← hb']; simp [h7]
        exact K3 P Q G h1 h2 h3 h4 h5 h6 hp hQ (by omega) w hv
      ·
       obtain rfl : b = false := by rw [← hb']; simp [h6]
       exact K4 P Q G h1 h2 h3 h4 h5 h6 hp hQ w hv
     | false =>
      obtain rfl : b = false := by rw [← hb']; simp [h5]
      exact K5 P Q G h1 h2 h3 h4 h5 hQ w hv
    | false =>
     obtain rfl : b = false := by rw [← hb']; simp [h4]
     exact K6 P Q G h1 h2 h3 h4 w hv
   ·
    obtain rfl : b = false := by rw [← hb']; simp [h3]
    exact K7 P Q G h1 h2 (show Q % 2 = 0 by omega) w hv
  ·
   obtain rfl : b = false := by rw [← hb']; simp [h2]
   exact K8 P Q G h1 (by omega) w hv
 ·
  obtain rfl : b = false := by rw [← hb']; simp [h1]
  exact K9 P Q G (by omega) w hv
theorem af {w u u' : World} (h : Below w.heap.size w u) (h2 : Below u.heap.size u u') : Below w.heap.size w u' := h.trans (h2.mono h.size)
def a_ (P Q x : Int) : Bool := decide (1 ≤ x ∧ x < P ∧ pw x Q P = 1)
theorem d_ {P Q x : Int} (h : a_ P Q x = true) : 1 ≤ x := by simp [a_] at h; exact h.1
theorem ek {P Q x : Int} (h : a_ P Q x = true) : x < P := by simp [a_] at h; exact h.2.1
theorem pF {P Q x : Int} (h : a_ P Q x = true) : pw x Q P = 1 := by simp [a_] at h; exact h.2.2
theorem mW (P Q G x : Int) (b : Bool) (hb : Hid (a_ P Q x = b)) (h1 : P < 2305843009213693952) (FV : 0 ≤ Q) (hQ : Q < 9223372036854775808) (w : World) :
  Calls Tryz.prog 80 #[gv P Q G, .int .i64 x] w (Rt w (.bool b)) := by
 by_cases hx : x < 1
 ·
  obtain rfl : b = false := by rw [← hb.out]; simp [a_]; omega
  go_in
  go_wp2
  go_ret
  exact ⟨rfl, ai _ _⟩
 ·
  by_cases hx2 : P ≤ x
  ·
   obtain rfl : b = false := by rw [← hb.out]; simp [a_]; omega
   go_in
   go_wp2
   go_ret
   exact ⟨rfl, ai _ _⟩
  ·
   have d1 : decide (x < 1) = false := by simp; omega
   have d2 : decide (P ≤ x) = false := by simp; omega
   obtain ⟨y, hy⟩ : ∃ y, pw x Q P = y := ⟨_, rfl⟩
   have g9 : ((y : Int) == 1) = b := by
    rw [← hb.out, ← hy, a_, Bool.eq_iff_iff]
    simp only [beq_iff_eq, decide_eq_true_eq]
    exact ⟨fun h => ⟨by omega, by omega, h⟩, fun h => h.2.2⟩
   have HX := aa hy
   clear hy hb
   go_in
   go_wp2_with fail
   refine (tY x Q P (by omega) h1 (by omega) (by omega) FV hQ _).mono ?_
   rintro e w' ⟨rfl, n3, rfl⟩
   rw [HX.out]
   go_wp2
   go_ret
   exact ⟨rfl, bV _ _ _⟩
def eO (w : World) (a : Nat) (P Q G : Int) : Prop := w.cell? ⟨a, 0, none⟩ = some (.int .i64 P) ∧ w.cell? ⟨a, 1, none⟩ = some (.int .i64 Q) ∧ w.cell? ⟨a, 2, none⟩ = some (.int .i64 G)
theorem az (w : World) (P Q G : Int) : eO (w.alloc (aN P Q G)) w.heap.size P Q G :=
 ⟨World.cell?_alloc_at _ _ _ _ rfl, World.cell?_alloc_at _ _ _ _ rfl, World.cell?_alloc_at _ _ _ _ rfl⟩
theorem eO.below {w w' : World} {a : Nat} {P Q G : Int} (h : eO w a P Q G) (hb : Below w.heap.size w w') : eO w' a P Q G :=
 ⟨(hb.cell (World.block_lt_of_cell? _ _ h.1)).trans h.1, (hb.cell (World.block_lt_of_cell? _ _ h.2.1)).trans h.2.1, (hb.cell (World.block_lt_of_cell? _ _ h.2.2)).trans h.2.2⟩
theorem aM {P Q G : Int} (h : aJ P Q G = true) : 2 ≤ P ∧ P < 2305843009213693952 ∧ 3 ≤ Q ∧ Q < P := by
 simp [aJ] at h
 obtain ⟨h1, h2, h3, h4, h5, h6, h7⟩ := h
 have hp := DZ h4
 have hd : Q ∣ P - 1 := Int.dvd_of_emod_eq_zero h6
 have := Int.le_of_dvd (by omega) hd
 exact ⟨hp, h1, h2, by omega⟩
def l_ (P Q G x : Int) : Bool := aJ P Q G && a_ P Q x
theorem dJ (P Q G x : Int) (b : Bool) (hb : Hid (l_ P Q G x = b)) (hQ : Q < 9223372036854775808) (w : World) (hv : Hid (Vars w)) :
  Calls Tryz.prog 36 #[gv P Q G, .int .i64 x] w (Rt w (.bool b)) := by
 have HB0 := aa (az w P Q G)
 have ig := aa (hv.out.below (ai w (aN P Q G)))
 cases hval : aJ P Q G with
 | false =>
  obtain rfl : b = false := by rw [← hb.out]; simp [l_, hval]
  have HV : Hid (aJ P Q G = false) := hval
  clear hval hb
  go_in
  go_wp2_with fail
  refine (bK P Q G false HV hQ _ ig).mono ?_
  rintro e w1 ⟨rfl, hb0⟩
  have hb1 := af (ai _ _) hb0
  obtain ⟨c0, c1, c2⟩ := HB0.out.below hb0
  clear hb0
  go_wp2
  go_ret
  exact ⟨rfl, hb1⟩
 | true =>
  obtain ⟨hp2, hp, hq3, wK⟩ := aM hval
  have HM : Hid (a_ P Q x = b) := aa (by rw [← hb.out, l_, hval, Bool.true_and])
  have HV : Hid (aJ P Q G = true) := hval
  clear hval hb
  go_in
  go_wp2_with fail
  refine (bK P Q G true HV hQ _ ig).mono ?_
  rintro e w1 ⟨rfl, hb0⟩
  have hb1 := af (ai _ _) hb0
  obtain ⟨c0, c1, c2⟩ := HB0.out.below hb0
  clear hb0
  go_wp2_with fail
  refine (mW P Q G x b HM hp (by omega) hQ _).mono ?_
  rintro e w2 ⟨rfl, hb0⟩
  have hb2 := af hb1 hb0
  clear hb0
  go_wp2
  go_ret
  exact ⟨rfl, hb2⟩
theorem ry {P : Int} (h : 2 ≤ P) : (1 : Int) % P = 1 := Int.emod_eq_of_lt (by omega) (by omega)
theorem iZ (a e m : Int) : pw a e m = a ^ e.toNat % m := rfl
theorem DR (a e m : Int) : pw (a % m) e m = pw a e m := tZ a m _
theorem DN (a b e m : Int) : pw (a * b % m) e m = pw a e m * pw b e m % m := by
 rw [DR, iZ, iZ, iZ, Int.mul_pow, Int.mul_emod]
theorem xV (e m : Int) (h : 2 ≤ m) : pw 1 e m = 1 := by rw [iZ, Int.one_pow, ry h]
theorem BR (a i j m : Int) (hi : 0 ≤ i) (hj : 0 ≤ j) : pw a (i + j) m = pw a i m * pw a j m % m := by
 rw [iZ, iZ, iZ, show (i + j).toNat = i.toNat + j.toNat by omega, Int.pow_add, Int.mul_emod]
theorem DL (a i j m : Int) (hi : 0 ≤ i) (hj : 0 ≤ j) : pw (pw a i m) j m = pw a (i * j) m := by
 rw [iZ a i, DR, iZ, iZ, ← Int.pow_mul]
 congr 2
 obtain ⟨x, rfl⟩ := Int.eq_ofNat_of_zero_le hi
 obtain ⟨y, rfl⟩ := Int.eq_ofNat_of_zero_le hj
 rw [← Int.natCast_mul]
 rfl
theorem vD (n : Nat) : (0 : Int) ^ (n + 1) = 0 := by rw [Int.pow_succ, Int.mul_zero]
theorem Fj {x Q P : Int} (h0 : 0 ≤ x) (hQ : 1 ≤ Q) (h : pw x Q P = 1) : 1 ≤ x := by
 by_cases hx : x = 0
 ·
  subst hx
  rw [iZ] at h
  obtain ⟨n, hn⟩ : ∃ n, Q.toNat = n + 1 := ⟨Q.toNat - 1, by omega⟩
  rw [hn, vD] at h
  simp at h
 · omega
theorem mem_mk {P Q x : Int} (h0 : 0 ≤ x) (h1 : x < P) (hQ : 1 ≤ Q) (h : pw x Q P = 1) : a_ P Q x = true := by
 simp [a_]; exact ⟨Fj h0 hQ h, h1, h⟩
theorem LM {P Q : Int} (hP : 2 ≤ P) : a_ P Q 1 = true := by
 simp [a_]; exact ⟨by omega, xV Q P hP⟩
theorem DW {P Q a b : Int} (hP : 2 ≤ P) (hQ : 1 ≤ Q) (ha : a_ P Q a = true) (hb : a_ P Q b = true) : a_ P Q (a * b % P) = true :=
 mem_mk (Int.emod_nonneg _ (by omega)) (Int.emod_lt_of_pos _ (by omega)) hQ (by rw [DN, pF ha, pF hb]; exact ry hP)
theorem Cf {P Q a k : Int} (hP : 2 ≤ P) (hQ : 1 ≤ Q) (hk : 0 ≤ k) (ha : a_ P Q a = true) : a_ P Q (pw a k P) = true := by
 refine mem_mk (Int.emod_nonneg _ (by omega)) (Int.emod_lt_of_pos _ (by omega)) hQ ?_
 rw [DL _ _ _ _ hk (by omega), Int.mul_comm, ← DL _ _ _ _ (by omega) hk, pF ha, xV _ _ hP]
theorem BQ {P Q a k : Int} (hP : 2 ≤ P) (hQ : 1 ≤ Q) (hk : 0 ≤ k) (ha : pw a Q P = 1) : pw a k P = pw a (k % Q) P := by
 have h1 : 0 ≤ k % Q := Int.emod_nonneg _ (by omega)
 have h2 : 0 ≤ k / Q := Int.ediv_nonneg hk (by omega)
 have e : k = Q * (k / Q) + k % Q := (Int.mul_ediv_add_emod k Q).symm
 have h3 : 0 ≤ Q * (k / Q) := Int.mul_nonneg (by omega) h2
 have h4 : pw a k P = pw a (Q * (k / Q) + k % Q) P := by rw [← e]
 rw [h4, BR _ _ _ _ h3 h1, ← DL _ _ _ _ (by omega) h2, ha, xV _ _ hP, Int.one_mul, iZ a (k % Q), Int.emod_emod_of_dvd _ (Int.dvd_refl P)]
end Go.Proofs.YtbljkkpnpcgjfaaGreatDoor
namespace Go.Proofs.YtbljkkpnpcgjfaaGreatDoor
open Go.ChangeShapes Go.WideShapes Go.ChangeAt Go.RowKit rM
theorem own : ownKnob Tryz.prog.godebug = none := by kernel_rfl
theorem laidOut : laidOutB Tryz.prog = true := by kernel_rfl
theorem Jo : Tryz.prog.globalNamed "specie/prime.bases" = some 0 := by kernel_rfl
theorem CK : (Tryz.prog.globals[0]?).map (·.type) = some 144 := by kernel_rfl
theorem RJ : Tryz.prog.globalNamed "math/bits.deBruijn64tab" = some 2 := by kernel_rfl
theorem Jk : (Tryz.prog.globals[2]?).map (·.type) = some 181 := by kernel_rfl
theorem C9 : Tryz.prog.cellsOf 144 = 12 := by kernel_rfl
theorem JR : Tryz.prog.cellsOf 181 = 64 := by kernel_rfl
theorem A7 : Tryz.prog.cellsOf 143 = 1 := by kernel_rfl
theorem Eh : Tryz.prog.cellsOf 5 = 1 := by kernel_rfl
theorem jH : Tryz.prog.cellsOf 3 = 1 := by kernel_rfl
theorem CZ : Tryz.prog.cellsOf 23 = 3 := by kernel_rfl
section
variable {H : Type} {enc : TypeId × Value → H}
theorem v_ {W W' : World} (hb : Below W.heap.size W W') {sp : Nat → Bool} : ∀ {ts : List TypeId} {vs : List Value} {ds : List (DataW H)} {ps : List MemPlace},
  (∀ t ∈ ts, Tryz.prog.readableRec t = true ∧ t < Tryz.prog.types.size) → DataW.TrodAll enc Tryz.prog W 0 (fun _ => true) true ts vs ds ps → (∀ x ∈ ps, x.block < W.heap.size) → (∀ x ∈ ps, sp x.block = true) →
  DataW.TrodAll enc Tryz.prog W' 0 sp true ts vs ds ps
 | [], _, _, _, _, h, _, _ => by
  obtain ⟨rfl, rfl, rfl⟩ := trodAll_nil h
  exact trodAll_mk0
 | t :: ts, _, _, _, ht, h, hlt, hs => by
  obtain ⟨v, vs', d, ds', p, q, rfl, rfl, rfl, h0, hr⟩ := trodAll_cons h
  have h1 := ht t (List.mem_cons_self ..)
  exact trodAll_cons_mk (WideElems.Trod_stays laidOut h1.1 h1.2 h0 (fun x hx => hb.same (hlt x (List.mem_append_left _ hx))) (fun x hx => hs x (List.mem_append_left _ hx)))
   (v_ hb (fun t' h' => ht t' (List.mem_cons_of_mem _ h')) hr (fun x hx => hlt x (List.mem_append_right _ hx)) (fun x hx => hs x (List.mem_append_right _ hx)))
theorem IU {f : Func} {s : ChangeSpec} {apart fresh handsOn again : Bool} {W W' : World} {args : Array Value} {ds gs : List (DataW H)} {before : List MemPlace}
  (hts : ∀ t ∈ f.params.toList, Tryz.prog.readableRec t = true ∧ t < Tryz.prog.types.size)
  (hv : s.vars = []) (hres : f.resultTypes = #[4])
  (hW : DataW.Whole enc Tryz.prog f.params.toList s.vars apart W args.toList ds gs before)
  (hfn : s.fn H (ds ++ gs) = { results := [.lit (.bool true)], args := ds }) (hb : Below W.heap.size W W') :
  s.post enc Tryz.prog f apart fresh handsOn again W args (.bool true) W' := by
 have hlt : ∀ p ∈ before, p.block < W.heap.size := fun p hp => hW.lt p hp
 have hW2 := hW
 obtain ⟨pa, pv, hA, hV, hps, hz, hn⟩ := hW
 rw [hv] at hV
 obtain ⟨hg, hpv⟩ := trodVars_none hV
 subst hg; subst hpv
 rw [List.append_nil] at hps
 subst hps
 have hargs : ∀ sp : Nat → Bool, (∀ p ∈ before, sp p.block = true) → DataW.TrodAll enc Tryz.prog W' 0 sp true f.params.toList args.toList (s.fn H (ds ++ [])).args before := fun sp hsp => by
  rw [hfn]; exact v_ hb hts hA hlt hsp
 have hvars : ∀ sp : Nat → Bool, DataW.TrodVars enc Tryz.prog W' sp s.vars (s.fn H (ds ++ [])).vars [] := fun sp => by
  rw [hfn, hv]; rfl
 have Nj : ∀ (b : Nat) (sp : Nat → Bool) (hd : Bool), DataW.TrodAll enc Tryz.prog W' b sp hd f.resultTypes.toList ((Value.bool true).resultList f.resultTypes.size) (s.fn H (ds ++ [])).results [] := fun b sp hd => by
  rw [hfn, hres]; exact trodAll_cons_mk (shut_bool Tryz.underlying4 _) trodAll_mk0
 have hold : ∀ p ∈ before, (fun b => decide (b < W.heap.size)) p.block = true := fun p hp => by simpa using hlt p hp
 refine ⟨ds, [], before, [], before, [], hW2, Nj _ _ _, hargs _ hold, hvars _, World.keptBut_mono (fun p hp => ⟨hp, ?_⟩) (hb.frame (· ∈ before)), fun _ => ?_⟩
 · exact Or.inr (Or.inl hp)
 ·
  refine ⟨ok_one hres rfl (okWide_bool_mk Tryz.underlying4 _), _, _, ([] ++ before) ++ [], ⟨[] ++ before, [], trodAll_append (hargs _ (fun _ _ => rfl)) (Nj _ _ _), hvars _, rfl, ?_, ?_⟩, ?_⟩
  ·
   intro b off hp
   have hin : MemPlace.cell b off ∈ before := by simpa using hp
   rw [hb.frozen (hlt _ hin)]
   exact hz b off hin
  ·
   intro ha
   simpa using hn ha
  ·
   intro p hp _
   simpa using hp
end
section
variable {H : Type} {enc : TypeId × Value → H} {w : World} {base : Nat} {spare : Nat → Bool} {held : Bool}
theorem qG {n : Nat} {cs : List Value} {x : DataW H × List MemPlace} (h : DataW.trod enc Tryz.prog w base spare held n 23 cs = some x) :
  ∃ P Q G : Int, cs = [.int .i64 P, .int .i64 Q, .int .i64 G] ∧ (-9223372036854775808 ≤ P ∧ P ≤ 9223372036854775807) ∧ (-9223372036854775808 ≤ Q ∧ Q ≤ 9223372036854775807) ∧ (-9223372036854775808 ≤ G ∧ G ≤ 9223372036854775807) := by
 obtain ⟨xs, m, rfl, rfl, hl, hxl, hf⟩ := DataW.trod_struct Tryz.underlying23 h
 rw [CZ] at hl
 match cs, hl with
 | [c0, c1, c2], _ =>
  have f0 : DataW.trod enc Tryz.prog w base spare held m 3 (([c0, c1, c2].drop 0).take (Tryz.prog.cellsOf 3)) = xs[0]? := hf 0 _ rfl
  have f1 : DataW.trod enc Tryz.prog w base spare held m 3 (([c0, c1, c2].drop 1).take (Tryz.prog.cellsOf 3)) = xs[1]? := hf 1 _ rfl
  have f2 : DataW.trod enc Tryz.prog w base spare held m 3 (([c0, c1, c2].drop 2).take (Tryz.prog.cellsOf 3)) = xs[2]? := hf 2 _ rfl
  rw [jH] at f0 f1 f2
  have hl3 : xs.length = 3 := hxl
  match xs, hl3 with
  | [x0, x1, x2], _ =>
   obtain ⟨P, hP, _, wP⟩ := DataW.trod_int Tryz.underlying3 f0
   obtain ⟨Q, hQ, _, wQ⟩ := DataW.trod_int Tryz.underlying3 f1
   obtain ⟨G, hG, _, wG⟩ := DataW.trod_int Tryz.underlying3 f2
   simp at hP hQ hG
   subst hP; subst hQ; subst hG
   exact ⟨P, Q, G, rfl, bounds_i64 wP, bounds_i64 wQ, bounds_i64 wG⟩
theorem B_ {r : Reach} {b0 : Nat} {v : Value} {d : DataW H} {ps : List MemPlace} (hval : Value.okWide Tryz.prog w r b0 23 v) (hd : DataW.Trod enc Tryz.prog w base spare held 23 v d ps) :
  ∃ P Q G : Int, v = gv P Q G ∧ (-9223372036854775808 ≤ P ∧ P ≤ 9223372036854775807) ∧ (-9223372036854775808 ≤ Q ∧ Q ≤ 9223372036854775807) ∧ (-9223372036854775808 ≤ G ∧ G ≤ 9223372036854775807) := by
 obtain ⟨cs, rfl, hsz⟩ := okWide_struct Tryz.underlying23 hval
 obtain ⟨n, h⟩ := hd
 obtain ⟨P, Q, G, hcs, hb⟩ := qG h
 refine ⟨P, Q, G, ?_, hb⟩
 have : cs = #[.int .i64 P, .int .i64 Q, .int .i64 G] := by
  cases cs
  simpa [Value.cells] using hcs
 rw [this]
end
def IQ : Obj → Obj
 | .cells _ t frozen => .cells #[.int .u64 2, .int .u64 3, .int .u64 5, .int .u64 7, .int .u64 11, .int .u64 13, .int .u64 17, .int .u64 19, .int .u64 23, .int .u64 29, .int .u64 31, .int .u64 37] t frozen
 | o => o
def Oa : Obj → Obj
 | .cells _ t frozen => .cells (Lib.deBruijn64tab.map fun n : Nat => Value.int .u8 (n : Int)).toArray t frozen
 | o => o
end Go.Proofs.YtbljkkpnpcgjfaaGreatDoor
namespace Go.Proofs.YtbljkkpnpcgjfaaGreatDoor
open Go.RowKit rM
theorem Fg (a m : Int) (h1 : 1 ≤ m) (h2 : m < 2305843009213693952) (ha0 : -9223372036854775808 ≤ a) (ha : a < 9223372036854775808) (w : World) :
  Calls Tryz.prog 83 #[.int .i64 a, .int .i64 m] w fun e' w' => e' = .returned (.tuple #[.int .i64 (a % m), .int .i64 0]) ∧ w = w' := by
 have hc := aa (yN (a := 0) (b := 0) (by omega) h2 (by omega) (by omega) (by omega) (by omega))
 have hm : ((m : Int) == 0) = false := by simp; omega
 by_cases hneg : 0 ≤ a
 ·
  have h3 : 0 ≤ a % m := Int.emod_nonneg _ (by omega)
  have h4 : a % m < m := Int.emod_lt_of_pos _ (by omega)
  have h5 : decide (a % m < 0) = false := by simp; omega
  go_in
  go_wp2_with (go_at_call 118; refine (jk _ _ _ _).mono ?_; rintro e w' ⟨rfl, rfl⟩; rw [hc.out])
  go_ret2
  exact ⟨rfl, rfl⟩
 ·
  obtain ⟨t, ht⟩ : ∃ t, a.tmod m = t := ⟨_, rfl⟩
  obtain ⟨r, hr⟩ : ∃ r, a % m = r := ⟨_, rfl⟩
  have hb : -m < t ∧ t ≤ 0 := by
   rw [← ht]
   have e : a.tmod m = - ((-a) % m) := by
    rw [← Int.neg_neg a, Int.neg_tmod, Int.neg_neg, Int.tmod_eq_emod_of_nonneg (by omega)]
   have h3 : 0 ≤ (-a) % m := Int.emod_nonneg _ (by omega)
   have h4 : (-a) % m < m := Int.emod_lt_of_pos _ (by omega)
   omega
  have hrt : r = if t < 0 then t + m else t := by
   rw [← hr]
   have e : a = m * a.tdiv m + t := by rw [← ht]; exact (Int.mul_tdiv_add_tmod a m).symm
   have h6 : a % m = t % m := by rw [e, Int.mul_add_emod_self_left]
   rw [h6]
   split
   · rw [← Int.add_emod_right t m]; exact Int.emod_eq_of_lt (by omega) (by omega)
   · exact Int.emod_eq_of_lt (by omega) (by omega)
  obtain ⟨hb1, hb2⟩ := hb
  rw [hr]
  have HW : wrap64 (a.tmod m) = t := by rw [ht]; exact IntWalk.wrap64_in _ (by omega)
  clear hr
  by_cases hz : t < 0
  ·
   rw [if_pos hz] at hrt
   subst hrt
   go_in
   go_wp2_with (go_at_call 118; refine (jk _ _ _ _).mono ?_; rintro e w' ⟨rfl, rfl⟩; rw [hc.out])
   go_ret2
   exact ⟨rfl, rfl⟩
  ·
   rw [if_neg hz] at hrt
   subst hrt
   have hz2 : decide (r < 0) = false := by simp; omega
   go_in
   go_wp2_with (go_at_call 118; refine (jk _ _ _ _).mono ?_; rintro e w' ⟨rfl, rfl⟩; rw [hc.out])
   go_ret2
   exact ⟨rfl, rfl⟩
def Cells (w : World) (b : Nat) (xs : List Int) : Prop := ∀ k, k < xs.length → w.cell? ⟨b, k, none⟩ = some (.int .i64 (xs.getD k 0))
theorem Cells.below {w w' : World} {b : Nat} {xs : List Int} (h : Cells w b xs) (hb : Below w.heap.size w w') : Cells w' b xs :=
 fun k hk => (hb.cell (World.block_lt_of_cell? _ _ (h k hk))).trans (h k hk)
def r_ (P Q G : Int) (xs : List Int) : Int := if aJ P Q G = true then (if xs.all (a_ P Q) = true then 0 else 2) else 1
theorem vO {f : Int → Bool} {xs : List Int} {k : Nat} (hk : k < xs.length) (h : f (xs.getD k 0) = true) : (xs.drop k).all f = (xs.drop (k + 1)).all f := by
 rw [List.drop_eq_getElem_cons hk, List.all_cons]
 rw [List.getD_eq_getElem?_getD, List.getElem?_eq_getElem hk] at h
 simp at h
 rw [h, Bool.true_and]
theorem yX {f : Int → Bool} {xs : List Int} {k : Nat} (hk : k < xs.length) (h : f (xs.getD k 0) = false) : (xs.drop k).all f = false := by
 rw [List.drop_eq_getElem_cons hk, List.all_cons]
 rw [List.getD_eq_getElem?_getD, List.getElem?_eq_getElem hk] at h
 simp at h
 rw [h, Bool.false_and]
theorem F_ (P Q G : Int) (b : Nat) (n c : Nat) (hv0 : Hid (aJ P Q G = false)) (hQ : Q < 9223372036854775808) (w : World) (hv : Hid (Vars w)) :
  Calls Tryz.prog 82 #[gv P Q G, .slice (some ⟨b, 0, none⟩) n c] w (Rt w (.int .i64 1)) := by
 have HB0 := aa (az w P Q G)
 have ig := aa (hv.out.below (ai w (aN P Q G)))
 go_in
 go_wp2_with fail
 refine (bK P Q G false hv0 hQ _ ig).mono ?_
 rintro e w1 ⟨rfl, hb0⟩
 have hb1 := af (ai _ _) hb0
 clear hb0
 go_wp2
 go_ret
 exact ⟨rfl, hb1⟩
theorem CX (P Q G : Int) (b : Nat) (xs : List Int) (c : Nat) (hlen : xs.length < 1000) (r : Int) (hr : Hid ((if xs.all (a_ P Q) = true then 0 else 2) = r)) (hv0 : Hid (aJ P Q G = true)) (hQ : Q < 9223372036854775808) (w : World) (hv : Hid (Vars w)) (hc : Hid (Cells w b xs)) :
  Calls Tryz.prog 82 #[gv P Q G, .slice (some ⟨b, 0, none⟩) xs.length c] w (Rt w (.int .i64 r)) := by
 obtain ⟨hp2, hp, hq3, wK⟩ := aM hv0.out
 have HB0 := aa (az w P Q G)
 have ig := aa (hv.out.below (ai w (aN P Q G)))
 have sV := aa (hc.out.below (ai w (aN P Q G)))
 obtain ⟨n, hn⟩ : ∃ n, xs.length = n := ⟨_, rfl⟩
 rw [hn] at hlen ⊢
 have HN := aa hn
 clear hn
 go_in
 go_wp2_with fail
 refine (bK P Q G true hv0 hQ _ ig).mono ?_
 rintro e w1 ⟨rfl, hb0⟩
 have HB1 := aa (af (ai _ _) hb0)
 have M9 := aa (HB0.out.below hb0)
 have PS := aa (sV.out.below hb0)
 clear hb0
 go_wp2
 go_loopw [12] (fun i wr => ∃ k : Nat, k ≤ n ∧ i = .int .i64 k ∧ Hid (xs.all (a_ P Q) = (xs.drop k).all (a_ P Q)) ∧ Hid (Below w1.heap.size w1 wr)) (fun i _ => n - (intOf i).toNat)
 case atStart => exact ⟨0, by omega, rfl, aa rfl, aa (Below.refl _ _)⟩
 case round =>
  obtain ⟨k, hk, rfl, HR, aF⟩ := hrel
  by_cases hlt : k < n
  ·
   have hkl : k < xs.length := by rw [HN.out]; exact hlt
   have hi := PS.out.below aF.out k hkl
   obtain ⟨c0, c1, c2⟩ := M9.out.below aF.out
   cases hm : a_ P Q (xs.getD k 0) with
   | true =>
    have HS : Hid (xs.all (a_ P Q) = (xs.drop (k + 1)).all (a_ P Q)) := aa (HR.out.trans (vO hkl hm))
    obtain ⟨x, hx⟩ : ∃ x, xs.getD k 0 = x := ⟨_, rfl⟩
    rw [hx] at hi hm
    have HM := aa hm
    clear hx hm HR hkl
    go_wp2_with fail
    refine (mW P Q G x true HM hp (by omega) hQ _).mono ?_
    rintro e w2 ⟨rfl, hb0⟩
    have HB2 := aa (af aF.out hb0)
    clear hb0
    go_wp2
    go_roundw
    case rel => exact ⟨k + 1, by omega, by go_num, HS, HB2⟩
    case measure => simp [intOf]; omega
   | false =>
    obtain rfl : r = 2 := by rw [← hr.out, HR.out, yX hkl hm]; rfl
    obtain ⟨x, hx⟩ : ∃ x, xs.getD k 0 = x := ⟨_, rfl⟩
    rw [hx] at hi hm
    have HM := aa hm
    clear hx hm HR hkl
    go_wp2_with fail
    refine (mW P Q G x false HM hp (by omega) hQ _).mono ?_
    rintro e w2 ⟨rfl, hb0⟩
    have HB2 := aa (af (af HB1.out aF.out) hb0)
    clear hb0
    go_wp2
    go_ret
    exact ⟨rfl, HB2.out⟩
  ·
   obtain rfl : k = n := by omega
   obtain rfl : r = 0 := by rw [← hr.out, HR.out, ← HN.out]; simp
   have HB2 := aa (af HB1.out aF.out)
   clear HR
   go_wp2
   go_ret
   exact ⟨rfl, HB2.out⟩
theorem uK (P Q G : Int) (b : Nat) (xs : List Int) (n c : Nat) (hn : Hid (xs.length = n)) (hlen : n < 1000) (r : Int) (hr : Hid (r_ P Q G xs = r)) (hQ : Q < 9223372036854775808) (w : World) (hv : Hid (Vars w)) (hc : Hid (Cells w b xs)) :
  Calls Tryz.prog 82 #[gv P Q G, .slice (some ⟨b, 0, none⟩) n c] w (Rt w (.int .i64 r)) := by
 cases hval : aJ P Q G with
 | false =>
  obtain rfl : r = 1 := by rw [← hr.out, r_, hval]; rfl
  exact F_ P Q G b n c hval hQ w hv
 | true =>
  rw [← hn.out]
  refine CX P Q G b xs c (by rw [hn.out]; exact hlen) r ?_ hval hQ w hv hc
  rw [← hr.out, r_, if_pos hval]; exact rfl
def Sl (w : World) (A : Option Addr) (xs : List Int) : Prop := ∀ k, k < xs.length → ∃ b o, A = some ⟨b, o, none⟩ ∧ w.cell? ⟨b, o + k, none⟩ = some (.int .i64 (xs.getD k 0))
theorem Sl.below {w w' : World} {A : Option Addr} {xs : List Int} (h : Sl w A xs) (hb : Below w.heap.size w w') : Sl w' A xs := fun k hk => by
 obtain ⟨b, o, h1, h2⟩ := h k hk
 exact ⟨b, o, h1, (hb.cell (World.block_lt_of_cell? _ _ h2)).trans h2⟩
def Says (g : FuncId) (caps : Array Value) (p : Int → Bool) (W : World) : Prop :=
 ∀ (x : Int) (w1 : World), Below W.heap.size W w1 → Calls Tryz.prog g (#[.int .i64 x] ++ caps) w1 fun e w' => e = .returned (.bool (p x)) ∧ Below w1.heap.size w1 w'
theorem fZ {f : Int → Bool} {xs : List Int} {k : Nat} (hk : k < xs.length) (h : f (xs.getD k 0) = false) : (xs.drop k).any f = (xs.drop (k + 1)).any f := by
 rw [List.drop_eq_getElem_cons hk, List.any_cons]
 rw [List.getD_eq_getElem?_getD, List.getElem?_eq_getElem hk] at h
 simp at h
 rw [h, Bool.false_or]
theorem gZ {f : Int → Bool} {xs : List Int} {k : Nat} (hk : k < xs.length) (h : f (xs.getD k 0) = true) : (xs.drop k).any f = true := by
 rw [List.drop_eq_getElem_cons hk, List.any_cons]
 rw [List.getD_eq_getElem?_getD, List.getElem?_eq_getElem hk] at h
 simp at h
 rw [h, Bool.true_or]
def uX (p : Int → Bool) (xs : List Int) (w : World) (e : Ending) (w' : World) : Prop := ∃ i : Int, e = .returned (.int .i64 i) ∧ decide (0 ≤ i) = xs.any p ∧ Below w.heap.size w w'
theorem L8 (c0 : Value) (p : Int → Bool) (A : Option Addr) (xs : List Int) (n c : Nat) (hn : Hid (xs.length = n)) (hbig : Hid (n < 1000000)) (w : World) (hs : Hid (Sl w A xs)) (hp : Hid (Says 124 #[c0] p w)) :
  Calls Tryz.prog 105 #[.slice A n c, .func (.func 124) #[] #[c0]] w (uX p xs w) := by
 have hn0 : n < 1000000 := hbig.out
 go_in
 go_wp2
 go_loopw [8] (fun i wr => ∃ k : Nat, k ≤ n ∧ i = .int .i64 k ∧ Hid (xs.any p = (xs.drop k).any p) ∧ Hid (Below w.heap.size w wr)) (fun i _ => n - (intOf i).toNat)
 case atStart => exact ⟨0, by omega, rfl, aa rfl, aa (Below.refl _ _)⟩
 case round =>
  obtain ⟨k, hk, rfl, HR, aF⟩ := hrel
  by_cases hlt : k < n
  ·
   have hkl : k < xs.length := by rw [hn.out]; exact hlt
   obtain ⟨b, o, hA, hi0⟩ := hs.out k hkl
   subst hA
   have hi := (aF.out.cell (World.block_lt_of_cell? _ _ hi0)).trans hi0
   cases hpx : p (xs.getD k 0) with
   | false =>
    have HN : Hid (xs.any p = (xs.drop (k + 1)).any p) := aa (HR.out.trans (fZ hkl hpx))
    obtain ⟨x, hx⟩ : ∃ x, xs.getD k 0 = x := ⟨_, rfl⟩
    rw [hx] at hi hpx
    have HC := aa (hp.out x wr aF.out)
    have ql := aa hpx
    clear hi0 hx hkl hpx HR
    go_wp2_with fail
    refine HC.out.mono ?_
    rintro e w2 ⟨rfl, hb0⟩
    rw [ql.out]
    have HB2 := aa (af aF.out hb0)
    clear hb0
    go_wp2
    go_roundw
    case rel => exact ⟨k + 1, by omega, by go_num, HN, HB2⟩
    case measure => simp [intOf]; omega
   | true =>
    have HN : Hid (decide ((0 : Int) ≤ (k : Int)) = xs.any p) := aa (by rw [HR.out, gZ hkl hpx]; simp)
    obtain ⟨x, hx⟩ : ∃ x, xs.getD k 0 = x := ⟨_, rfl⟩
    rw [hx] at hi hpx
    have HC := aa (hp.out x wr aF.out)
    have ql := aa hpx
    clear hi0 hx hkl hpx HR
    go_wp2_with fail
    refine HC.out.mono ?_
    rintro e w2 ⟨rfl, hb0⟩
    rw [ql.out]
    have HB2 := aa (af aF.out hb0)
    clear hb0
    go_wp2
    go_ret
    exact ⟨k, rfl, HN.out, HB2.out⟩
  ·
   obtain rfl : k = n := by omega
   have HN : Hid (decide ((0 : Int) ≤ (-1 : Int)) = xs.any p) := aa (by rw [HR.out, ← hn.out]; simp)
   clear HR hlt
   go_wp2
   go_ret
   exact ⟨-1, rfl, HN.out, aF.out⟩
theorem OZ (c0 : Value) (p : Int → Bool) (r : Bool) (A : Option Addr) (xs : List Int) (n c : Nat) (hr : Hid (xs.any p = r)) (hn : Hid (xs.length = n)) (hbig : Hid (n < 1000000)) (w : World) (hs : Hid (Sl w A xs)) (hp : Hid (Says 124 #[c0] p w)) :
  Calls Tryz.prog 59 #[.slice A n c, .func (.func 124) #[] #[c0]] w fun e w' => e = .returned (.bool r) ∧ Below w.heap.size w w' := by
 go_in
 go_wp2_with fail
 refine (L8 c0 p A xs n c hn hbig _ hs hp).mono ?_
 rintro e w1 ⟨i, rfl, hi, hb1⟩
 have hd : decide ((0 : Int) ≤ i) = r := hi.trans hr.out
 clear hi
 go_wp2
 go_ret
 exact ⟨by first | rfl | (rw [← hd]) | simp [hd], hb1⟩
theorem L6 (c0 : Value) (p : Int → Bool) (A : Option Addr) (xs : List Int) (n c : Nat) (hn : Hid (xs.length = n)) (hbig : Hid (n < 1000000)) (w : World) (hs : Hid (Sl w A xs)) (hp : Hid (Says 127 #[c0] p w)) :
  Calls Tryz.prog 105 #[.slice A n c, .func (.func 127) #[] #[c0]] w (uX p xs w) := by
 have hn0 : n < 1000000 := hbig.out
 go_in
 go_wp2
 go_loopw [8] (fun i wr => ∃ k : Nat, k ≤ n ∧ i = .int .i64 k ∧ Hid (xs.any p = (xs.drop k).any p) ∧ Hid (Below w.heap.size w wr)) (fun i _ => n - (intOf i).toNat)
 case atStart => exact ⟨0, by omega, rfl, aa rfl, aa (Below.refl _ _)⟩
 case round =>
  obtain ⟨k, hk, rfl, HR, aF⟩ := hrel
  by_cases hlt : k < n
  ·
   have hkl : k < xs.length := by rw [hn.out]; exact hlt
   obtain ⟨b, o, hA, hi0⟩ := hs.out k hkl
   subst hA
   have hi := (aF.out.cell (World.block_lt_of_cell? _ _ hi0)).trans hi0
   cases hpx : p (xs.getD k 0) with
   | false =>
    have HN : Hid (xs.any p = (xs.drop (k + 1)).any p) := aa (HR.out.trans (fZ hkl hpx))
    obtain ⟨x, hx⟩ : ∃ x, xs.getD k 0 = x := ⟨_, rfl⟩
    rw [hx] at hi hpx
    have HC := aa (hp.out x wr aF.out)
    have ql := aa hpx
    clear hi0 hx hkl hpx HR
    go_wp2_with fail
    refine HC.out.mono ?_
    rintro e w2 ⟨rfl, hb0⟩
    rw [ql.out]
    have HB2 := aa (af aF.out hb0)
    clear hb0
    go_wp2
    go_roundw
    case rel => exact ⟨k + 1, by omega, by go_num, HN, HB2⟩
    case measure => simp [intOf]; omega
   | true =>
    have HN : Hid (decide ((0 : Int) ≤ (k : Int)) = xs.any p) := aa (by rw [HR.out, gZ hkl hpx]; simp)
    obtain ⟨x, hx⟩ : ∃ x, xs.getD k 0 = x := ⟨_, rfl⟩
    rw [hx] at hi hpx
    have HC := aa (hp.out x wr aF.out)
    have ql := aa hpx
    clear hi0 hx hkl hpx HR
    go_wp2_with fail
    refine HC.out.mono ?_
    rintro e w2 ⟨rfl, hb0⟩
    rw [ql.out]
    have HB2 := aa (af aF.out hb0)
    clear hb0
    go_wp2
    go_ret
    exact ⟨k, rfl, HN.out, HB2.out⟩
  ·
   obtain rfl : k = n := by omega
   have HN : Hid (decide ((0 : Int) ≤ (-1 : Int)) = xs.any p) := aa (by rw [HR.out, ← hn.out]; simp)
   clear HR hlt
   go_wp2
   go_ret
   exact ⟨-1, rfl, HN.out, aF.out⟩
theorem OY (c0 : Value) (p : Int → Bool) (r : Bool) (A : Option Addr) (xs : List Int) (n c : Nat) (hr : Hid (xs.any p = r)) (hn : Hid (xs.length = n)) (hbig : Hid (n < 1000000)) (w : World) (hs : Hid (Sl w A xs)) (hp : Hid (Says 127 #[c0] p w)) :
  Calls Tryz.prog 59 #[.slice A n c, .func (.func 127) #[] #[c0]] w fun e w' => e = .returned (.bool r) ∧ Below w.heap.size w w' := by
 go_in
 go_wp2_with fail
 refine (L6 c0 p A xs n c hn hbig _ hs hp).mono ?_
 rintro e w1 ⟨i, rfl, hi, hb1⟩
 have hd : decide ((0 : Int) ≤ i) = r := hi.trans hr.out
 clear hi
 go_wp2
 go_ret
 exact ⟨by first | rfl | (rw [← hd]) | simp [hd], hb1⟩
theorem yF : (Tryz.prog.info? 3).map (fun i => (i.zero, i.size, i.bytes)) = some (some (.int .i64 0), 1, 8) := by kernel_rfl
def qh (w : World) (B n : Nat) (f : Nat → Int) : Prop := (∀ j, j < n → w.cell? ⟨B, j, none⟩ = some (.int .i64 (f j))) ∧ (∀ j, w.frozen? ⟨B, j, none⟩ = false)
theorem aj {w : World} {g : Nat} {cs : Array Value} {T : TypeId} (h : w.heap[g]? = some (.cells cs T)) (j : Nat) : w.cell? ⟨g, j, none⟩ = cs[j]? := by simp [World.cell?, h]
theorem aS {w : World} {g : Nat} {cs : Array Value} {T : TypeId} (h : w.heap[g]? = some (.cells cs T)) (j : Nat) : w.frozen? ⟨g, j, none⟩ = false := by simp [World.frozen?, h]
theorem zO {w : World} {B n k : Nat} {f : Nat → Int} (h : qh w B n f) (hk : k < n) (v : Int) : qh (w.setCell ⟨B, k, none⟩ (.int .i64 v)) B n (fun j => if j = k then v else f j) := by
 refine ⟨fun j hj => ?_, fun j => by rw [World.frozen?_setCell]; exact h.2 j⟩
 dsimp only
 by_cases hjk : j = k
 ·
  subst hjk
  rw [World.cell?_setCell_same _ _ _ (h.1 j hj), if_pos rfl]
 ·
  rw [World.cell?_setCell_other _ _ _ _ (by intro e; injection e with _ e2; omega), if_neg hjk]
  exact h.1 j hj
def dN (w : World) (base : Nat) (v : Value) (xs : List Int) : Prop := w.ownsRow base 3 1 v xs.length (xs.map (Value.int .i64))
theorem uj (w : World) (base : Nat) : dN w base (.slice none 0 0) [] := World.ownsRow_nil _ _ _ _
theorem dN.app {w1 : World} {base k : Nat} {v' : Value} {xs : List Int} {x : Int} (hk : k = xs.length)
  (h : w1.ownsRow base 3 1 v' (k + 1) (xs.map (Value.int .i64) ++ [.int .i64 x])) : dN w1 base v' (xs ++ [x]) := by
 unfold dN
 rw [List.length_append, List.map_append, List.length_singleton, ← hk]
 exact h
theorem dN.below {w w1 wr : World} {B : Nat} {o : Obj} {v : Value} {xs : List Int} (h : dN wr B v xs) (hb : Below B w wr) (hB : B ≤ wr.heap.size) (hg : (wr.alloc o).grownBy w1 v.ownBlock) : Below B w w1 :=
 (hb.alloc hB o).grown hg (by simp; omega) (fun j hj => (World.ownsRow.lt h j hj).1)
theorem dN.cells {w : World} {B : Nat} {v : Value} {xs : List Int} (h : dN w B v xs) (hne : 0 < xs.length) : ∃ g cap, v = .slice (some ⟨g, 0, none⟩) xs.length cap ∧ B ≤ g ∧ Cells w g xs := by
 obtain ⟨h1, h2⟩ := h
 rcases h2 with ⟨_, h0⟩ | ⟨g, cap, cur, rfl, hg, hh, hn, hc, hs, ht⟩
 · omega
 ·
  refine ⟨g, cap, rfl, hg, fun j hj => ?_⟩
  rw [aj hh]
  have e : cur.toList[j]? = (xs.map (Value.int .i64))[j]? := by
   rw [← ht, List.getElem?_take_of_lt (by omega)]
  rw [← Array.getElem?_toList, e, List.getElem?_map, List.getElem?_eq_getElem hj, List.getD_eq_getElem?_getD, List.getElem?_eq_getElem hj]
  rfl
theorem Lh {k : IntKind} {a b : Int} (h : a = b) : Ending.returned (.int k a) = .returned (.int k b) := by rw [h]
def h_ (a b m a' b' o : Int) : Prop := (o + a' * b') % m = a * b % m
theorem yz (a b m : Int) : h_ a b m a b 0 := by unfold h_; rw [Int.zero_add]
theorem Cc {a b m a' b' o k : Int} (h : h_ a b m a' b' o) (hb : b' = 2 * k + 1) : h_ a b m ((a' + a') % m) k ((o + a') % m) := by
 unfold h_ at *
 rw [← h, hb, Int.emod_add_emod, Int.add_emod, Int.mul_emod, Int.emod_emod_of_dvd _ (Int.dvd_refl m), ← Int.mul_emod, ← Int.add_emod]
 congr 1
 rw [Int.mul_add, Int.add_mul, Int.mul_one, ← Int.mul_assoc, Int.mul_comm a' 2, Int.mul_assoc]
 omega
theorem zZ {a b m a' b' o k : Int} (h : h_ a b m a' b' o) (hb : b' = 2 * k) : h_ a b m ((a' + a') % m) k o := by
 unfold h_ at *
 rw [← h, hb, Int.add_emod, Int.mul_emod, Int.emod_emod_of_dvd _ (Int.dvd_refl m), ← Int.mul_emod, ← Int.add_emod]
 congr 1
 rw [Int.add_mul, ← Int.mul_assoc, Int.mul_comm a' 2, Int.mul_assoc]
 omega
theorem z8 {a b m a' o : Int} (h : h_ a b m a' 0 o) (h0 : 0 ≤ o) (h1 : o < m) : o = a * b % m := by
 unfold h_ at h
 rw [← h, Int.mul_zero, Int.add_zero, Int.emod_eq_of_lt h0 h1]
theorem jy (a b m r : Int) (hr : Hid (a * b % m = r)) (hm : m < 2305843009213693952) (ha0 : 0 ≤ a) (ha : a < m) (hb0 : 0 ≤ b) (hb : b < m) (w : World) :
  Calls Tryz.prog 87 #[.int .i64 a, .int .i64 b, .int .i64 m] w fun e w' => e = .returned (.int .i64 r) ∧ w = w' := by
 have hmz : ((m : Int) == 0) = false := by simp; omega
 by_cases hs : a < 2147483648 ∧ b < 2147483648
 ·
  obtain ⟨hs1, hs2⟩ := hs
  have hp0 : 0 ≤ a * b := Int.mul_nonneg ha0 hb0
  have hp1 : a * b ≤ 2147483648 * 2147483648 := Int.mul_le_mul (by omega) (by omega) hb0 (by decide)
  obtain ⟨p, hp⟩ : ∃ p, a * b = p := ⟨_, rfl⟩
  have hr2 : p % m = r := by rw [← hp]; exact hr.out
  rw [hp] at hp0 hp1
  have hw : wrap64 (a * b) = p := by rw [hp]; exact IntWalk.wrap64_in _ (by omega)
  have HP := aa hp
  clear hp
  have HR := aa hr2
  clear hr2
  go_in
  go_wp2
  go_ret
  exact ⟨Lh HR.out, rfl⟩
 ·
  have HS : Hid (h_ a b m a b 0) := yz a b m
  by_cases ha2 : a < 2147483648
  all_goals
   first | (have hb2 : ¬ b < 2147483648 := by omega) | skip
   clear hs
   go_in
   go_wp2
   go_loop [0, 1, 7] (fun u v t => ∃ a' b' o : Int, u = .int .i64 a' ∧ v = .int .i64 b' ∧ t = .int .i64 o ∧ 0 ≤ a' ∧ a' < m ∧ 0 ≤ b' ∧ b' < m ∧ 0 ≤ o ∧ o < m ∧ Hid (h_ a b m a' b' o)) (fun _ v _ => (intOf v).toNat)
   case atStart => exact ⟨a, b, 0, rfl, rfl, rfl, ha0, ha, hb0, hb, by omega, by omega, HS⟩
   case round =>
    obtain ⟨a', b', o, rfl, rfl, rfl, l9, ha', ZA, hb', ho0, ho', HR⟩ := hrel
    by_cases h0 : b' = 0
    ·
     subst h0
     obtain rfl := (z8 HR.out ho0 ho').trans hr.out
     clear HR ho0 ho'
     go_wp2
     go_ret
     exact ⟨rfl, rfl⟩
    ·
     have hpos : decide (0 < b') = true := by simp; omega
     have Md : 1 ≤ b' := by omega
     have hq0 : 0 ≤ (a' + a') % m := Int.emod_nonneg _ (by omega)
     have hq1 : (a' + a') % m < m := Int.emod_lt_of_pos _ (by omega)
     by_cases hodd : b' % 2 = 1
     ·
      have ht : ((b' % 2 : Int) == 1) = true := by simp [hodd]
      have hp0 : 0 ≤ (o + a') % m := Int.emod_nonneg _ (by omega)
      have hp1 : (o + a') % m < m := Int.emod_lt_of_pos _ (by omega)
      have HN : Hid (h_ a b m ((a' + a') % m) (b' / 2) ((o + a') % m)) := Cc HR.out (by omega)
      clear h0 hodd
      go_wp2
      go_round
      case rel => exact ⟨_, b' / 2, _, rfl, rfl, rfl, hq0, hq1, by omega, by omega, hp0, hp1, HN⟩
      case measure => simp [intOf]; omega
     ·
      have ht : ((b' % 2 : Int) == 1) = false := by simp [hodd]
      have HN : Hid (h_ a b m ((a' + a') % m) (b' / 2) o) := zZ HR.out (by omega)
      clear h0 hodd
      go_wp2
      go_round
      case rel => exact ⟨_, b' / 2, _, rfl, rfl, rfl, hq0, hq1, by omega, by omega, ho0, ho', HN⟩
      case measure => simp [intOf]; omega
theorem jw (a e m r : Int) (hr : Hid (pw a e m = r)) (h1 : 1 ≤ m) (h2 : m < 2305843009213693952) (ha0 : 0 ≤ a) (ha : a < m) (he0 : 0 ≤ e) (he : e < 9223372036854775808) (w : World) :
  Calls Tryz.prog 41 #[.int .i64 a, .int .i64 e, .int .i64 m] w fun e' w' => e' = .returned (.int .i64 r) ∧ w = w' := by
 have hm : ((m : Int) == 0) = false := by simp; omega
 have hx1 : Hid (0 ≤ 1 % m ∧ 1 % m < m) := ⟨Int.emod_nonneg _ (by omega), Int.emod_lt_of_pos _ (by omega)⟩
 have HS : Hid (dX a e m a e (1 % m)) := lK a e m
 go_in
 go_wp2
 go_loop [0, 1, 7] (fun u v t => ∃ a' e' x' : Int, u = .int .i64 a' ∧ v = .int .i64 e' ∧ t = .int .i64 x' ∧ 0 ≤ a' ∧ a' < m ∧ 0 ≤ e' ∧ e' < 9223372036854775808 ∧ 0 ≤ x' ∧ x' < m ∧ Hid (dX a e m a' e' x')) (fun _ v _ => (intOf v).toNat)
 case atStart => exact ⟨a, e, 1 % m, rfl, rfl, rfl, ha0, ha, he0, he, hx1.out.1, hx1.out.2, HS⟩
 case round =>
  obtain ⟨a', e', x', rfl, rfl, rfl, l9, ha', Mg, he', hx0', hx', HR⟩ := hrel
  by_cases h0 : e' = 0
  ·
   subst h0
   obtain rfl := (mJ HR.out hx0' hx').trans hr.out
   clear HR hx0' hx'
   go_wp2
   go_ret
   exact ⟨rfl, rfl⟩
  ·
   have hpos : decide (0 < e') = true := by simp; omega
   have Md : 1 ≤ e' := by omega
   have hq0 : 0 ≤ a' * a' % m := Int.emod_nonneg _ (by omega)
   have hq1 : a' * a' % m < m := Int.emod_lt_of_pos _ (by omega)
   by_cases ho : e' % 2 = 1
   ·
    have ht : ((e' % 2 : Int) == 1) = true := by simp [ho]
    have hp0 : 0 ≤ x' * a' % m := Int.emod_nonneg _ (by omega)
    have hp1 : x' * a' % m < m := Int.emod_lt_of_pos _ (by omega)
    have HN : Hid (dX a e m (a' * a' % m) (e' / 2) (x' * a' % m)) := nZ HR.out (by omega) (by omega)
    obtain ⟨q, hq⟩ : ∃ q, a' * a' % m = q := ⟨_, rfl⟩
    obtain ⟨p, hp⟩ : ∃ p, x' * a' % m = p := ⟨_, rfl⟩
    rw [hq] at hq0 hq1 HN
    rw [hp] at hp0 hp1 HN
    have HQ := aa hq
    have HP := aa hp
    clear hq hp ho h0
    go_wp2_with fail
    refine (jy _ _ _ p HP h2 hx0' hx' l9 ha' _).mono ?_
    rintro e w' ⟨rfl, rfl⟩
    go_wp2_with fail
    refine (jy _ _ _ q HQ h2 l9 ha' l9 ha' _).mono ?_
    rintro e w' ⟨rfl, rfl⟩
    go_wp2
    go_round
    case rel => exact ⟨q, e' / 2, p, rfl, rfl, rfl, hq0, hq1, by omega, by omega, hp0, hp1, HN⟩
    case measure => simp [intOf]; omega
   ·
    have ht : ((e' % 2 : Int) == 1) = false := by simp [ho]
    have HN : Hid (dX a e m (a' * a' % m) (e' / 2) x') := mI HR.out (by omega) (by omega)
    obtain ⟨q, hq⟩ : ∃ q, a' * a' % m = q := ⟨_, rfl⟩
    rw [hq] at hq0 hq1 HN
    have HQ := aa hq
    clear hq ho h0
    go_wp2_with fail
    refine (jy _ _ _ q HQ h2 l9 ha' l9 ha' _).mono ?_
    rintro e w' ⟨rfl, rfl⟩
    go_wp2
    go_round
    case rel => exact ⟨q, e' / 2, x', rfl, rfl, rfl, hq0, hq1, by omega, by omega, hx0', hx', HN⟩
    case measure => simp [intOf]; omega
theorem Rv {t j : Nat} {q e : Int} (hj : j < t) (he : e = 2 ^ (t - j) * q) : e % 2 = 0 ∧ e / 2 = 2 ^ (t - (j + 1)) * q := by
 have h : t - j = (t - (j + 1)) + 1 := by omega
 rw [h, Int.pow_succ, Int.mul_right_comm] at he
 omega
theorem tQ (n a : Int) (h1 : 3 ≤ n) (h2 : n < 2305843009213693952) (ha0 : 0 ≤ a) (ha : a < n) (hodd : n % 2 = 1) (c : Bool) (hc : Hid (comp a n (r9 n) (lu n) = c)) (w : World) :
  Calls Tryz.prog 86 #[.int .i64 n, .int .i64 a] w fun e' w' => e' = .returned (.bool (!c)) ∧ w = w' := by
 obtain ⟨ht1, m, hm0, hm1, hm2⟩ := vZ (show 2 ≤ n by omega) (by omega)
 obtain ⟨s, hs⟩ : ∃ s, lu n = s := ⟨_, rfl⟩
 obtain ⟨d, hd⟩ : ∃ d, r9 n = d := ⟨_, rfl⟩
 rw [hs] at hm1 ht1
 rw [hd] at hm2
 rw [hs, hd] at hc
 have hs1 : 1 ≤ s := by
  cases s with
  | zero => simp at hm1; omega
  | succ j => omega
 have hd0 : 0 ≤ d := by omega
 have hd2 : d % 2 = 1 := by omega
 have UX : n - 1 = 2 ^ s * d := by rw [hm2]; exact hm1
 have HM : Hid (n - 1 = 2 ^ (s - 0) * d) := UX
 have hdn : d ≤ n - 1 := by
  rw [UX]
  have h3 : (0 : Int) < 2 ^ s := Int.pow_pos (by decide)
  have h4 : 1 * d ≤ 2 ^ s * d := Int.mul_le_mul_of_nonneg_right (by omega) hd0
  omega
 have hb := tX a d n (by omega)
 obtain ⟨x, hx⟩ : ∃ x, pw a d n = x := ⟨_, rfl⟩
 rw [hx] at hb
 obtain ⟨hb0, hb1⟩ := hb
 have HX := aa hx
 have HD2 := aa hd2
 clear hx hm1 hm2 UX hs hd hd2 hodd hm0
 go_in
 go_wp2
 go_loop [5, 6] (fun u v => ∃ (j : Nat) (e : Int), u = .int .i64 e ∧ v = .int .i64 j ∧ j ≤ s ∧ 0 ≤ e ∧ e ≤ n - 1 ∧ Hid (e = 2 ^ (s - j) * d)) (fun _ v => s - (intOf v).toNat)
 case atStart => exact ⟨0, n - 1, rfl, rfl, by omega, by omega, by omega, HM⟩
 case round =>
  obtain ⟨j, e, rfl, rfl, hj, he0, he1, HE⟩ := hrel
  by_cases hlt : j < s
  ·
   obtain ⟨g1, g2⟩ := Rv hlt HE.out
   have g3 : ((e % 2 : Int) == 0) = true := by simp [g1]
   have HN := aa g2
   clear g1 g2
   go_wp2
   go_round
   case rel => exact ⟨j + 1, e / 2, rfl, by go_num, by omega, by omega, by omega, HN⟩
   case measure => simp [intOf]; omega
  ·
   obtain rfl : j = s := by omega
   obtain rfl : e = d := by have := HE.out; rw [Nat.sub_self, Int.pow_zero, Int.one_mul] at this; exact this
   have g3 : ((e % 2 : Int) == 0) = false := by have := HD2.out; simp; omega
   clear HE HM
   by_cases hx1 : x = 1
   ·
    subst hx1
    obtain rfl : c = false := by rw [← hc.out]; exact p8 HX.out (.inl rfl)
    go_wp2_with fail
    refine (jw a e n 1 HX (by omega) h2 ha0 ha he0 (by omega) _).mono ?_
    rintro e w' ⟨rfl, rfl⟩
    go_wp2
    go_ret
    exact ⟨rfl, rfl⟩
   by_cases hx2 : x = n - 1
   ·
    have g1 : ((x : Int) == 1) = false := by simp [hx1]
    have g2 : ((x : Int) == n - 1) = true := by simp [hx2]
    obtain rfl : c = false := by rw [← hc.out]; exact p8 HX.out (.inr hx2)
    clear hx1 hx2
    go_wp2_with fail
    refine (jw a e n x HX (by omega) h2 ha0 ha he0 (by omega) _).mono ?_
    rintro e w' ⟨rfl, rfl⟩
    go_wp2
    go_ret
    exact ⟨rfl, rfl⟩
   have g1 : ((x : Int) == 1) = false := by simp [hx1]
   have g2 : ((x : Int) == n - 1) = false := by simp [hx2]
   have HS : Hid (sq n (j - 1) x = c) := by rw [← hc.out]; exact (wY HX.out hx1 hx2).symm
   clear hx1 hx2
   go_wp2_with fail
   refine (jw a e n x HX (by omega) h2 ha0 ha he0 (by omega) _).mono ?_
   rintro e w' ⟨rfl, rfl⟩
   go_wp2
   go_loop [7, 8] (fun u v => ∃ (k : Nat) (y : Int), u = .int .i64 y ∧ v = .int .i64 ((k : Int) + 1) ∧ k + 1 ≤ j ∧ 0 ≤ y ∧ y < n ∧ Hid (sq n (j - 1 - k) y = c)) (fun _ v => j - (intOf v).toNat)
   case atStart => exact ⟨0, x, rfl, rfl, hs1, hb0, hb1, HS⟩
   case round =>
    obtain ⟨k, y, rfl, rfl, hk, hy0, hy1, HR⟩ := hrel
    by_cases hlt : k + 1 < j
    ·
     have hd : decide ((k : Int) + 1 < (j : Int)) = true := by simp; omega
     have hz0 : 0 ≤ y * y % n := Int.emod_nonneg _ (by omega)
     have hz1 : y * y % n < n := Int.emod_lt_of_pos _ (by omega)
     obtain ⟨z, hz⟩ : ∃ z, y * y % n = z := ⟨_, rfl⟩
     rw [hz] at hz0 hz1
     have HZ := aa hz
     clear hz
     by_cases hzn : z = n - 1
     ·
      have g4 : ((z : Int) == n - 1) = true := by simp [hzn]
      obtain rfl : c = false := by rw [← HR.out]; exact Hf (by omega) HZ.out hzn
      clear hzn
      go_wp2_with fail
      refine (jy _ _ _ z HZ h2 hy0 hy1 hy0 hy1 _).mono ?_
      rintro e w' ⟨rfl, rfl⟩
      go_wp2
      go_ret
      exact ⟨rfl, rfl⟩
     ·
      have g4 : ((z : Int) == n - 1) = false := by simp [hzn]
      have HN : Hid (sq n (j - 1 - (k + 1)) z = c) := by rw [← HR.out, DC (j := j - 1 - k) (by omega) HZ.out hzn]; rfl
      clear hzn
      go_wp2_with fail
      refine (jy _ _ _ z HZ h2 hy0 hy1 hy0 hy1 _).mono ?_
      rintro e w' ⟨rfl, rfl⟩
      go_wp2
      go_round
      case rel => exact ⟨k + 1, z, rfl, by go_num, by omega, hz0, hz1, HN⟩
      case measure => simp [intOf]; omega
    ·
     have hd : decide ((k : Int) + 1 < (j : Int)) = false := by simp; omega
     obtain rfl : c = true := by rw [← HR.out, show j - 1 - k = 0 from by omega]; rfl
     go_wp2
     go_ret
     exact ⟨rfl, rfl⟩
theorem Lf (n : Int) (h : n < 2) (b : Bool) (hb : Hid (l7 n = b)) (w : World) :
  Calls Tryz.prog 40 #[.int .i64 n] w fun e' w' => e' = .returned (.bool b) ∧ Below w.heap.size w w' := by
 obtain rfl : b = false := by rw [← hb.out]; unfold l7; rw [if_pos h]
 go_in
 go_wp2
 go_ret
 exact ⟨rfl, Below.refl _ _⟩
theorem ML (w : World) (T : TypeId) : ∀ k : Nat, k < 12 → (w.alloc (.cells #[.int .i64 2, .int .i64 3, .int .i64 5, .int .i64 7, .int .i64 11, .int .i64 13, .int .i64 17, .int .i64 19, .int .i64 23, .int .i64 29, .int .i64 31, .int .i64 37] T)).cell? ⟨w.heap.size, k, none⟩ = some (.int .i64 (bs k)) := by
 intro k hk
 rw [World.cell?_alloc_at _ _ _ _ rfl]
 match k, hk with
 | 0, _ => rfl
 | 1, _ => rfl
 | 2, _ => rfl
 | 3, _ => rfl
 | 4, _ => rfl
 | 5, _ => rfl
 | 6, _ => rfl
 | 7, _ => rfl
 | 8, _ => rfl
 | 9, _ => rfl
 | 10, _ => rfl
 | 11, _ => rfl
 | k + 12, h => exact absurd h (by omega)
theorem Lg (n : Int) (h : 2 ≤ n) (h2 : n < 2305843009213693952) (b : Bool) (hb : Hid (l7 n = b)) (w : World) :
  Calls Tryz.prog 40 #[.int .i64 n] w fun e' w' => e' = .returned (.bool b) ∧ Below w.heap.size w w' := by
 have HB : Hid (Below w.heap.size w (w.alloc (.cells #[.int .i64 2, .int .i64 3, .int .i64 5, .int .i64 7, .int .i64 11, .int .i64 13, .int .i64 17, .int .i64 19, .int .i64 23, .int .i64 29, .int .i64 31, .int .i64 37] 3))) := (Below.refl _ _).alloc (Nat.le_refl _) _
 have hcells := aa (ML w 3)
 go_in
 go_wp2
 go_loop [4] (fun i => ∃ k : Nat, k ≤ 12 ∧ i = .int .i64 k ∧ Hid (bQ n mQ = bQ n (mQ.drop k))) (fun i => 12 - (intOf i).toNat)
 case atStart => exact ⟨0, by omega, rfl, rfl⟩
 case round =>
  obtain ⟨k, hk, rfl, HR⟩ := hrel
  by_cases hlt : k < 12
  ·
   have hi := hcells.out k hlt
   have hbp := yR k hlt
   by_cases hz : n % bs k = 0
   ·
    have HD := aa (HR.out.trans (mY n k hlt hz))
    obtain ⟨p, hp⟩ : ∃ p, bs k = p := ⟨_, rfl⟩
    rw [hp] at hi hbp hz HD
    clear hp
    have hz2 : ((n % p : Int) == 0) = true := by simp [hz]
    have hb2 : ((n : Int) == p) = b := by rw [← hb.out, Ae h HD.out]; rfl
    obtain ⟨hb4, hb5⟩ := hbp
    clear hz HD HR
    go_wp2
    go_ret
    exact ⟨rfl, HB.out⟩
   ·
    have HD : Hid (bQ n mQ = bQ n (mQ.drop (k + 1))) := HR.out.trans (pY n k hlt hz)
    obtain ⟨p, hp⟩ : ∃ p, bs k = p := ⟨_, rfl⟩
    rw [hp] at hi hbp hz
    clear hp
    have hz2 : ((n % p : Int) == 0) = false := by simp [hz]
    obtain ⟨hb4, hb5⟩ := hbp
    clear hz
    go_wp2
    go_round
    case rel => exact ⟨k + 1, by omega, by go_num, HD⟩
    case measure => simp [intOf]; omega
  ·
   obtain rfl : k = 12 := by omega
   have hnone : bQ n mQ = none := HR.out
   have UU := zY h hnone
   have hodd := aa (zX hnone)
   have HF : Hid (fG n (r9 n) (lu n) (mQ.drop 0) = b) := by rw [← hb.out]; exact (Af h hnone).symm
   clear hnone HR hk
   go_wp2
   go_loop [5] (fun i => ∃ k : Nat, k ≤ 12 ∧ i = .int .i64 k ∧ Hid (fG n (r9 n) (lu n) (mQ.drop k) = b)) (fun i => 12 - (intOf i).toNat)
   case atStart => exact ⟨0, by omega, rfl, HF⟩
   case round =>
    obtain ⟨k, hk, rfl, HR⟩ := hrel
    by_cases hlt : k < 12
    ·
     have hi := hcells.out k hlt
     have hbp := yR k hlt
     cases hcc : comp (bs k) n (r9 n) (lu n) with
     | true =>
      have HD := aa (HR.out.symm.trans (rH n _ _ k hlt hcc))
      obtain ⟨p, hp⟩ : ∃ p, bs k = p := ⟨_, rfl⟩
      rw [hp] at hi hbp hcc
      clear hp
      have HC := aa hcc
      obtain ⟨hb4, hb5⟩ := hbp
      obtain rfl : b = false := HD.out
      clear hcc HD HR
      go_wp2_with fail
      refine (tQ n p (by omega) h2 (by omega) (by omega) hodd.out true HC _).mono ?_
      rintro e w' ⟨rfl, rfl⟩
      go_wp2
      go_ret
      exact ⟨rfl, HB.out⟩
     | false =>
      have HD : Hid (fG n (r9 n) (lu n) (mQ.drop (k + 1)) = b) := (qb n _ _ k hlt hcc).symm.trans HR.out
      obtain ⟨p, hp⟩ : ∃ p, bs k = p := ⟨_, rfl⟩
      rw [hp] at hi hbp hcc
      clear hp
      have HC := aa hcc
      obtain ⟨hb4, hb5⟩ := hbp
      clear hcc HR
      go_wp2_with fail
      refine (tQ n p (by omega) h2 (by omega) (by omega) hodd.out false HC _).mono ?_
      rintro e w' ⟨rfl, rfl⟩
      go_wp2
      go_round
      case rel => exact ⟨k + 1, by omega, by go_num, HD⟩
      case measure => simp [intOf]; omega
    ·
     obtain rfl : k = 12 := by omega
     obtain rfl : b = true := HR.out.symm
     clear HR
     go_wp2
     go_ret
     exact ⟨rfl, HB.out⟩
theorem oW (n : Int) (h2 : n < 2305843009213693952) (b : Bool) (hb : Hid (l7 n = b)) (w : World) :
  Calls Tryz.prog 40 #[.int .i64 n] w fun e' w' => e' = .returned (.bool b) ∧ Below w.heap.size w w' := by
 by_cases h : n < 2
 · exact Lf n h b hb w
 · exact Lg n (by omega) h2 b hb w
theorem Ii (P Q G : Int) (h0 : P < 3) (w : World) :
  Calls Tryz.prog 14 #[gv P Q G] w (Rt w (.bool false)) := by
 go_in
 go_wp2
 go_ret
 exact ⟨rfl, ai _ _⟩
theorem Ih (P Q G : Int) (h0 : 3 ≤ P) (h1 : 2305843009213693952 ≤ P) (w : World) :
  Calls Tryz.prog 14 #[gv P Q G] w (Rt w (.bool false)) := by
 go_in
 go_wp2
 go_ret
 exact ⟨rfl, ai _ _⟩
theorem Ig (P Q G : Int) (h0 : 3 ≤ P) (h1 : P < 2305843009213693952) (h2 : Q < 3) (w : World) :
  Calls Tryz.prog 14 #[gv P Q G] w (Rt w (.bool false)) := by
 go_in
 go_wp2
 go_ret
 exact ⟨rfl, ai _ _⟩
theorem Ie (P Q G : Int) (h0 : 3 ≤ P) (h1 : P < 2305843009213693952) (h2 : 3 ≤ Q) (h3 : Hid (Q % 2 = 0)) (w : World) :
  Calls Tryz.prog 14 #[gv P Q G] w (Rt w (.bool false)) := by
 have g3 : ((Q % 2 : Int) == 0) = true := by rw [h3.out]; rfl
 go_in
 go_wp2
 go_ret
 exact ⟨rfl, ai _ _⟩
theorem Ib (P Q G : Int) (h0 : 3 ≤ P) (h1 : P < 2305843009213693952) (h2 : 3 ≤ Q) (h3 : Hid (Q % 2 = 1)) (hQ : Q < 9223372036854775808) (h6 : Hid ((P - 1) % Q ≠ 0)) (w : World) :
  Calls Tryz.prog 14 #[gv P Q G] w (Rt w (.bool false)) := by
 have g3 : ((Q % 2 : Int) == 0) = false := by have := h3.out; simp; omega
 have g6 : (((P - 1) % Q : Int) == 0) = false := by have := h6.out; simp; omega
 have Mq : (((P - 1) % Q : Int) != 0) = true := by have := h6.out; simp; omega
 go_in
 go_wp2
 go_ret
 exact ⟨rfl, ai _ _⟩
theorem Ia (P Q G : Int) (h0 : 3 ≤ P) (h1 : P < 2305843009213693952) (h2 : 3 ≤ Q) (h3 : Hid (Q % 2 = 1)) (hQ : Q < 9223372036854775808) (h6 : Hid ((P - 1) % Q = 0)) (h7 : G < 2) (w : World) :
  Calls Tryz.prog 14 #[gv P Q G] w (Rt w (.bool false)) := by
 have g3 : ((Q % 2 : Int) == 0) = false := by have := h3.out; simp; omega
 have g6 : (((P - 1) % Q : Int) == 0) = true := by rw [h6.out]; rfl
 have Mq : (((P - 1) % Q : Int) != 0) = false := by rw [h6.out]; rfl
 go_in
 go_wp2
 go_ret
 exact ⟨rfl, ai _ _⟩
theorem H_ (P Q G : Int) (h0 : 3 ≤ P) (h1 : P < 2305843009213693952) (h2 : 3 ≤ Q) (h3 : Hid (Q % 2 = 1)) (hQ : Q < 9223372036854775808) (h6 : Hid ((P - 1) % Q = 0)) (h7 : 2 ≤ G) (h8 : P ≤ G) (w : World) :
  Calls Tryz.prog 14 #[gv P Q G] w (Rt w (.bool false)) := by
 have g3 : ((Q % 2 : Int) == 0) = false := by have := h3.out; simp; omega
 have g6 : (((P - 1) % Q : Int) == 0) = true := by rw [h6.out]; rfl
 have Mq : (((P - 1) % Q : Int) != 0) = false := by rw [h6.out]; rfl
 go_in
 go_wp2
 go_ret
 exact ⟨rfl, ai _ _⟩
theorem H9 (P Q G : Int) (h0 : 3 ≤ P) (h1 : P < 2305843009213693952) (h2 : 3 ≤ Q) (h3 : Hid (Q % 2 = 1)) (hQ : Q < 9223372036854775808) (h6 : Hid ((P - 1) % Q = 0)) (h7 : 2 ≤ G) (h8 : G < P) (Qd : Q < P) (h4 : Hid (l7 P = false)) (w : World) :
  Calls Tryz.prog 14 #[gv P Q G] w (Rt w (.bool false)) := by
 have g3 : ((Q % 2 : Int) == 0) = false := by have := h3.out; simp; omega
 have g6 : (((P - 1) % Q : Int) == 0) = true := by rw [h6.out]; rfl
 have Mq : (((P - 1) % Q : Int) != 0) = false := by rw [h6.out]; rfl
 have g8 : decide (P ≤ G) = false := by simp; omega
 go_in
 go_wp2_with fail
 refine (oW P h1 false h4 _).mono ?_
 rintro e w1 ⟨rfl, hb0⟩
 have hb1 := af (ai _ _) hb0
 have hcell : ∀ j, w1.cell? ⟨w.heap.size, j, none⟩ = (w.alloc (aN P Q G)).cell? ⟨w.heap.size, j, none⟩ := fun j => hb0.cell (p := ⟨w.heap.size, j, none⟩) (by simp)
 have c0 : w1.cell? ⟨w.heap.size, 0, none⟩ = some (.int .i64 P) := (hcell 0).trans (World.cell?_alloc_at _ _ _ _ rfl)
 have c1 : w1.cell? ⟨w.heap.size, 1, none⟩ = some (.int .i64 Q) := (hcell 1).trans (World.cell?_alloc_at _ _ _ _ rfl)
 have c2 : w1.cell? ⟨w.heap.size, 2, none⟩ = some (.int .i64 G) := (hcell 2).trans (World.cell?_alloc_at _ _ _ _ rfl)
 clear hcell hb0
 go_wp2
 go_ret
 exact ⟨rfl, by first | exact hb1 | exact hb2⟩
theorem H8 (P Q G : Int) (h0 : 3 ≤ P) (h1 : P < 2305843009213693952) (h2 : 3 ≤ Q) (h3 : Hid (Q % 2 = 1)) (hQ : Q < 9223372036854775808) (h6 : Hid ((P - 1) % Q = 0)) (h7 : 2 ≤ G) (h8 : G < P) (Qd : Q < P) (h4 : Hid (l7 P = true)) (h5 : Hid (l7 Q = false)) (w : World) :
  Calls Tryz.prog 14 #[gv P Q G] w (Rt w (.bool false)) := by
 have g3 : ((Q % 2 : Int) == 0) = false := by have := h3.out; simp; omega
 have g6 : (((P - 1) % Q : Int) == 0) = true := by rw [h6.out]; rfl
 have Mq : (((P - 1) % Q : Int) != 0) = false := by rw [h6.out]; rfl
 have g8 : decide (P ≤ G) = false := by simp; omega
 go_in
 go_wp2_with fail
 refine (oW P h1 true h4 _).mono ?_
 rintro e w1 ⟨rfl, hb0⟩
 have hb1 := af (ai _ _) hb0
 have hcell : ∀ j, w1.cell? ⟨w.heap.size, j, none⟩ = (w.alloc (aN P Q G)).cell? ⟨w.heap.size, j, none⟩ := fun j => hb0.cell (p := ⟨w.heap.size, j, none⟩) (by simp)
 have c0 : w1.cell? ⟨w.heap.size, 0, none⟩ = some (.int .i64 P) := (hcell 0).trans (World.cell?_alloc_at _ _ _ _ rfl)
 have c1 : w1.cell? ⟨w.heap.size, 1, none⟩ = some (.int .i64 Q) := (hcell 1).trans (World.cell?_alloc_at _ _ _ _ rfl)
 have c2 : w1.cell? ⟨w.heap.size, 2, none⟩ = some (.int .i64 G) := (hcell 2).trans (World.cell?_alloc_at _ _ _ _ rfl)
 clear hcell hb0
 go_wp2_with fail
 refine (oW Q (by omega) false h5 _).mono ?_
 rintro e w2 ⟨rfl, hb0⟩
 have hb2 := af hb1 hb0
 have d0 : w2.cell? ⟨w.heap.size, 0, none⟩ = some (.int .i64 P) := (hb0.cell (p := ⟨w.heap.size, 0, none⟩) (World.block_lt_of_cell? _ _ c0)).trans c0
 have d1 : w2.cell? ⟨w.heap.size, 1, none⟩ = some (.int .i64 Q) := (hb0.cell (p := ⟨w.heap.size, 1, none⟩) (World.block_lt_of_cell? _ _ c1)).trans c1
 have d2 : w2.cell? ⟨w.heap.size, 2, none⟩ = some (.int .i64 G) := (hb0.cell (p := ⟨w.heap.size, 2, none⟩) (World.block_lt_of_cell? _ _ c2)).trans c2
 clear hb0
 go_wp2
 go_ret
 exact ⟨rfl, by first | exact hb1 | exact hb2⟩
theorem H7 (P Q G : Int) (h0 : 3 ≤ P) (h1 : P < 2305843009213693952) (h2 : 3 ≤ Q) (h3 : Hid (Q % 2 = 1)) (hQ : Q < 9223372036854775808) (h6 : Hid ((P - 1) % Q = 0)) (h7 : 2 ≤ G) (h8 : G < P) (Qd : Q < P) (b : Bool) (h4 : Hid (l7 P = true)) (h5 : Hid (l7 Q = true)) (hb : Hid ((pw G Q P == 1) = b)) (w : World) :
  Calls Tryz.prog 14 #[gv P Q G] w (Rt w (.bool b)) := by
 have g3 : ((Q % 2 : Int) == 0) = false := by have := h3.out; simp; omega
 have g6 : (((P - 1) % Q : Int) == 0) = true := by rw [h6.out]; rfl
 have Mq : (((P - 1) % Q : Int) != 0) = false := by rw [h6.out]; rfl
 have g8 : decide (P ≤ G) = false := by simp; omega
 obtain ⟨x, hx⟩ : ∃ x, pw G Q P = x := ⟨_, rfl⟩
 have g9 : ((x : Int) == 1) = b := by rw [← hx]; exact hb.out
 have HX := aa hx
 clear hx
 go_in
 go_wp2_with fail
 refine (oW P h1 true h4 _).mono ?_
 rintro e w1 ⟨rfl, hb0⟩
 have hb1 := af (ai _ _) hb0
 have hcell : ∀ j, w1.cell? ⟨w.heap.size, j, none⟩ = (w.alloc (aN P Q G)).cell? ⟨w.heap.size, j, none⟩ := fun j => hb0.cell (p := ⟨w.heap.size, j, none⟩) (by simp)
 have c0 : w1.cell? ⟨w.heap.size, 0, none⟩ = some (.int .i64 P) := (hcell 0).trans (World.cell?_alloc_at _ _ _ _ rfl)
 have c1 : w1.cell? ⟨w.heap.size, 1, none⟩ = some (.int .i64 Q) := (hcell 1).trans (World.cell?_alloc_at _ _ _ _ rfl)
 have c2 : w1.cell? ⟨w.heap.size, 2, none⟩ = some (.int .i64 G) := (hcell 2).trans (World.cell?_alloc_at _ _ _ _ rfl)
 clear hcell hb0
 go_wp2_with fail
 refine (oW Q (by omega) true h5 _).mono ?_
 rintro e w2 ⟨rfl, hb0⟩
 have hb2 := af hb1 hb0
 have d0 : w2.cell? ⟨w.heap.size, 0, none⟩ = some (.int .i64 P) := (hb0.cell (p := ⟨w.heap.size, 0, none⟩) (World.block_lt_of_cell? _ _ c0)).trans c0
 have d1 : w2.cell? ⟨w.heap.size, 1, none⟩ = some (.int .i64 Q) := (hb0.cell (p := ⟨w.heap.size, 1, none⟩) (World.block_lt_of_cell? _ _ c1)).trans c1
 have d2 : w2.cell? ⟨w.heap.size, 2, none⟩ = some (.int .i64 G) := (hb0.cell (p := ⟨w.heap.size, 2, none⟩) (World.block_lt_of_cell? _ _ c2)).trans c2
 clear hb0
 go_wp2_with fail
 refine (jw G Q P x HX (by omega) h1 (by omega) h8 (by omega) hQ _).mono ?_
 rintro e w3 ⟨rfl, rfl⟩
 go_wp2
 go_ret
 exact ⟨rfl, by first | exact hb1 | exact hb2⟩
theorem O1 (w : World) (T : TypeId) (a b : Int) : Cells (w.alloc (.cells #[.int .i64 a, .int .i64 b] T)) w.heap.size [a, b] := by
 intro k hk
 rw [World.cell?_alloc_at _ _ _ _ rfl]
 match k, hk with
 | 0, _ => rfl
 | 1, _ => rfl
theorem jI (w : World) (T : TypeId) (a : Int) : Cells (w.alloc (.cells #[.int .i64 a] T)) w.heap.size [a] := by
 intro k hk
 rw [World.cell?_alloc_at _ _ _ _ rfl]
 match k, hk with
 | 0, _ => rfl
theorem MJ (w : World) (o : Obj) (T : TypeId) (a b : Int) : Cells ((w.alloc o).alloc (.cells #[.int .i64 a, .int .i64 b] T)) (w.heap.size + 1) [a, b] := by
 have h := O1 (w.alloc o) T a b
 have e : (w.alloc o).heap.size = w.heap.size + 1 := by simp
 rwa [e] at h
theorem MK (w : World) (o : Obj) (T : TypeId) (a : Int) : Cells ((w.alloc o).alloc (.cells #[.int .i64 a] T)) (w.heap.size + 1) [a] := by
 have h := jI (w.alloc o) T a
 have e : (w.alloc o).heap.size = w.heap.size + 1 := by simp
 rwa [e] at h
theorem xu {P Q G : Int} {xs : List Int} (h : r_ P Q G xs = 0) : aJ P Q G = true ∧ xs.all (a_ P Q) = true := by
 unfold r_ at h
 split at h
 ·
  split at h
  · exact ⟨by assumption, by assumption⟩
  · omega
 · omega
theorem yP {P Q G : Int} {xs : List Int} (h1 : aJ P Q G = true) (h2 : xs.all (a_ P Q) = true) : r_ P Q G xs = 0 := by
 rw [r_, if_pos h1, if_pos h2]
theorem aB {w w1 : World} {o1 o2 : Obj} (h : Below ((w.alloc o1).alloc o2).heap.size ((w.alloc o1).alloc o2) w1) : Below w.heap.size w w1 :=
 af (((Below.refl _ _).alloc (Nat.le_refl _) _).alloc (by simp) _) h
theorem Mo (P Q G a b v : Int) (hr : Hid (r_ P Q G [a, b] = 0)) (hvv : Hid (a * b % P = v)) (hQ : Q < 9223372036854775808) (w : World) (hv : Hid (Vars w)) :
  Calls Tryz.prog 39 #[gv P Q G, .int .i64 a, .int .i64 b] w (Rt w (.tuple #[.int .i64 v, .int .i64 0])) := by
 obtain ⟨hval, hall⟩ := xu hr.out
 obtain ⟨hp2, hp, hq3, wK⟩ := aM hval
 simp only [List.all_cons, List.all_nil, Bool.and_true, Bool.and_eq_true] at hall
 obtain ⟨ma, mb⟩ := hall
 have la := d_ ma
 have ha := ek ma
 have lb := d_ mb
 have hb := ek mb
 clear ma mb hval
 have gT := aa (hv.out.below (aB (w := w) (o1 := aN P Q G) (o2 := .cells #[.int .i64 a, .int .i64 b] 3) (Below.refl _ _)))
 have HC := aa (MJ w (aN P Q G) 3 a b)
 have HB0 := aa ((az w P Q G).below (ai (w.alloc (aN P Q G)) (.cells #[.int .i64 a, .int .i64 b] 3)))
 go_in
 go_wp2_with fail
 refine (uK P Q G _ [a, b] 2 2 (aa rfl) (by decide) 0 hr hQ _ gT HC).mono ?_
 rintro e w1 ⟨rfl, hb0⟩
 have hb1 := aB hb0
 obtain ⟨c0, c1, c2⟩ := HB0.out.below hb0
 clear hb0
 go_wp2_with fail
 refine (Dw a b P hp (by omega) ha (by omega) hb _).mono ?_
 rintro e w2 ⟨rfl, n, rfl⟩
 rw [hvv.out]
 go_wp2
 go_ret2
 exact ⟨rfl, ay hb1 _⟩
theorem D_ (P Q G a k v : Int) (hr : Hid (r_ P Q G [a] = 0)) (hvv : Hid (pw a (k % Q) P = v)) (hk0 : -9223372036854775808 ≤ k) (hk : k < 9223372036854775808) (w : World) (hv : Hid (Vars w)) :
  Calls Tryz.prog 38 #[gv P Q G, .int .i64 a, .int .i64 k] w (Rt w (.tuple #[.int .i64 v, .int .i64 0])) := by
 obtain ⟨hval, hall⟩ := xu hr.out
 obtain ⟨hp2, hp, hq3, wK⟩ := aM hval
 simp only [List.all_cons, List.all_nil, Bool.and_true] at hall
 have la := d_ hall
 have ha := ek hall
 clear hall hval
 have k0 : 0 ≤ k % Q := Int.emod_nonneg _ (by omega)
 have k1 : k % Q < Q := Int.emod_lt_of_pos _ (by omega)
 obtain ⟨j, hj⟩ : ∃ j, k % Q = j := ⟨_, rfl⟩
 rw [hj] at k0 k1 hvv
 have HJ := aa hj
 clear hj
 have gT := aa (hv.out.below (aB (w := w) (o1 := aN P Q G) (o2 := .cells #[.int .i64 a] 3) (Below.refl _ _)))
 have HC := aa (MK w (aN P Q G) 3 a)
 have HB0 := aa ((az w P Q G).below (ai (w.alloc (aN P Q G)) (.cells #[.int .i64 a] 3)))
 go_in
 go_wp2_with fail
 refine (uK P Q G _ [a] 1 1 (aa rfl) (by decide) 0 hr (by omega) _ gT HC).mono ?_
 rintro e w1 ⟨rfl, hb0⟩
 have hb1 := aB hb0
 obtain ⟨c0, c1, c2⟩ := HB0.out.below hb0
 clear hb0
 go_wp2_with fail
 refine (Fg k Q (by omega) (by omega) hk0 hk _).mono ?_
 rintro e w2 ⟨rfl, rfl⟩
 rw [HJ.out]
 go_wp2_with fail
 refine (tY a j P (by omega) hp (by omega) ha k0 (by omega) _).mono ?_
 rintro e w2 ⟨rfl, n, rfl⟩
 rw [hvv.out]
 go_wp2
 go_ret2
 exact ⟨rfl, ay hb1 _⟩
theorem fJ (P Q G : Int) (b : Bool) (hb : Hid (aJ P Q G = b)) (hQ : Q < 9223372036854775808) (w : World) :
  Calls Tryz.prog 14 #[gv P Q G] w (Rt w (.bool b)) := by
 have hb' := hb.out
 unfold aJ at hb'
 by_cases h0 : P < 3
 ·
  obtain rfl : b = false := by
   cases b with
   | false => rfl
   | true => exact absurd (aM hb.out).2.2 (by omega)
  exact Ii P Q G h0 w
 have h0' : 3 ≤ P := by omega
 by_cases h1 : P < 2305843009213693952
 ·
  by_cases h2 : 3 ≤ Q
  ·
   by_cases h3 : Q % 2 = 1
   ·
    by_cases h6 : (P - 1) % Q = 0
    ·
     by_cases h7 : 2 ≤ G
     ·
      by_cases h8 : G < P
      ·
       have Qd : Q < P := by have := Int.le_of_dvd (by omega) (Int.dvd_of_emod_eq_zero h6); omega
       cases h4 : l7 P with
       | true =>
        cases h5 : l7 Q with
        | true =>
         refine H7 P Q G h0' h1 h2 h3 hQ h6 h7 h8 Qd b h4 h5 ?_ w
         rw [← hb']
         simp [h1, h2, h3, h4, h5, h6, h7, h8]
         show ((pw G Q P == 1) = decide (pw G Q P = 1))
         rfl
        | false =>
         obtain rfl : b = false := by rw [← hb']; simp [h5]
         exact H8 P Q G h0' h1 h2 h3 hQ h6 h7 h8 Qd h4 h5 w
       | false =>
        obtain rfl : b = false := by rw [← hb']; simp [h4]
        exact H9 P Q G h0' h1 h2 h3 hQ h6 h7 h8 Qd h4 w
      ·
       obtain rfl : b = false := by rw [← hb']; simp [h8]
       exact H_ P Q G h0' h1 h2 h3 hQ h6 h7 (by omega) w
     ·
      obtain rfl : b = false := by rw [← hb']; simp [h7]
      exact Ia P Q G h0' h1 h2 h3 hQ h6 (by omega) w
    ·
     obtain rfl : b = false := by rw [← hb']; simp [h6]
     exact Ib P Q G h0' h1 h2 h3 hQ h6 w
   ·
    obtain rfl : b = false := by rw [← hb']; simp [h3]
    exact Ie P Q G h0' h1 h2 (show Q % 2 = 0 by omega) w
  ·
   obtain rfl : b = false := by rw [← hb']; simp [h2]
   exact Ig P Q G h0' h1 (by omega) w
 ·
  obtain rfl : b = false := by rw [← hb']; simp [h1]
  exact Ih P Q G h0' (by omega) w
theorem gL (P Q G x : Int) (b : Bool) (hb : Hid (a_ P Q x = b)) (h1 : P < 2305843009213693952) (FV : 0 ≤ Q) (hQ : Q < 9223372036854775808) (w : World) :
  Calls Tryz.prog 90 #[gv P Q G, .int .i64 x] w (Rt w (.bool b)) := by
 by_cases hx : 1 ≤ x
 ·
  by_cases hx2 : x < P
  ·
   obtain ⟨y, hy⟩ : ∃ y, pw x Q P = y := ⟨_, rfl⟩
   have g9 : ((y : Int) == 1) = b := by
    rw [← hb.out, ← hy, a_, Bool.eq_iff_iff]
    simp only [beq_iff_eq, decide_eq_true_eq]
    exact ⟨fun h => ⟨by omega, by omega, h⟩, fun h => h.2.2⟩
   have HX := aa hy
   clear hy hb
   go_in
   go_wp2_with fail
   refine (jw x Q P y HX (by omega) h1 (by omega) hx2 FV hQ _).mono ?_
   rintro e w' ⟨rfl, rfl⟩
   go_wp2
   go_ret
   exact ⟨rfl, ai _ _⟩
  ·
   obtain rfl : b = false := by rw [← hb.out]; simp [a_]; omega
   have d2 : decide (x < P) = false := by simp; omega
   go_in
   go_wp2
   go_ret
   exact ⟨rfl, ai _ _⟩
 ·
  obtain rfl : b = false := by rw [← hb.out]; simp [a_]; omega
  have d2 : decide (1 ≤ x) = false := by simp; omega
  go_in
  go_wp2
  go_ret
  exact ⟨rfl, ai _ _⟩
theorem tT {P : Program} {f : FuncId} {args : Array Value} {w : World} {n : Nat} {v : Value}
  (h : Calls P f args (w.drewN n) fun e w' => e = .returned v ∧ w.drewN n = w') : Calls P f args (w.drewN n) fun e w'' => e = .returned v ∧ ∃ m, w'' = w.drewN m :=
 h.mono fun _ _ ⟨he, hm⟩ => ⟨he, n, hm.symm⟩
theorem cell_below {w w' : World} {p : Addr} {v : Value} (h : w.cell? p = some v) (hb : Below w.heap.size w w') : w'.cell? p = some v := (hb.cell (World.block_lt_of_cell? _ _ h)).trans h
theorem eH {f : Int → Bool} {xs : List Int} (h : xs.all f = true) {k : Nat} (hk : k < xs.length) : f (xs.getD k 0) = true := by
 rw [List.getD_eq_getElem?_getD, List.getElem?_eq_getElem hk]
 exact List.all_eq_true.1 h _ (List.getElem_mem hk)
abbrev z32 : Array Value := #[.int .u8 0, .int .u8 0, .int .u8 0, .int .u8 0, .int .u8 0, .int .u8 0, .int .u8 0, .int .u8 0, .int .u8 0, .int .u8 0, .int .u8 0, .int .u8 0, .int .u8 0, .int .u8 0, .int .u8 0, .int .u8 0, .int .u8 0, .int .u8 0, .int .u8 0, .int .u8 0, .int .u8 0, .int .u8 0, .int .u8 0, .int .u8 0, .int .u8 0, .int .u8 0, .int .u8 0, .int .u8 0, .int .u8 0, .int .u8 0, .int .u8 0, .int .u8 0]
def Own (w : World) (p : Addr) (v : Value) : Prop := w.cell? p = some v ∧ w.frozen? p = false
theorem Own.below {w w' : World} {p : Addr} {v : Value} (h : Own w p v) (hb : Below w.heap.size w w') : Own w' p v :=
 ⟨cell_below h.1 hb, (hb.frozen (World.block_lt_of_cell? _ _ h.1)).trans h.2⟩
theorem gP {w : World} {cs : Array Value} {T : TypeId} {n j : Nat} {v : Value} (hn : w.heap.size = n) (hj : cs[j]? = some v) : (w.alloc (.cells cs T)).cell? ⟨n, j, none⟩ = some v := by
 subst hn
 exact (World.cell?_alloc_at _ _ _ _ rfl).trans hj
theorem lV {w : World} {cs : Array Value} {T : TypeId} {n j : Nat} {v : Value} (hn : w.heap.size = n) (hj : cs[j]? = some v) : Own (w.alloc (.cells cs T)) ⟨n, j, none⟩ v := by
 refine ⟨gP hn hj, ?_⟩
 subst hn
 exact aS (heap_alloc_new w _) _
def RX (xs : List Int) (n : Nat) (w : World) (e : Ending) (w' : World) : Prop := ∃ A c, e = .returned (.slice A n c) ∧ Sl w' A xs ∧ (0 < xs.length → ∃ g, A = some ⟨g, 0, none⟩ ∧ w.heap.size ≤ g) ∧ Below w.heap.size w w'
theorem sl0 (w : World) (A : Option Addr) : Sl w A [] := fun k hk => absurd hk (by simp)
theorem dN.sl {w : World} {B : Nat} {v : Value} {xs : List Int} (h : dN w B v xs) : ∃ A c, v = .slice A xs.length c ∧ Sl w A xs ∧ (0 < xs.length → ∃ g, A = some ⟨g, 0, none⟩ ∧ B ≤ g) := by
 by_cases h0 : 0 < xs.length
 ·
  obtain ⟨g, cap, rfl, hg, hc⟩ := dN.cells h h0
  exact ⟨some ⟨g, 0, none⟩, cap, rfl, fun k hk => ⟨g, 0, rfl, by rw [Nat.zero_add]; exact hc k hk⟩, fun _ => ⟨g, rfl, hg⟩⟩
 ·
  have e : xs = [] := List.eq_nil_of_length_eq_zero (by omega)
  subst e
  obtain ⟨_, h2⟩ := h
  rcases h2 with ⟨hv, _⟩ | ⟨g, cap, cur, hv, _⟩
  · exact ⟨none, 0, hv, sl0 _ _, fun h => absurd h (by simp)⟩
  · exact ⟨_, cap, hv, sl0 _ _, fun h => absurd h (by simp)⟩
theorem Sl.at0 {w : World} {A : Option Addr} {xs : List Int} (h : Sl w A xs) (h0 : 0 < xs.length) : ∃ b o, A = some ⟨b, o, none⟩ ∧ ∀ j, j < xs.length → w.cell? ⟨b, o + j, none⟩ = some (.int .i64 (xs.getD j 0)) := by
 obtain ⟨b, o, rfl, _⟩ := h 0 h0
 exact ⟨b, o, rfl, fun j hj => by
  obtain ⟨b', o', e, hc⟩ := h j hj
  cases e
  exact hc⟩
theorem Ed (A : Option Addr) (xs : List Int) (n c : Nat) (B : Option Addr) (ys : List Int) (m d : Nat) (r : Bool) (hr : Hid ((xs == ys) = r)) (hn : Hid (xs.length = n)) (hm : Hid (ys.length = m)) (hbig : n < 1000000) (hbig2 : m < 1000000)
  (w : World) (hA : Hid (Sl w A xs)) (hB : Hid (Sl w B ys)) :
  Calls Tryz.prog 21 #[.slice A n c, .slice B m d] w (Rt w (.bool r)) := by
 have hn' := hn.out
 have hm' := hm.out
 by_cases hnm : n = m
 ·
  by_cases h0 : n = 0
  ·
   subst hnm
   subst h0
   refine (Tryz.slices_Equal_int_empty A B c 0 d w (by omega)).mono ?_
   rintro e w' ⟨rfl, rfl⟩
   have e1 := List.eq_nil_of_length_eq_zero hn'
   have e2 := List.eq_nil_of_length_eq_zero hm'
   refine ⟨?_, Below.refl _ _⟩
   rw [← hr.out, e1, e2]
   rfl
  ·
   obtain ⟨b1, o1, rfl, hc1⟩ := hA.out.at0 (by omega)
   obtain ⟨b2, o2, rfl, hc2⟩ := hB.out.at0 (by omega)
   refine (Tryz.slices_Equal_int b1 o1 n c b2 o2 m d xs ys w (by omega) (by omega) (by omega) (by omega) hc1 hc2).mono ?_
   rintro e w' ⟨rfl, q, rfl⟩
   refine ⟨?_, ay (Below.refl _ _) _⟩
   rw [List.take_of_length_le (by omega), List.take_of_length_le (by omega), hr.out]
 ·
  refine (Tryz.slices_Equal_int_lens A B n c m d w hnm).mono ?_
  rintro e w' ⟨rfl, rfl⟩
  refine ⟨?_, Below.refl _ _⟩
  have : (xs == ys) = false := by
   rw [beq_eq_false_iff_ne]
   intro e
   rw [e] at hn'
   omega
  rw [← hr.out, this]
theorem uT (A : Option Addr) (xs : List Int) (n c : Nat) (hn : Hid (xs.length = n)) (hbig : n < 1000000) (w : World) (hA : Hid (Sl w A xs)) :
  Calls Tryz.prog 56 #[.slice A n c] w (RX xs n w) := by
 have hn' := hn.out
 by_cases h0 : n = 0
 ·
  have e1 := List.eq_nil_of_length_eq_zero (hn'.trans h0)
  subst e1
  subst h0
  cases A with
  | none =>
   refine (Tryz.slices_Clone_int_nil 0 c w).mono ?_
   rintro e w' ⟨rfl, rfl⟩
   exact ⟨none, 0, rfl, sl0 _ _, fun h => absurd h (by simp), Below.refl _ _⟩
  | some a =>
   refine (Tryz.slices_Clone_int_zero a c w).mono ?_
   rintro e w' ⟨v', rfl, ho, _, hb⟩
   obtain ⟨B, cc, hv, hs, hg⟩ := dN.sl (xs := []) ho
   exact ⟨B, cc, by rw [hv]; rfl, hs, hg, hb⟩
 ·
  obtain ⟨b1, o1, rfl, hc1⟩ := hA.out.at0 (by omega)
  refine (Tryz.slices_Clone_int b1 o1 n c xs w (by omega) (by omega) hc1).mono ?_
  rintro e w' ⟨v', rfl, ho, _, hb⟩
  rw [List.take_of_length_le (by omega), ← hn'] at ho
  obtain ⟨B, cc, hv, hs, hg⟩ := dN.sl (xs := xs) ho
  exact ⟨B, cc, by rw [hv, hn'], hs, hg, hb⟩
end Go.Proofs.YtbljkkpnpcgjfaaGreatDoor
namespace Go.Proofs.YtbljkkpnpcgjfaaGreatDoor
open Go.RowKit
structure Kp (p : Prop) : Prop where
 out : p
def iY (x : Int) (n : Nat) : Int := bits .or .u32 (x / 2 ^ n) (IntKind.u32.wrap (x * 2 ^ (32 - n)))
def TA (x : Int) : Int := bits .xor .u32 (bits .xor .u32 (iY x 7) (iY x 18)) (x / 8)
def Tz (x : Int) : Int := bits .xor .u32 (bits .xor .u32 (iY x 17) (iY x 19)) (x / 1024)
def add32 (x y : Int) : Int := IntKind.u32.wrap (x + y)
def Nf (l : List Int) : Int := add32 (add32 (add32 (l.getD (l.length - 16) 0) (TA (l.getD (l.length - 15) 0))) (l.getD (l.length - 7) 0)) (Tz (l.getD (l.length - 2) 0))
def oP : Nat → List Int → List Int
 | 0, l => l
 | n + 1, l => oP n l ++ [Nf (oP n l)]
def lU (b : List Int) (i : Nat) : Int := b.getD i 0
def zC (b : List Int) (i : Nat) : Int := ((lU b (4 * i) * 256 + lU b (4 * i + 1)) * 256 + lU b (4 * i + 2)) * 256 + lU b (4 * i + 3)
def eu (b : List Int) (n : Nat) : List Int := (List.range n).map (zC b)
def di (b : List Int) : List Int := oP 48 (eu b 16)
theorem gy (b : List Int) (n : Nat) : (eu b n).length = n := by simp [eu]
theorem zD (b : List Int) (n : Nat) : eu b (n + 1) = eu b n ++ [zC b n] := by simp [eu, List.range_succ]
theorem zF (n : Nat) (l : List Int) : (oP n l).length = l.length + n := by
 induction n with
 | zero => rfl
 | succ n ih => rw [oP, List.length_append, ih]; rfl
theorem lG (b : List Int) : (di b).length = 64 := by rw [di, zF, gy]
structure St where
 (a b c d e f g h : Int)
def WY (x : Int) : Int := bits .xor .u32 (bits .xor .u32 (iY x 2) (iY x 13)) (iY x 22)
def TB (x : Int) : Int := bits .xor .u32 (bits .xor .u32 (iY x 6) (iY x 11)) (iY x 25)
def QJ (x : Int) : Int := bits .xor .u32 4294967295 x
def TR (e f g : Int) : Int := bits .xor .u32 (bits .and .u32 e f) (bits .and .u32 (QJ e) g)
def Xa (a b c : Int) : Int := bits .xor .u32 (bits .xor .u32 (bits .and .u32 a b) (bits .and .u32 a c)) (bits .and .u32 b c)
def Le (s : St) (k w : Int) : Int := add32 (add32 (add32 (add32 s.h (TB s.e)) (TR s.e s.f s.g)) k) w
def QA (s : St) : Int := add32 (WY s.a) (Xa s.a s.b s.c)
def TC (s : St) (k w : Int) : St := ⟨add32 (Le s k w) (QA s), s.a, s.b, s.c, add32 s.d (Le s k w), s.e, s.f, s.g⟩
def KL : List Int := [
  0x428a2f98, 0x71374491, 0xb5c0fbcf, 0xe9b5dba5, 0x3956c25b, 0x59f111f1, 0x923f82a4, 0xab1c5ed5,
  0xd807aa98, 0x12835b01, 0x243185be, 0x550c7dc3, 0x72be5d74, 0x80deb1fe, 0x9bdc06a7, 0xc19bf174,
  0xe49b69c1, 0xefbe4786, 0x0fc19dc6, 0x240ca1cc, 0x2de92c6f, 0x4a7484aa, 0x5cb0a9dc, 0x76f988da,
  0x983e5152, 0xa831c66d, 0xb00327c8, 0xbf597fc7, 0xc6e00bf3, 0xd5a79147, 0x06ca6351, 0x14292967,
  0x27b70a85, 0x2e1b2138, 0x4d2c6dfc, 0x53380d13, 0x650a7354, 0x766a0abb, 0x81c2c92e, 0x92722c85,
  0xa2bfe8a1, 0xa81a664b, 0xc24b8b70, 0xc76c51a3, 0xd192e819, 0xd6990624, 0xf40e3585, 0x106aa070,
  0x19a4c116, 0x1e376c08, 0x2748774c, 0x34b0bcb5, 0x391c0cb3, 0x4ed8aa4a, 0x5b9cca4f, 0x682e6ff3,
  0x748f82ee, 0x78a5636f, 0x84c87814, 0x8cc70208, 0x90befffa, 0xa4506ceb, 0xbef9a3f7, 0xc67178f2]
def st0 : St := ⟨0x6a09e667, 0xbb67ae85, 0x3c6ef372, 0xa54ff53a, 0x510e527f, 0x9b05688c, 0x1f83d9ab, 0x5be0cd19⟩
def BJ (ws : List Int) (s : St) : Nat → St
 | 0 => s
 | n + 1 => TC (BJ ws s n) (KL.getD n 0) (ws.getD n 0)
def O_ (s t : St) : St := ⟨add32 s.a t.a, add32 s.b t.b, add32 s.c t.c, add32 s.d t.d, add32 s.e t.e, add32 s.f t.f, add32 s.g t.g, add32 s.h t.h⟩
def Ce (s : St) (b : List Int) : St := O_ s (BJ (di b) s 64)
def iI (p : List Int) (n : Nat) : List Int := (p.drop (64 * n)).take 64
def nP (p : List Int) : Nat → St
 | 0 => st0
 | n + 1 => Ce (nP p n) (iI p n)
def mg (n : Int) : List Int := [n / 72057594037927936 % 256, n / 281474976710656 % 256, n / 1099511627776 % 256, n / 4294967296 % 256, n / 16777216 % 256, n / 65536 % 256, n / 256 % 256, n % 256]
def o_ (n : Nat) : Nat := (119 - n % 64) % 64
def pg (b : List Int) : List Int := b ++ [128] ++ List.replicate (o_ b.length) 0 ++ mg (8 * b.length)
def St.list (s : St) : List Int := [s.a, s.b, s.c, s.d, s.e, s.f, s.g, s.h]
def um (v : Int) : List Int := [v / 16777216 % 256, v / 65536 % 256, v / 256 % 256, v % 256]
def n_ (s : St) : List Int := um s.a ++ um s.b ++ um s.c ++ um s.d ++ um s.e ++ um s.f ++ um s.g ++ um s.h
def rT (b : List Int) : List Int := n_ (nP (pg b) ((pg b).length / 64))
def tagged (tag b : List Int) : List Int := rT (rT tag ++ rT tag ++ b)
def aH (l : List Int) : Bool := l.all fun x => decide (0 ≤ x) && decide (x < 256)
theorem iJ (n : Int) : (mg n).length = 8 := rfl
theorem iE (b : List Int) : (rT b).length = 32 := rfl
theorem gB (t b : List Int) : (tagged t b).length = 32 := rfl
theorem uh (b : List Int) : (pg b).length = b.length + 9 + o_ b.length := by simp [pg, iJ]; omega
theorem Iq (b : List Int) : (pg b).length % 64 = 0 := by rw [uh, o_]; omega
theorem uu (n : Int) : (decide (0 ≤ n % 256) && decide (n % 256 < 256)) = true := by simp; omega
theorem bO {a b : List Int} : aH (a ++ b) = (aH a && aH b) := by simp [aH]
theorem nD (n : Int) : aH (mg n) = true := by simp [aH, mg, uu]
theorem BZ (n : Int) : aH (um n) = true := by simp [aH, um, uu]
theorem BX (s : St) : aH (n_ s) = true := by simp only [n_, bO, BZ, Bool.and_self]
theorem jh (b : List Int) : aH (rT b) = true := BX _
theorem BS {b : List Int} (h : aH b = true) : aH (pg b) = true := by
 simp only [pg, bO, h, nD, Bool.true_and, Bool.and_true]
 simp [aH]
theorem iD {l : List Int} (h : aH l = true) (i : Nat) : 0 ≤ l.getD i 0 ∧ l.getD i 0 < 256 := by
 by_cases hi : i < l.length
 ·
  have := List.all_eq_true.1 h _ (List.getElem_mem hi)
  rw [List.getD_eq_getElem?_getD, List.getElem?_eq_getElem hi]
  simpa using this
 · rw [List.getD_eq_getElem?_getD, List.getElem?_eq_none (by omega)]; simp
theorem A9 {l : List Int} (h : aH l = true) (n : Nat) : aH (l.take n) = true :=
 List.all_eq_true.2 fun x hx => List.all_eq_true.1 h x (List.mem_of_mem_take hx)
theorem A_ {l : List Int} (h : aH l = true) (n : Nat) : aH (l.drop n) = true :=
 List.all_eq_true.2 fun x hx => List.all_eq_true.1 h x (List.mem_of_mem_drop hx)
theorem vN {p : List Int} (h : aH p = true) (n : Nat) : aH (iI p n) = true := A9 (A_ h _) _
theorem Ba {p : List Int} {n : Nat} (h : 64 * n + 64 ≤ p.length) : (iI p n).length = 64 := by simp [iI]; omega
theorem yT (a b : Int) : bits .or .u32 a b = bits .or .u32 b a := by
 simp only [bits]
 rw [BitVec.or_comm]
end Go.Proofs.YtbljkkpnpcgjfaaGreatDoor