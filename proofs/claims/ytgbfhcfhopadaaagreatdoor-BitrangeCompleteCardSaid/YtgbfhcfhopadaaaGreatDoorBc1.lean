/- Contracts and lemmas: Num, Div, Word, Mod, WordB, Pow, Mr, Prime, PrimeB, Is, Group, El, Alg, LawKit, Inv, Chk, Cf, Bits, RBits, RefA, RefB, RefC, GroupR, Gops, Base. -/
import Derived.WalkKit
import Derived.Lib.BitFns
import Derived.Test.YtgbfhcfhopadaaaGreatDoorBcS
import Derived.Deep.QuietTactic
import Derived.BigQuiet
import Derived.Lib.Hide
import Derived.Outline
import Derived.Lib.TrailingZeros
import Derived.Test.YtgbfhcfhopadaaaGreatDoorCards
import Derived.Test.YtgbfhcfhopadaaaGreatDoorTie
import Derived.ProofKit
import Derived.OpenShut
import Derived.Carry
import Derived.Deep.DeepHandedRow
import Derived.Lib.LaidTab
import Derived.Stop.LaidErr
import Derived.Laws.MakeOwn
import Derived.Laws.OwnMore
import Derived.Deep.OwnRows
import Derived.OwnWalk
import Derived.Maps.AppendAt
import Derived.Deep.RegionHeld3
import Derived.Laws.BitsAllLaws
import Derived.BigRegion
import Derived.Deep.WholeRow
import Derived.Deep.Cut
import Derived.ChangeMaps5
import Derived.Deep.Slices
import Derived.Deep.AppendLies
import Derived.Laws.AppendOwnNone
import Derived.Deep.MidRow
import Derived.Deep.Heap
import Derived.Maps.OwnSet
import Derived.Laws.StructEq
set_option linter.unusedVariables false
set_option linter.unusedSimpArgs false
set_option maxRecDepth 100000
set_option maxHeartbeats 25600000
namespace Go.Proofs.YtgbfhcfhopadaaaGreatDoor
theorem aa {p : Prop} (h : p) : Go.RowKit.Hid p := Go.Lib.hid h
namespace ou
theorem FE {y1 y0 u un q r : Nat} (h : q * y1 + r = u) (hy : q * y0 ≤ 4294967296 * r + un) :
  q * (y1 * 4294967296 + y0) ≤ u * 4294967296 + un := by grind
theorem FH {y1 y0 u un q r : Nat} (h : q * y1 + r = u) (hy : 4294967296 * r + un < q * y0) :
  u * 4294967296 + un < q * (y1 * 4294967296 + y0) := by grind
def qc (y u un : Nat) : Nat := (u * 4294967296 + un) / y
theorem xZ {y u un : Nat} (hu : u < y) (hun : un < 4294967296) : qc y u un < 4294967296 := by
 unfold qc
 rw [Nat.div_lt_iff_lt_mul (by omega)]
 have : (u + 1) * 4294967296 ≤ y * 4294967296 := Nat.mul_le_mul_right _ hu
 omega
theorem AY {y1 y0 u un : Nat} (h1 : 0 < y1) (hun : un < 4294967296) : qc (y1 * 4294967296 + y0) u un ≤ u / y1 := by
 unfold qc
 rw [Nat.le_div_iff_mul_le h1]
 have h0 : 0 < y1 * 4294967296 + y0 := by omega
 have h := Nat.div_mul_le_self (u * 4294967296 + un) (y1 * 4294967296 + y0)
 generalize (u * 4294967296 + un) / (y1 * 4294967296 + y0) = Q at *
 have e : Q * (y1 * 4294967296 + y0) = Q * y1 * 4294967296 + Q * y0 := by grind
 rw [e] at h
 have : 0 ≤ Q * y0 := Nat.zero_le _
 generalize Q * y1 = A at *
 generalize Q * y0 = B at *
 omega
theorem vG {y1 y0 u un q r : Nat} (h0 : 0 < y1) (h : q * y1 + r = u) (hq : qc (y1 * 4294967296 + y0) u un ≤ q) (hy : q * y0 ≤ 4294967296 * r + un) :
  q = qc (y1 * 4294967296 + y0) u un := by
 have := FE h hy
 have : q ≤ qc (y1 * 4294967296 + y0) u un := by
  unfold qc
  rw [Nat.le_div_iff_mul_le (by omega)]
  exact this
 omega
theorem FN {y1 y0 u un q r : Nat} (hu : u < y1 * 4294967296 + y0) (hy0 : y0 < 4294967296) (h : q * y1 + r = u) (hr : 4294967296 ≤ r) : q * y0 ≤ 4294967296 * r + un ∧ q < 4294967296 := by
 have hq : q < 4294967296 := by
  have h2 : q * y1 < y1 * 4294967296 := by omega
  have h3 : q * y1 < 4294967296 * y1 := by omega
  exact Nat.lt_of_mul_lt_mul_right h3
 refine ⟨?_, hq⟩
 have : q * y0 ≤ 4294967296 * 4294967296 := Nat.mul_le_mul (by omega) (by omega)
 omega
theorem vF {y1 y0 u un q r : Nat} (hu : u < y1 * 4294967296 + y0) (hun : un < 4294967296) (h : q * y1 + r = u) (hq : qc (y1 * 4294967296 + y0) u un ≤ q)
  (ht : 4294967296 ≤ q ∨ 4294967296 * r + un < q * y0) : qc (y1 * 4294967296 + y0) u un ≤ q - 1 ∧ 1 ≤ q ∧ (q - 1) * y1 + (r + y1) = u := by
 have hd := xZ hu hun
 have h1 : 1 ≤ q := by
  rcases ht with ht | ht
  · omega
  ·
   cases q with
   | zero => simp at ht
   | succ n => omega
 refine ⟨?_, h1, ?_⟩
 ·
  rcases ht with ht | ht
  · omega
  ·
   have := FH h ht
   have : qc (y1 * 4294967296 + y0) u un < q := by
    unfold qc
    rw [Nat.div_lt_iff_lt_mul (by omega)]
    exact this
   omega
 ·
  obtain ⟨n, rfl⟩ : ∃ n, q = n + 1 := ⟨q - 1, by omega⟩
  simp only [Nat.add_sub_cancel]
  rw [← h, Nat.add_mul]; omega
theorem bitLen_eq (x : Nat) (h0 : x ≠ 0) (hx : x < 2 ^ 64) : Lib.bitLen x = x.log2 + 1 := by
 have h1 : 2 ^ x.log2 ≤ x := Nat.log2_self_le h0
 have h2 : x < 2 ^ (x.log2 + 1) := Nat.lt_log2_self
 rw [Lib.bitLen_shift x.log2 x h1 hx]
 have h3 : x / 2 ^ x.log2 = 1 := by
  rw [Nat.div_eq_iff (Nat.two_pow_pos _)]
  rw [Nat.pow_succ] at h2
  omega
 rw [h3]
 rfl
theorem wX (y : Nat) (h0 : 0 < y) (hy : y < 9223372036854775808) :
  ∃ s, 64 - Lib.bitLen y = s ∧ 1 ≤ s ∧ s ≤ 63 ∧ 9223372036854775808 ≤ y * 2 ^ s ∧ y * 2 ^ s < 18446744073709551616 := by
 have h1 : 2 ^ y.log2 ≤ y := Nat.log2_self_le (by omega)
 have h2 : y < 2 ^ (y.log2 + 1) := Nat.lt_log2_self
 have h3 : y.log2 < 63 := by
  rw [Nat.log2_lt (by omega)]; exact hy
 refine ⟨63 - y.log2, ?_, by omega, by omega, ?_, ?_⟩
 · rw [bitLen_eq y (by omega) (by omega)]; omega
 ·
  have : 2 ^ y.log2 * 2 ^ (63 - y.log2) = 9223372036854775808 := by rw [← Nat.pow_add, show y.log2 + (63 - y.log2) = 63 from by omega]
  rw [← this]; exact Nat.mul_le_mul_right _ h1
 ·
  have : 2 ^ (y.log2 + 1) * 2 ^ (63 - y.log2) = 18446744073709551616 := by rw [← Nat.pow_add, show y.log2 + 1 + (63 - y.log2) = 64 from by omega]
  rw [← this]; exact Nat.mul_lt_mul_of_pos_right h2 (Nat.two_pow_pos _)
theorem jX (s : Nat) (h : s ≤ 64) : 18446744073709551616 = 2 ^ (64 - s) * 2 ^ s := by
 rw [← Nat.pow_add, show 64 - s + s = 64 from by omega]
theorem bY (x : Nat) : IntKind.u64.wrap (x : Int) = ((x % 18446744073709551616 : Nat) : Int) := by
 rw [IntKind.wrap_u64]; omega
theorem gH (s : Nat) : (2 : Int) ^ s = ((2 ^ s : Nat) : Int) := by simp
theorem CJ (y s : Nat) (h : y * 2 ^ s < 18446744073709551616) : IntKind.u64.wrap ((y : Int) * 2 ^ s) = ((y * 2 ^ s : Nat) : Int) := by
 rw [gH, ← Int.natCast_mul, bY, Nat.mod_eq_of_lt h]
theorem Ib (lo s : Nat) : IntKind.u64.wrap ((lo : Int) * 2 ^ s) = ((lo * 2 ^ s % 18446744073709551616 : Nat) : Int) := by
 rw [gH, ← Int.natCast_mul, bY]
theorem mask32 (x : Nat) (h : x < 18446744073709551616) : bits .and .u64 (x : Int) 4294967295 = ((x % 4294967296 : Nat) : Int) := by
 have := bits_and_u64_nat x 4294967295 h (by decide)
 rw [show ((4294967295 : Nat) : Int) = (4294967295 : Int) from rfl] at this
 rw [this]
 congr 1
 rw [show 4294967295 = 2 ^ 32 - 1 from rfl, Nat.and_two_pow_sub_one_eq_mod]
theorem Ia (hi lo y s : Nat) (hs : s ≤ 63) (hs1 : 1 ≤ s) (hh : hi < y) (hlo : lo < 18446744073709551616) (h : y * 2 ^ s < 18446744073709551616) :
  bits .or .u64 (IntKind.u64.wrap ((hi : Int) * 2 ^ s)) ((lo : Int) / 2 ^ (64 - s)) = ((hi * 2 ^ s + lo / 2 ^ (64 - s) : Nat) : Int) ∧ hi * 2 ^ s + lo / 2 ^ (64 - s) < y * 2 ^ s := by
 have hb : lo / 2 ^ (64 - s) < 2 ^ s := by
  rw [Nat.div_lt_iff_lt_mul (Nat.two_pow_pos _), Nat.mul_comm, ← jX s (by omega)]; exact hlo
 have ha : (hi + 1) * 2 ^ s ≤ y * 2 ^ s := Nat.mul_le_mul_right _ hh
 rw [Nat.add_mul] at ha
 refine ⟨?_, by omega⟩
 rw [CJ hi s (by omega), gH, ← Int.natCast_ediv, bits_or_u64_nat _ _ (by omega) (by omega)]
 congr 1
 rw [Nat.mul_comm hi, Nat.two_pow_add_eq_or_of_lt hb]
theorem Dm (hi lo y s Y U L : Nat) (hs : s ≤ 63) (hY : Y = y * 2 ^ s) (hU : U = hi * 2 ^ s + lo / 2 ^ (64 - s)) (hL : L = lo * 2 ^ s % 18446744073709551616) (hy : 0 < y) :
  (hi * 18446744073709551616 + lo) / y = qc Y U (L / 4294967296) * 4294967296 + qc Y ((U * 4294967296 + L / 4294967296) % Y) (L % 4294967296) ∧
  (hi * 18446744073709551616 + lo) % y * 2 ^ s = ((U * 4294967296 + L / 4294967296) % Y * 4294967296 + L % 4294967296) % Y := by
 have TI : 0 < Y := by rw [hY]; exact Nat.mul_pos hy (Nat.two_pow_pos _)
 have e : (hi * 18446744073709551616 + lo) * 2 ^ s = U * 18446744073709551616 + L := by
  have e1 : lo * 2 ^ s = lo / 2 ^ (64 - s) * 18446744073709551616 + lo * 2 ^ s % 18446744073709551616 := by
   have e2 : lo * 2 ^ s / 18446744073709551616 = lo / 2 ^ (64 - s) := by
    rw [jX s (by omega), Nat.mul_div_mul_right _ _ (Nat.two_pow_pos _)]
   rw [← e2]; exact (Nat.div_add_mod' _ _).symm
  rw [hU, hL, Nat.add_mul, Nat.add_mul]
  have e3 : hi * 18446744073709551616 * 2 ^ s = hi * 2 ^ s * 18446744073709551616 := by rw [Nat.mul_right_comm]
  rw [e3]; omega
 have q1 : (hi * 18446744073709551616 + lo) / y = (U * 18446744073709551616 + L) / Y := by
  rw [← e, hY, Nat.mul_div_mul_right _ _ (Nat.two_pow_pos _)]
 have q2 : (hi * 18446744073709551616 + lo) % y * 2 ^ s = (U * 18446744073709551616 + L) % Y := by
  rw [← e, hY, Nat.mul_mod_mul_right]
 have e4 : U * 18446744073709551616 + L = (U * 4294967296 + L / 4294967296) * 4294967296 + L % 4294967296 := by omega
 obtain ⟨N, hN⟩ : ∃ N, U * 4294967296 + L / 4294967296 = N := ⟨_, rfl⟩
 obtain ⟨l, hl⟩ : ∃ l, L % 4294967296 = l := ⟨_, rfl⟩
 rw [q1, q2, e4]
 unfold qc
 rw [hN, hl]
 have eN : N * 4294967296 + l = N / Y * 4294967296 * Y + (N % Y * 4294967296 + l) := by
  have h1 := Nat.div_add_mod' N Y
  have h2 : N * 4294967296 = (N / Y * Y + N % Y) * 4294967296 := by rw [h1]
  rw [h2, Nat.add_mul, Nat.mul_right_comm]; omega
 constructor
 · rw [eN, Nat.add_comm, Nat.add_mul_div_right _ _ TI, Nat.add_comm]
 · rw [eN, Nat.add_comm, Nat.add_mul_mod_self_right]
end ou
open Go.RowKit ou
def dL (Y1 Y0 U L1 q r : Nat) : Prop := q * Y1 + r = U ∧ qc (Y1 * 4294967296 + Y0) U L1 ≤ q ∧ r < 4294967296
theorem pq {Y1 Y0 U L1 : Nat} (Ji : 2147483648 ≤ Y1) (yL : Y1 < 4294967296) (Et : L1 < 4294967296) : dL Y1 Y0 U L1 (U / Y1) (U - U / Y1 * Y1) := by
 have h1 := Nat.div_add_mod' U Y1
 have h2 := Nat.mod_lt U (show Y1 > 0 by omega)
 exact ⟨by omega, AY (by omega) Et, by omega⟩
theorem fu {Y1 Y0 U L1 q r : Nat} (yL : Y1 < 4294967296) (l8 : Y0 < 4294967296) (Et : L1 < 4294967296) (bU : U < Y1 * 4294967296 + Y0) (h : dL Y1 Y0 U L1 q r)
  (ht : 4294967296 ≤ q ∨ 4294967296 * r + L1 < q * Y0) (hr : r + Y1 < 4294967296) : dL Y1 Y0 U L1 (q - 1) (r + Y1) ∧ 1 ≤ q := by
 obtain ⟨a, b, c⟩ := h
 have := vF bU Et a b ht
 exact ⟨⟨this.2.2, this.1, hr⟩, this.2.1⟩
theorem dR {Y1 Y0 U L1 q r : Nat} (Ji : 0 < Y1) (l8 : Y0 < 4294967296) (Et : L1 < 4294967296) (bU : U < Y1 * 4294967296 + Y0) (h : dL Y1 Y0 U L1 q r)
  (ht : 4294967296 ≤ q ∨ 4294967296 * r + L1 < q * Y0) (hr : 4294967296 ≤ r + Y1) : q - 1 = qc (Y1 * 4294967296 + Y0) U L1 ∧ 1 ≤ q := by
 obtain ⟨a, b, c⟩ := h
 have := vF bU Et a b ht
 exact ⟨vG Ji this.2.2 this.1 (FN bU l8 this.2.2 hr).1, this.2.1⟩
theorem lg {Y1 Y0 U L1 q r : Nat} (Ji : 0 < Y1) (h : dL Y1 Y0 U L1 q r) (ht : q * Y0 ≤ 4294967296 * r + L1) : q = qc (Y1 * 4294967296 + Y0) U L1 := by
 obtain ⟨a, b, c⟩ := h
 exact vG Ji a b ht
theorem E5 {Y1 Y0 U L1 q r : Nat} (Ji : 0 < Y1) (h : dL Y1 Y0 U L1 q r) (bU : U < Y1 * 4294967296 + Y0) (yL : Y1 < 4294967296) (l8 : Y0 < 4294967296) : q ≤ 18446744073709551615 := by
 obtain ⟨a, b, c⟩ := h
 have : q * 1 ≤ q * Y1 := Nat.mul_le_mul_left _ Ji
 omega
theorem lK {q Y0 : Nat} (h : q < 4294967296) (l8 : Y0 < 4294967296) : ∃ M, q * Y0 = M ∧ IntKind.u64.wrap ((q : Int) * (Y0 : Int)) = (M : Int) := by
 refine ⟨_, rfl, ?_⟩
 rw [← Int.natCast_mul, bY, Nat.mod_eq_of_lt]
 have : q * Y0 ≤ 4294967295 * 4294967295 := Nat.mul_le_mul (by omega) (by omega)
 omega
theorem xY (hi lo y : Nat) (s : Nat) (hs : 64 - Lib.bitLen y = s) (hs1 : 1 ≤ s) (hs2 : s ≤ 63) (hh : 0 < hi) (hy : hi < y) (hy2 : y < 9223372036854775808) (hlo : lo < 18446744073709551616) 
    (Y Y1 Y0 U L L1 L0 Q0 P0 R0 D1 T1 T2 T3 R1 Q2 P2 R2 D0 T4 T5 T6 T7 T8 T9 : Nat) (hY : IntKind.u64.wrap ((y : Int) * 2 ^ s) = (Y : Int)) (QZ : (Y : Int) / 4294967296 = (Y1 : Int)) (hY0 : bits .and .u64 Y 4294967295 = (Y0 : Int))
   (hU : bits .or .u64 (IntKind.u64.wrap ((hi : Int) * 2 ^ s)) ((lo : Int) / 2 ^ (64 - s)) = (U : Int)) (hL : IntKind.u64.wrap ((lo : Int) * 2 ^ s) = (L : Int)) (hL1 : (L : Int) / 4294967296 = (L1 : Int)) (hL0 : bits .and .u64 L 4294967295 = (L0 : Int))
   (J3 : IntKind.u64.wrap ((U : Int) / (Y1 : Int)) = (Q0 : Int)) (TQ : IntKind.u64.wrap ((Q0 : Int) * (Y1 : Int)) = (P0 : Int)) (hR0 : IntKind.u64.wrap ((U : Int) - (P0 : Int)) = (R0 : Int))
   (hT1 : IntKind.u64.wrap ((U : Int) * 4294967296) = (T1 : Int)) (VP : IntKind.u64.wrap ((T1 : Int) + (L1 : Int)) = (T2 : Int)) (Q6 : IntKind.u64.wrap ((D1 : Int) * (Y : Int)) = (T3 : Int)) (og : IntKind.u64.wrap ((T2 : Int) - (T3 : Int)) = (R1 : Int))
   (Q9 : IntKind.u64.wrap ((R1 : Int) / (Y1 : Int)) = (Q2 : Int)) (hP2 : IntKind.u64.wrap ((Q2 : Int) * (Y1 : Int)) = (P2 : Int)) (hR2 : IntKind.u64.wrap ((R1 : Int) - (P2 : Int)) = (R2 : Int))
   (VO : IntKind.u64.wrap ((D1 : Int) * 4294967296) = (T4 : Int)) (VN : IntKind.u64.wrap ((T4 : Int) + (D0 : Int)) = (T5 : Int))
   (VM : IntKind.u64.wrap ((R1 : Int) * 4294967296) = (T6 : Int)) (VL : IntKind.u64.wrap ((T6 : Int) + (L0 : Int)) = (T7 : Int)) (VK : IntKind.u64.wrap ((D0 : Int) * (Y : Int)) = (T8 : Int)) (VJ : IntKind.u64.wrap ((T7 : Int) - (T8 : Int)) = (T9 : Int))
   (Ji : 2147483648 ≤ Y1) (yL : Y1 < 4294967296) (l8 : Y0 < 4294967296) (Et : L1 < 4294967296) (Bv : L0 < 4294967296) 
   (bU : Hid (U < Y1 * 4294967296 + Y0)) (hD1 : Hid (D1 = qc (Y1 * 4294967296 + Y0) U L1)) (bR : Hid (R1 < Y1 * 4294967296 + Y0)) (hD0 : Hid (D0 = qc (Y1 * 4294967296 + Y0) R1 L0))
   (Oa : Hid (dL Y1 Y0 U L1 Q0 R0)) (Da : Hid (dL Y1 Y0 R1 L0 Q2 R2))
   (w : World) :
    Calls Tryz.prog 82 #[.int .u64 hi, .int .u64 lo, .int .u64 y] w fun e w' => e = .returned (.tuple #[.int .u64 (T5 : Int), .int .u64 ((T9 : Int) / 2 ^ s)]) ∧ ∃ n, w' = w.drewN n := by
  have h1 : ((y : Int) == 0) = false := by simp; omega
  have h2 : decide ((y : Int) ≤ (hi : Int)) = false := by simp; omega
  have h3 : ((hi : Int) == 0) = false := by simp; omega
  have hb : (64 : Int) - (Lib.bitLen y : Int) = (s : Int) := by omega
  have HB := aa hb
  clear hb hs
  go_in
  go_wp2_with (go_at_call 102; refine (Tryz.bits_LeadingZeros64 _ _ (by omega) (by omega)).mono ?_; rintro e w' ⟨rfl, rfl⟩; rw [Int.toNat_natCast, HB.out])
  go_loop [15, 16] (fun a b => ∃ q r : Nat, a = .int .u64 q ∧ b = .int .u64 r ∧ dL Y1 Y0 U L1 q r) (fun a _ => (intOf a).toNat)
  case atStart => exact ⟨Q0, R0, rfl, rfl, Oa.out⟩
  case round =>
    obtain ⟨q, r, rfl, rfl, HR⟩ := hrel
    have b2 : r < 4294967296 := HR.2.2
    have b3 := E5 (by omega) HR bU.out yL l8
    by_cases ht : 4294967296 ≤ q
    · have hd : decide ((4294967296 : Int) ≤ (q : Int)) = true := by simp; omega
      by_cases hr : r + Y1 < 4294967296
      · have hw := fu yL l8 Et bU.out HR (.inl ht) hr
        have hd2 : decide ((4294967296 : Int) ≤ (r : Int) + (Y1 : Int)) = false := by simp; omega
        have b1 : 1 ≤ q := hw.2
        have HW := aa hw.1
        clear hw hr ht
        go_wp2
        go_round
        case rel => exact ⟨q - 1, r + Y1, by go_num, by go_num, HW.out⟩
        case measure => simp [intOf]; omega
      · have hw := dR (by omega) l8 Et bU.out HR (.inl ht) (by omega)
        rw [← hD1.out] at hw
        have hd2 : decide ((4294967296 : Int) ≤ (r : Int) + (Y1 : Int)) = true := by simp; omega
        have b1 : 1 ≤ q := hw.2
        have hq : (q : Int) - 1 = (D1 : Int) := by omega
        clear hw hr ht
        go_wp2
        clear hq hd2 b1 b2 b3 hd
        go_loop [18, 16] (fun a b => ∃ q r : Nat, a = .int .u64 q ∧ b = .int .u64 r ∧ dL Y1 Y0 R1 L0 q r) (fun a _ => (intOf a).toNat)
        case atStart => exact ⟨Q2, R2, rfl, rfl, Da.out⟩
        case round =>
          obtain ⟨q, r, rfl, rfl, HR⟩ := hrel
          have b2 : r < 4294967296 := HR.2.2
          have b3 := E5 (by omega) HR bR.out yL l8
          by_cases ht : 4294967296 ≤ q
          · have hd : decide ((4294967296 : Int) ≤ (q : Int)) = true := by simp; omega
            by_cases hr : r + Y1 < 4294967296
            · have hw := fu yL l8 Bv bR.out HR (.inl ht) hr
              have hd2 : decide ((4294967296 : Int) ≤ (r : Int) + (Y1 : Int)) = false := by simp; omega
              have b1 : 1 ≤ q := hw.2
              have HW := aa hw.1
              clear hw hr ht
              go_wp2
              go_round
              case rel => exact ⟨q - 1, r + Y1, by go_num, by go_num, HW.out⟩
              case measure => simp [intOf]; omega
            · have hw := dR (by omega) l8 Bv bR.out HR (.inl ht) (by omega)
              rw [← hD0.out] at hw
              have hd2 : decide ((4294967296 : Int) ≤ (r : Int) + (Y1 : Int)) = true := by simp; omega
              have b1 : 1 ≤ q := hw.2
              have hq : (q : Int) - 1 = (D0 : Int) := by omega
              clear hw hr ht
              go_wp2
              clear hq hd2 b1 b2 b3 hd
              go_ret2
              exact ⟨rfl, 0, rfl⟩
          · have hd : decide ((4294967296 : Int) ≤ (q : Int)) = false := by simp; omega
            obtain ⟨M, hM, IQ⟩ := lK (q := q) (by omega) l8
            by_cases hc : 4294967296 * r + L0 < M
            · have hd3 : decide ((4294967296 : Int) * (r : Int) + (L0 : Int) < (M : Int)) = true := by simp; omega
              by_cases hr : r + Y1 < 4294967296
              · have hw := fu yL l8 Bv bR.out HR (.inr (by rw [hM]; exact hc)) hr
                have hd2 : decide ((4294967296 : Int) ≤ (r : Int) + (Y1 : Int)) = false := by simp; omega
                have b1 : 1 ≤ q := hw.2
                have HW := aa hw.1
                clear hw hr ht hc hM
                go_wp2
                go_round
                case rel => exact ⟨q - 1, r + Y1, by go_num, by go_num, HW.out⟩
                case measure => simp [intOf]; omega
              · have hw := dR (by omega) l8 Bv bR.out HR (.inr (by rw [hM]; exact hc)) (by omega)
                rw [← hD0.out] at hw
                have hd2 : decide ((4294967296 : Int) ≤ (r : Int) + (Y1 : Int)) = true := by simp; omega
                have b1 : 1 ≤ q := hw.2
                have hq : (q : Int) - 1 = (D0 : Int) := by omega
                clear hw hr ht hc hM
                go_wp2
                clear hq hd2 b1 b2 b3 hd
                go_ret2
                exact ⟨rfl, 0, rfl⟩
            · have hd3 : decide ((4294967296 : Int) * (r : Int) + (L0 : Int) < (M : Int)) = false := by simp; omega
              have hw := lg (by omega) HR (by rw [hM]; omega)
              rw [← hD0.out] at hw
              subst hw
              clear ht hc hM
              go_wp2
              clear hd3 IQ b2 b3 hd
              go_ret2
              exact ⟨rfl, 0, rfl⟩
    · have hd : decide ((4294967296 : Int) ≤ (q : Int)) = false := by simp; omega
      obtain ⟨M, hM, IQ⟩ := lK (q := q) (by omega) l8
      by_cases hc : 4294967296 * r + L1 < M
      · have hd3 : decide ((4294967296 : Int) * (r : Int) + (L1 : Int) < (M : Int)) = true := by simp; omega
        by_cases hr : r + Y1 < 4294967296
        · have hw := fu yL l8 Et bU.out HR (.inr (by rw [hM]; exact hc)) hr
          have hd2 : decide ((4294967296 : Int) ≤ (r : Int) + (Y1 : Int)) = false := by simp; omega
          have b1 : 1 ≤ q := hw.2
          have HW := aa hw.1
          clear hw hr ht hc hM
          go_wp2
          go_round
          case rel => exact ⟨q - 1, r + Y1, by go_num, by go_num, HW.out⟩
          case measure => simp [intOf]; omega
        · have hw := dR (by omega) l8 Et bU.out HR (.inr (by rw [hM]; exact hc)) (by omega)
          rw [← hD1.out] at hw
          have hd2 : decide ((4294967296 : Int) ≤ (r : Int) + (Y1 : Int)) = true := by simp; omega
          have b1 : 1 ≤ q := hw.2
          have hq : (q : Int) - 1 = (D1 : Int) := by omega
          clear hw hr ht hc hM
          go_wp2
          clear hq hd2 b1 b2 b3 hd
          go_loop [18, 16] (fun a b => ∃ q r : Nat, a = .int .u64 q ∧ b = .int .u64 r ∧ dL Y1 Y0 R1 L0 q r) (fun a _ => (intOf a).toNat)
          case atStart => exact ⟨Q2, R2, rfl, rfl, Da.out⟩
          case round =>
            obtain ⟨q, r, rfl, rfl, HR⟩ := hrel
            have b2 : r < 4294967296 := HR.2.2
            have b3 := E5 (by omega) HR bR.out yL l8
            by_cases ht : 4294967296 ≤ q
            · have hd : decide ((4294967296 : Int) ≤ (q : Int)) = true := by simp; omega
              by_cases hr : r + Y1 < 4294967296
              · have hw := fu yL l8 Bv bR.out HR (.inl ht) hr
                have hd2 : decide ((4294967296 : Int) ≤ (r : Int) + (Y1 : Int)) = false := by simp; omega
                have b1 : 1 ≤ q := hw.2
                have HW := aa hw.1
                clear hw hr ht
                go_wp2
                go_round
                case rel => exact ⟨q - 1, r + Y1, by go_num, by go_num, HW.out⟩
                case measure => simp [intOf]; omega
              · have hw := dR (by omega) l8 Bv bR.out HR (.inl ht) (by omega)
                rw [← hD0.out] at hw
                have hd2 : decide ((4294967296 : Int) ≤ (r : Int) + (Y1 : Int)) = true := by simp; omega
                have b1 : 1 ≤ q := hw.2
                have hq : (q : Int) - 1 = (D0 : Int) := by omega
                clear hw hr ht
                go_wp2
                clear hq hd2 b1 b2 b3 hd
                go_ret2
                exact ⟨rfl, 0, rfl⟩
            · have hd : decide ((4294967296 : Int) ≤ (q : Int)) = false := by simp; omega
              obtain ⟨M, hM, IQ⟩ := lK (q := q) (by omega) l8
              by_cases hc : 4294967296 * r + L0 < M
              · have hd3 : decide ((4294967296 : Int) * (r : Int) + (L0 : Int) < (M : Int)) = true := by simp; omega
                by_cases hr : r + Y1 < 4294967296
                · have hw := fu yL l8 Bv bR.out HR (.inr (by rw [hM]; exact hc)) hr
                  have hd2 : decide ((4294967296 : Int) ≤ (r : Int) + (Y1 : Int)) = false := by simp; omega
                  have b1 : 1 ≤ q := hw.2
                  have HW := aa hw.1
                  clear hw hr ht hc hM
                  go_wp2
                  go_round
                  case rel => exact ⟨q - 1, r + Y1, by go_num, by go_num, HW.out⟩
                  case measure => simp [intOf]; omega
                · have hw := dR (by omega) l8 Bv bR.out HR (.inr (by rw [hM]; exact hc)) (by omega)
                  rw [← hD0.out] at hw
                  have hd2 : decide ((4294967296 : Int) ≤ (r : Int) + (Y1 : Int)) = true := by simp; omega
                  have b1 : 1 ≤ q := hw.2
                  have hq : (q : Int) - 1 = (D0 : Int) := by omega
                  clear hw hr ht hc hM
                  go_wp2
                  clear hq hd2 b1 b2 b3 hd
                  go_ret2
                  exact ⟨rfl, 0, rfl⟩
              · have hd3 : decide ((4294967296 : Int) * (r : Int) + (L0 : Int) < (M : Int)) = false := by simp; omega
                have hw := lg (by omega) HR (by rw [hM]; omega)
                rw [← hD0.out] at hw
                subst hw
                clear ht hc hM
                go_wp2
                clear hd3 IQ b2 b3 hd
                go_ret2
                exact ⟨rfl, 0, rfl⟩
      · have hd3 : decide ((4294967296 : Int) * (r : Int) + (L1 : Int) < (M : Int)) = false := by simp; omega
        have hw := lg (by omega) HR (by rw [hM]; omega)
        rw [← hD1.out] at hw
        subst hw
        clear ht hc hM
        go_wp2
        clear hd3 IQ b2 b3 hd
        go_loop [18, 16] (fun a b => ∃ q r : Nat, a = .int .u64 q ∧ b = .int .u64 r ∧ dL Y1 Y0 R1 L0 q r) (fun a _ => (intOf a).toNat)
        case atStart => exact ⟨Q2, R2, rfl, rfl, Da.out⟩
        case round =>
          obtain ⟨q, r, rfl, rfl, HR⟩ := hrel
          have b2 : r < 4294967296 := HR.2.2
          have b3 := E5 (by omega) HR bR.out yL l8
          by_cases ht : 4294967296 ≤ q
          · have hd : decide ((4294967296 : Int) ≤ (q : Int)) = true := by simp; omega
            by_cases hr : r + Y1 < 4294967296
            · have hw := fu yL l8 Bv bR.out HR (.inl ht) hr
              have hd2 : decide ((4294967296 : Int) ≤ (r : Int) + (Y1 : Int)) = false := by simp; omega
              have b1 : 1 ≤ q := hw.2
              have HW := aa hw.1
              clear hw hr ht
              go_wp2
              go_round
              case rel => exact ⟨q - 1, r + Y1, by go_num, by go_num, HW.out⟩
              case measure => simp [intOf]; omega
            · have hw := dR (by omega) l8 Bv bR.out HR (.inl ht) (by omega)
              rw [← hD0.out] at hw
              have hd2 : decide ((4294967296 : Int) ≤ (r : Int) + (Y1 : Int)) = true := by simp; omega
              have b1 : 1 ≤ q := hw.2
              have hq : (q : Int) - 1 = (D0 : Int) := by omega
              clear hw hr ht
              go_wp2
              clear hq hd2 b1 b2 b3 hd
              go_ret2
              exact ⟨rfl, 0, rfl⟩
          · have hd : decide ((4294967296 : Int) ≤ (q : Int)) = false := by simp; omega
            obtain ⟨M, hM, IQ⟩ := lK (q := q) (by omega) l8
            by_cases hc : 4294967296 * r + L0 < M
            · have hd3 : decide ((4294967296 : Int) * (r : Int) + (L0 : Int) < (M : Int)) = true := by simp; omega
              by_cases hr : r + Y1 < 4294967296
              · have hw := fu yL l8 Bv bR.out HR (.inr (by rw [hM]; exact hc)) hr
                have hd2 : decide ((4294967296 : Int) ≤ (r : Int) + (Y1 : Int)) = false := by simp; omega
                have b1 : 1 ≤ q := hw.2
                have HW := aa hw.1
                clear hw hr ht hc hM
                go_wp2
                go_round
                case rel => exact ⟨q - 1, r + Y1, by go_num, by go_num, HW.out⟩
                case measure => simp [intOf]; omega
              · have hw := dR (by omega) l8 Bv bR.out HR (.inr (by rw [hM]; exact hc)) (by omega)
                rw [← hD0.out] at hw
                have hd2 : decide ((4294967296 : Int) ≤ (r : Int) + (Y1 : Int)) = true := by simp; omega
                have b1 : 1 ≤ q := hw.2
                have hq : (q : Int) - 1 = (D0 : Int) := by omega
                clear hw hr ht hc hM
                go_wp2
                clear hq hd2 b1 b2 b3 hd
                go_ret2
                exact ⟨rfl, 0, rfl⟩
            · have hd3 : decide ((4294967296 : Int) * (r : Int) + (L0 : Int) < (M : Int)) = false := by simp; omega
              have hw := lg (by omega) HR (by rw [hM]; omega)
              rw [← hD0.out] at hw
              subst hw
              clear ht hc hM
              go_wp2
              clear hd3 IQ b2 b3 hd
              go_ret2
              exact ⟨rfl, 0, rfl⟩
theorem vE (lo y : Nat) (hy : 0 < y) (hy2 : y < 18446744073709551616) (hlo : lo < 18446744073709551616) (w : World) :
  Calls Tryz.prog 82 #[.int .u64 (0 : Int), .int .u64 lo, .int .u64 y] w fun e w' => e = .returned (.tuple #[.int .u64 ((lo / y : Nat) : Int), .int .u64 ((lo % y : Nat) : Int)]) ∧ ∃ n, w' = w.drewN n := by
 have h1 : ((y : Int) == 0) = false := by simp; omega
 have h2 : decide ((y : Int) ≤ 0) = false := by simp; omega
 have h3 : IntKind.u64.wrap ((lo : Int) / (y : Int)) = ((lo / y : Nat) : Int) := by
  rw [← Int.natCast_ediv, bY, Nat.mod_eq_of_lt]
  have := Nat.div_le_self lo y; omega
 go_in
 go_wp2
 go_quiet (fail)
 go_wp2
 go_ret2
 exact ⟨rfl, _, rfl⟩
theorem rT (a b : Nat) : IntKind.u64.wrap ((a : Int) - (b : Int)) = (((a + (18446744073709551616 - b % 18446744073709551616)) % 18446744073709551616 : Nat) : Int) := by
 rw [IntKind.wrap_u64]; omega
theorem iC (a b : Nat) : IntKind.u64.wrap ((a : Int) + (b : Int)) = (((a + b) % 18446744073709551616 : Nat) : Int) := by
 rw [← Int.natCast_add, bY]
theorem fJ (a b : Nat) : IntKind.u64.wrap ((a : Int) * (b : Int)) = (((a * b) % 18446744073709551616 : Nat) : Int) := by
 rw [← Int.natCast_mul, bY]
theorem ko (a : Nat) : IntKind.u64.wrap ((a : Int) * 4294967296) = (((a * 4294967296) % 18446744073709551616 : Nat) : Int) := by
 rw [show (4294967296 : Int) = ((4294967296 : Nat) : Int) from rfl, fJ]
theorem kW (a b : Nat) (h : a < 18446744073709551616) : IntKind.u64.wrap ((a : Int) / (b : Int)) = ((a / b : Nat) : Int) := by
 rw [← Int.natCast_ediv, bY, Nat.mod_eq_of_lt]
 exact Nat.lt_of_le_of_lt (Nat.div_le_self _ _) h
theorem est (U Y1 : Nat) (hU : U < 18446744073709551616) :
  IntKind.u64.wrap (((U / Y1 : Nat) : Int) * (Y1 : Int)) = ((U / Y1 * Y1 : Nat) : Int) ∧ IntKind.u64.wrap ((U : Int) - ((U / Y1 * Y1 : Nat) : Int)) = ((U - U / Y1 * Y1 : Nat) : Int) := by
 have h := Nat.div_mul_le_self U Y1
 rw [fJ, Nat.mod_eq_of_lt (by omega)]
 refine ⟨rfl, ?_⟩
 rw [← Int.natCast_sub h, bY, Nat.mod_eq_of_lt (by omega)]
theorem Ct (D Y N A B : Nat) (hD : D = N / Y) (hY : 0 < Y) (VI : Y < 18446744073709551616) (hA : A % 18446744073709551616 = N % 18446744073709551616) (hB : B % 18446744073709551616 = D * Y % 18446744073709551616) :
  IntKind.u64.wrap ((A : Int) - (B : Int)) = ((N % Y : Nat) : Int) := by
 have h1 := Nat.div_add_mod' N Y
 have h2 := Nat.mod_lt N hY
 rw [← hD] at h1
 rw [rT]
 generalize N % Y = R at *
 generalize D * Y = P at *
 congr 1
 omega
theorem AX (hi lo y : Nat) (hh : 0 < hi) (hy : hi < y) (hy2 : y < 9223372036854775808) (hlo : lo < 18446744073709551616) (w : World) :
  Calls Tryz.prog 82 #[.int .u64 hi, .int .u64 lo, .int .u64 y] w fun e w' => e = .returned (.tuple #[.int .u64 (((hi * 18446744073709551616 + lo) / y : Nat) : Int), .int .u64 (((hi * 18446744073709551616 + lo) % y : Nat) : Int)]) ∧ ∃ n, w' = w.drewN n := by
 obtain ⟨s, hs, hs1, hs2, QZ, hY2⟩ := wX y (by omega) hy2
 obtain ⟨hU, Na⟩ := Ia hi lo y s hs2 hs1 hy hlo hY2
 have hL := Ib lo s
 have hj := Dm hi lo y s _ _ _ hs2 rfl rfl rfl (by omega)
 have hY := CJ y s hY2
 have Rb : lo * 2 ^ s % 18446744073709551616 < 18446744073709551616 := Nat.mod_lt _ (by decide)
 obtain ⟨Y, eY⟩ : ∃ Y, y * 2 ^ s = Y := ⟨_, rfl⟩
 obtain ⟨U, eU⟩ : ∃ U, hi * 2 ^ s + lo / 2 ^ (64 - s) = U := ⟨_, rfl⟩
 obtain ⟨L, eL⟩ : ∃ L, lo * 2 ^ s % 18446744073709551616 = L := ⟨_, rfl⟩
 rw [eY] at QZ hY2 Na hY hj
 rw [eU] at hU Na hj
 rw [eL] at hL hj Rb
 have Ls : Y / 4294967296 * 4294967296 + Y % 4294967296 = Y := by omega
 have hm := mask32 Y hY2
 have hml := mask32 L Rb
 obtain ⟨Y1, T_⟩ : ∃ Y1, Y / 4294967296 = Y1 := ⟨_, rfl⟩
 obtain ⟨Y0, Rj⟩ : ∃ Y0, Y % 4294967296 = Y0 := ⟨_, rfl⟩
 obtain ⟨L1, Ua⟩ : ∃ L1, L / 4294967296 = L1 := ⟨_, rfl⟩
 obtain ⟨L0, Ub⟩ : ∃ L0, L % 4294967296 = L0 := ⟨_, rfl⟩
 rw [T_, Rj] at Ls
 rw [Rj] at hm
 rw [Ub] at hml hj
 rw [Ua] at hj
 have b1 : L1 < 4294967296 := by omega
 have b0 : L0 < 4294967296 := by omega
 obtain ⟨R1, OV⟩ : ∃ R1, (U * 4294967296 + L1) % Y = R1 := ⟨_, rfl⟩
 have og : R1 < Y := by rw [← OV]; exact Nat.mod_lt _ (by omega)
 rw [OV] at hj
 obtain ⟨D1, Nj⟩ : ∃ D1, qc Y U L1 = D1 := ⟨_, rfl⟩
 obtain ⟨D0, Nk⟩ : ∃ D0, qc Y R1 L0 = D0 := ⟨_, rfl⟩
 rw [Nj, Nk] at hj
 have hD1 : D1 < 4294967296 := by rw [← Nj]; exact xZ Na b1
 have hD0 : D0 < 4294967296 := by rw [← Nk]; exact xZ og b0
 have e1 := est U Y1 (by omega)
 have e2 := est R1 Y1 (by omega)
 have r1 := Ct D1 Y (U * 4294967296 + L1) ((U * 4294967296 % 18446744073709551616 + L1) % 18446744073709551616) (D1 * Y % 18446744073709551616) (by rw [← Nj]; rfl) (by omega) hY2 (by omega) (by omega)
 have r2 := Ct D0 Y (R1 * 4294967296 + L0) ((R1 * 4294967296 % 18446744073709551616 + L0) % 18446744073709551616) (D0 * Y % 18446744073709551616) (by rw [← Nk]; rfl) (by omega) hY2 (by omega) (by omega)
 rw [OV] at r1
 refine (xY hi lo y s hs hs1 hs2 hh hy hy2 hlo Y Y1 Y0 U L L1 L0 _ _ _ D1 _ _ _ R1 _ _ _ D0 _ _ _ _ _ _ hY (by omega) hm hU hL (by omega) hml
  (kW U Y1 (by omega)) e1.1 e1.2 (ko _) (iC _ _) (fJ _ _) r1 (kW R1 Y1 (by omega)) e2.1 e2.2 (ko _) (iC _ _) (ko _) (iC _ _) (fJ _ _) r2
  (by omega) (by omega) (by omega) b1 b0 (by rw [Ls]; exact Na) (by rw [Ls]; exact Nj.symm) (by rw [Ls]; exact og) (by rw [Ls]; exact Nk.symm)
  (pq (by omega) (by omega) b1) (pq (by omega) (by omega) b0) w).mono ?_
 rintro e w' ⟨rfl, hw⟩
 refine ⟨?_, hw⟩
 rw [hj.1, ← hj.2]
 have q1 : (D1 * 4294967296 % 18446744073709551616 + D0) % 18446744073709551616 = D1 * 4294967296 + D0 := by omega
 have q2 : (((hi * 18446744073709551616 + lo) % y * 2 ^ s : Nat) : Int) / 2 ^ s = (((hi * 18446744073709551616 + lo) % y : Nat) : Int) := by
  rw [gH, ← Int.natCast_ediv, Nat.mul_div_cancel _ (Nat.two_pow_pos _)]
 rw [q1, q2]
theorem rD (hi lo y : Int) (h0 : 0 ≤ hi) (hy : hi < y) (hy2 : y < 9223372036854775808) (hl0 : 0 ≤ lo) (hlo : lo < 18446744073709551616) (w : World) :
  Calls Tryz.prog 82 #[.int .u64 hi, .int .u64 lo, .int .u64 y] w fun e w' => e = .returned (.tuple #[.int .u64 ((hi * 18446744073709551616 + lo) / y), .int .u64 ((hi * 18446744073709551616 + lo) % y)]) ∧ ∃ n, w' = w.drewN n := by
 obtain ⟨a, rfl⟩ := Int.eq_ofNat_of_zero_le h0
 obtain ⟨b, rfl⟩ := Int.eq_ofNat_of_zero_le hl0
 obtain ⟨c, rfl⟩ := Int.eq_ofNat_of_zero_le (show 0 ≤ y by omega)
 by_cases ha : a = 0
 ·
  subst ha
  refine (vE b c (by omega) (by omega) (by omega) w).mono ?_
  rintro e w' ⟨rfl, hw⟩
  refine ⟨?_, hw⟩
  simp
 ·
  refine (AX a b c (by omega) (by omega) (by omega) (by omega) w).mono ?_
  rintro e w' ⟨rfl, hw⟩
  refine ⟨?_, hw⟩
  simp
theorem qW (x y hi lo : Int) (hx0 : 0 ≤ x) (hx : x < 18446744073709551616) (hy0 : 0 ≤ y) (hy : y < 18446744073709551616)
  (hhi : Hid (x * y / 18446744073709551616 = hi)) (hlo : Hid (x * y % 18446744073709551616 = lo)) (w : World) :
  Calls Tryz.prog 81 #[.int .u64 x, .int .u64 y] w fun e w' => e = .returned (.tuple #[.int .u64 hi, .int .u64 lo]) ∧ w = w' := by
 obtain ⟨a, rfl⟩ := Int.eq_ofNat_of_zero_le hx0
 obtain ⟨b, rfl⟩ := Int.eq_ofNat_of_zero_le hy0
 refine (Tryz.bits_Mul64 a b (by omega) (by omega) w).mono ?_
 rintro e w' ⟨rfl, rfl⟩
 rw [← hhi.out, ← hlo.out]
 refine ⟨?_, rfl⟩
 simp
theorem CO {a b m : Int} (ha0 : 0 ≤ a) (hb0 : 0 ≤ b) (hb : b < m) (ha : a < 18446744073709551616) : 0 ≤ a * b / 18446744073709551616 ∧ a * b / 18446744073709551616 < m := by
 have h0 : 0 ≤ a * b := Int.mul_nonneg ha0 hb0
 have h1 : a * b ≤ 18446744073709551616 * b := Int.mul_le_mul_of_nonneg_right (by omega) hb0
 omega
theorem Dl (a b m : Int) : a * b / 18446744073709551616 * 18446744073709551616 + a * b % 18446744073709551616 = a * b := by omega
theorem nY (a b m : Int) (ha0 : 0 ≤ a) (ha : a < m) (hb0 : 0 ≤ b) (hb : b < m) (hm : m < 9223372036854775808) (w : World) :
  Calls Tryz.prog 51 #[.int .i64 a, .int .i64 b, .int .i64 m] w fun e w' => e = .returned (.int .i64 (a * b % m)) ∧ ∃ n, w' = w.drewN n := by
 have h1 := CO ha0 hb0 hb (by omega)
 have h2 := Dl a b m
 have h3 : 0 ≤ a * b % m := Int.emod_nonneg _ (by omega)
 have h4 : a * b % m < m := Int.emod_lt_of_pos _ (by omega)
 obtain ⟨hi, hhi⟩ : ∃ hi, a * b / 18446744073709551616 = hi := ⟨_, rfl⟩
 obtain ⟨lo, hlo⟩ : ∃ lo, a * b % 18446744073709551616 = lo := ⟨_, rfl⟩
 have h5 : 0 ≤ lo ∧ lo < 18446744073709551616 := by omega
 obtain ⟨r, hr⟩ : ∃ r, a * b % m = r := ⟨_, rfl⟩
 rw [hr] at h3 h4 ⊢
 rw [hhi] at h1 h2
 rw [hlo] at h2
 rw [← h2] at hr
 obtain ⟨h10, h11⟩ := h1
 obtain ⟨h50, OT⟩ := h5
 have P5 := aa hhi
 have PN := aa hlo
 have HR := aa hr
 clear hhi hlo hr h2
 go_in
 go_wp2_with fail
 refine (qW a b hi lo (by omega) (by omega) (by omega) (by omega) P5 PN _).mono ?_
 rintro e w' ⟨rfl, rfl⟩
 go_wp2_with fail
 refine (rD hi lo m h10 h11 hm h50 OT _).mono ?_
 rintro e w' ⟨rfl, n, rfl⟩
 rw [HR.out]
 go_wp2
 go_ret
 exact ⟨rfl, n, rfl⟩
def Ba (a b m : Int) : Int := if m < 1 ∨ 2305843009213693952 ≤ m then 1 else if (0 ≤ a ∧ a < m) ∧ (0 ≤ b ∧ b < m) then 0 else 2
theorem qP (a m : Int) (h0 : 0 ≤ a) (h1 : a < m) (w : World) :
  Calls Tryz.prog 80 #[.int .i64 a, .int .i64 m] w fun e w' => e = .returned (.bool true) ∧ w = w' := by
 go_in
 go_wp2
 go_ret
 exact ⟨rfl, rfl⟩
theorem qQ (a m : Int) (h : ¬ (0 ≤ a ∧ a < m)) (w : World) :
  Calls Tryz.prog 80 #[.int .i64 a, .int .i64 m] w fun e w' => e = .returned (.bool false) ∧ w = w' := by
 by_cases h0 : 0 ≤ a
 ·
  have h1 : decide (a < m) = false := by simp; omega
  clear h
  go_in
  go_wp2
  go_ret
  exact ⟨rfl, rfl⟩
 ·
  clear h
  go_in
  go_wp2
  go_ret
  exact ⟨rfl, rfl⟩
theorem dU (a b m : Int) (w : World) :
  Calls Tryz.prog 50 #[.int .i64 a, .int .i64 b, .int .i64 m] w fun e w' => e = .returned (.int .i64 (Ba a b m)) ∧ w = w' := by
 by_cases hm : m < 1
 ·
  have hfin : Ba a b m = 1 := by simp [Ba, hm]
  rw [hfin]
  clear hfin
  go_in
  go_wp2
  go_ret
  exact ⟨rfl, rfl⟩
 by_cases hm2 : 2305843009213693952 ≤ m
 ·
  have hfin : Ba a b m = 1 := by simp [Ba, hm2]
  rw [hfin]
  clear hfin
  go_in
  go_wp2
  go_ret
  exact ⟨rfl, rfl⟩
 by_cases ha : 0 ≤ a ∧ a < m
 ·
  by_cases hb : 0 ≤ b ∧ b < m
  ·
   have hfin : Ba a b m = 0 := by simp [Ba, hm, hm2, ha, hb]
   rw [hfin]
   obtain ⟨ha0, ha1⟩ := ha
   obtain ⟨hb0, hb1⟩ := hb
   clear hfin
   go_in
   go_wp2_with (first | (go_at_call 80; refine (qP _ _ (by assumption) (by assumption) _).mono ?_; rintro e w' ⟨rfl, rfl⟩))
   go_ret
   exact ⟨rfl, rfl⟩
  ·
   have hfin : Ba a b m = 2 := by simp [Ba, hm, hm2]; omega
   rw [hfin]
   obtain ⟨ha0, ha1⟩ := ha
   clear hfin
   go_in
   go_wp2_with fail
   refine (qP _ _ ha0 ha1 _).mono ?_; rintro e w' ⟨rfl, rfl⟩
   go_wp2_with fail
   refine (qQ _ _ hb _).mono ?_; rintro e w' ⟨rfl, rfl⟩
   go_wp2
   go_ret
   exact ⟨rfl, rfl⟩
 ·
  have hfin : Ba a b m = 2 := by simp [Ba, hm, hm2]; omega
  rw [hfin]
  clear hfin
  go_in
  go_wp2_with fail
  refine (qQ _ _ ha _).mono ?_; rintro e w' ⟨rfl, rfl⟩
  go_wp2
  go_ret
  exact ⟨rfl, rfl⟩
namespace ou
theorem oO (a m : Int) (k : Nat) : (a % m) ^ k % m = a ^ k % m := by
 induction k with
 | zero => simp
 | succ n ih => rw [Int.pow_succ, Int.pow_succ, Int.mul_emod, ih, Int.emod_emod_of_dvd _ (Int.dvd_refl m), ← Int.mul_emod]
theorem su (x a m : Int) (k : Nat) : (x % m) * (a % m) ^ k % m = x * a ^ k % m := by
 rw [Int.mul_emod, oO, Int.emod_emod_of_dvd _ (Int.dvd_refl m), ← Int.mul_emod]
theorem qp (x a m : Int) (k : Nat) : x * (a % m) ^ k % m = x * a ^ k % m := by
 rw [Int.mul_emod, oO, ← Int.mul_emod]
theorem nu (a : Int) (k : Nat) : (a * a) ^ k = a ^ (2 * k) := by
 rw [Int.pow_mul]; congr 1; rw [Int.pow_succ, Int.pow_succ, Int.pow_zero, Int.one_mul]
def pw (a e m : Int) : Int := a ^ e.toNat % m
theorem Cy (a e m : Int) (h : 0 < m) : 0 ≤ pw a e m ∧ pw a e m < m := ⟨Int.emod_nonneg _ (by omega), Int.emod_lt_of_pos _ h⟩
def bI (a e m a' e' x' : Int) : Prop := x' * a' ^ e'.toNat % m = pw a e m
theorem iG (a e m : Int) : bI a e m a e (1 % m) := by
 unfold bI pw
 rw [Int.mul_emod, Int.emod_emod_of_dvd _ (Int.dvd_refl m), ← Int.mul_emod, Int.one_mul]
theorem kz {a e m a' e' x' k : Int} (h : bI a e m a' e' x') (he : e' = 2 * k + 1) (hk : 0 ≤ k) : bI a e m (a' * a' % m) k (x' * a' % m) := by
 unfold bI at *
 rw [su, nu, ← h]
 have : e'.toNat = 2 * k.toNat + 1 := by omega
 rw [this, Int.pow_succ, Int.mul_assoc, Int.mul_comm a']
theorem jk {a e m a' e' x' k : Int} (h : bI a e m a' e' x') (he : e' = 2 * k) (hk : 0 ≤ k) : bI a e m (a' * a' % m) k x' := by
 unfold bI at *
 rw [qp, nu, ← h]
 have : e'.toNat = 2 * k.toNat := by omega
 rw [this]
theorem jl {a e m a' x' : Int} (h : bI a e m a' 0 x') (h0 : 0 ≤ x') (h1 : x' < m) : x' = pw a e m := by
 unfold bI at h
 rw [← h]
 simp
 rw [Int.emod_eq_of_lt h0 h1]
theorem uY (e : Int) (h : 0 ≤ e) (h2 : e < 9223372036854775808) : bits .and .i64 e 1 = e % 2 := by
 obtain ⟨n, rfl⟩ := Int.eq_ofNat_of_zero_le h
 have h1 : (BitVec.ofInt 64 (n : Int)).toNat = n := by
  rw [BitVec.ofInt_natCast, BitVec.toNat_ofNat]; exact Nat.mod_eq_of_lt (by omega)
 show IntKind.i64.wrap ((BitVec.ofInt 64 (n : Int) &&& BitVec.ofInt 64 (1 : Int)).toNat : Int) = _
 rw [BitVec.toNat_and, h1, show (BitVec.ofInt 64 (1 : Int)).toNat = 1 from rfl, Nat.and_one_is_mod, IntKind.wrap_i64]
 omega
theorem u64_and1 (e : Int) (h : 0 ≤ e) (h2 : e < 18446744073709551616) : bits .and .u64 e 1 = e % 2 := by
 obtain ⟨n, rfl⟩ := Int.eq_ofNat_of_zero_le h
 have := bits_and_u64_nat n 1 (by omega) (by decide)
 rw [show ((1 : Nat) : Int) = (1 : Int) from rfl] at this
 rw [this, Nat.and_one_is_mod]
 omega
end ou
open Go.RowKit ou
theorem mU {a b m : Int} (h1 : 1 ≤ m) (h2 : m < 2305843009213693952) (ha0 : 0 ≤ a) (ha : a < m) (hb0 : 0 ≤ b) (hb : b < m) : Ba a b m = 0 := by
 simp [Ba]; omega
theorem sP (a b m : Int) (h2 : m < 2305843009213693952) (ha0 : 0 ≤ a) (ha : a < m) (hb0 : 0 ≤ b) (hb : b < m) (w : World) :
  Calls Tryz.prog 60 #[.int .i64 a, .int .i64 b, .int .i64 m] w fun e w' => e = .returned (.tuple #[.int .i64 ((a + b) % m), .int .i64 0]) ∧ w = w' := by
 have hc := aa (mU (by omega) h2 ha0 ha hb0 hb)
 have hm : ((m : Int) == 0) = false := by simp; omega
 go_in
 go_wp2_with (go_at_call 50; refine (dU _ _ _ _).mono ?_; rintro e w' ⟨rfl, rfl⟩; rw [hc.out])
 go_ret2
 exact ⟨rfl, rfl⟩
theorem BP (a b m : Int) (h2 : m < 2305843009213693952) (ha0 : 0 ≤ a) (ha : a < m) (hb0 : 0 ≤ b) (hb : b < m) (w : World) :
  Calls Tryz.prog 29 #[.int .i64 a, .int .i64 b, .int .i64 m] w fun e w' => e = .returned (.tuple #[.int .i64 ((a - b + m) % m), .int .i64 0]) ∧ w = w' := by
 have hc := aa (mU (by omega) h2 ha0 ha hb0 hb)
 have hm : ((m : Int) == 0) = false := by simp; omega
 go_in
 go_wp2_with (go_at_call 50; refine (dU _ _ _ _).mono ?_; rintro e w' ⟨rfl, rfl⟩; rw [hc.out])
 go_ret2
 exact ⟨rfl, rfl⟩
theorem zg (a b m : Int) (h2 : m < 2305843009213693952) (ha0 : 0 ≤ a) (ha : a < m) (hb0 : 0 ≤ b) (hb : b < m) (w : World) :
  Calls Tryz.prog 28 #[.int .i64 a, .int .i64 b, .int .i64 m] w fun e w' => e = .returned (.tuple #[.int .i64 (a * b % m), .int .i64 0]) ∧ ∃ n, w' = w.drewN n := by
 have hc := aa (mU (by omega) h2 ha0 ha hb0 hb)
 go_in
 go_wp2_with (go_at_call 50; refine (dU _ _ _ _).mono ?_; rintro e w' ⟨rfl, rfl⟩; rw [hc.out])
 refine (nY _ _ _ ha0 ha hb0 hb (by omega) _).mono ?_
 rintro e w' ⟨rfl, n, rfl⟩
 go_wp2
 go_ret2
 exact ⟨rfl, n, rfl⟩
theorem xu (a e m : Int) (h1 : 1 ≤ m) (h2 : m < 2305843009213693952) (ha0 : 0 ≤ a) (ha : a < m) (he0 : 0 ≤ e) (he : e < 9223372036854775808) (w : World) :
  Calls Tryz.prog 66 #[.int .i64 a, .int .i64 e, .int .i64 m] w fun e' w' => e' = .returned (.tuple #[.int .i64 (pw a e m), .int .i64 0]) ∧ ∃ n, w' = w.drewN n := by
 have hc := aa (mU (by omega) h2 ha0 ha ha0 ha)
 have hm : ((m : Int) == 0) = false := by simp; omega
 have hlt : decide (e < 0) = false := by simp; omega
 have hx1 : Hid (0 ≤ 1 % m ∧ 1 % m < m) := ⟨Int.emod_nonneg _ (by omega), Int.emod_lt_of_pos _ (by omega)⟩
 have HS : Hid (bI a e m a e (1 % m)) := iG a e m
 go_in
 go_wp2_with (go_at_call 50; refine (dU _ _ _ _).mono ?_; rintro e w' ⟨rfl, rfl⟩; rw [hc.out])
 go_loopw [0, 1, 9] (fun u v t wr => ∃ a' e' x' : Int, u = .int .i64 a' ∧ v = .int .i64 e' ∧ t = .int .i64 x' ∧ 0 ≤ a' ∧ a' < m ∧ 0 ≤ e' ∧ e' < 9223372036854775808 ∧ 0 ≤ x' ∧ x' < m ∧ Hid (bI a e m a' e' x') ∧ ∃ n, wr = w.drewN n) (fun _ v _ _ => (intOf v).toNat)
 case atStart => exact ⟨a, e, 1 % m, rfl, rfl, rfl, ha0, ha, he0, he, hx1.out.1, hx1.out.2, HS, 0, rfl⟩
 case round =>
  obtain ⟨a', e', x', rfl, rfl, rfl, iZ, ha', FC, he', hx0', hx', HR, n, rfl⟩ := hrel
  by_cases h0 : e' = 0
  ·
   subst h0
   obtain rfl := jl HR.out hx0' hx'
   clear HR hx0' hx'
   go_wp2
   go_ret2
   exact ⟨rfl, n, rfl⟩
  ·
   have hpos : decide (0 < e') = true := by simp; omega
   have Od : 1 ≤ e' := by omega
   have hand := uY e' FC he'
   have hq0 : 0 ≤ a' * a' % m := Int.emod_nonneg _ (by omega)
   have hq1 : a' * a' % m < m := Int.emod_lt_of_pos _ (by omega)
   by_cases ho : e' % 2 = 1
   ·
    have hand1 : bits .and .i64 e' 1 = 1 := by rw [hand, ho]
    have hp0 : 0 ≤ x' * a' % m := Int.emod_nonneg _ (by omega)
    have hp1 : x' * a' % m < m := Int.emod_lt_of_pos _ (by omega)
    have HN : Hid (bI a e m (a' * a' % m) (e' / 2) (x' * a' % m)) := kz HR.out (by omega) (by omega)
    obtain ⟨q, hq⟩ : ∃ q, a' * a' % m = q := ⟨_, rfl⟩
    obtain ⟨p, hp⟩ : ∃ p, x' * a' % m = p := ⟨_, rfl⟩
    rw [hq] at hq0 hq1 HN
    rw [hp] at hp0 hp1 HN
    have HQ := aa hq
    have HP := aa hp
    clear hq hp hand ho h0
    go_wp2_with fail
    refine (nY _ _ _ hx0' hx' iZ ha' (by omega) _).mono ?_
    rintro e w' ⟨rfl, n1, rfl⟩
    rw [HP.out]
    go_wp2_with fail
    refine (nY _ _ _ iZ ha' iZ ha' (by omega) _).mono ?_
    rintro e w' ⟨rfl, n2, rfl⟩
    rw [HQ.out]
    go_wp2
    go_roundw
    case rel => exact ⟨q, e' / 2, p, rfl, rfl, rfl, hq0, hq1, by omega, by omega, hp0, hp1, HN, _, rfl⟩
    case measure => simp [intOf]; omega
   ·
    have hand1 : bits .and .i64 e' 1 = 0 := by rw [hand]; omega
    have HN : Hid (bI a e m (a' * a' % m) (e' / 2) x') := jk HR.out (by omega) (by omega)
    obtain ⟨q, hq⟩ : ∃ q, a' * a' % m = q := ⟨_, rfl⟩
    rw [hq] at hq0 hq1 HN
    have HQ := aa hq
    clear hq hand ho h0
    go_wp2_with fail
    refine (nY _ _ _ iZ ha' iZ ha' (by omega) _).mono ?_
    rintro e w' ⟨rfl, n2, rfl⟩
    rw [HQ.out]
    go_wp2
    go_roundw
    case rel => exact ⟨q, e' / 2, x', rfl, rfl, rfl, hq0, hq1, by omega, by omega, hx0', hx', HN, _, rfl⟩
    case measure => simp [intOf]; omega
namespace ou
def jr : List Int := [2, 3, 5, 7, 11, 13, 17, 19, 23, 29, 31, 37]
def bs (k : Nat) : Int := jr.getD k 0
def aU (n : Int) : List Int → Option Bool
 | [] => none
 | p :: ps => if n % p = 0 then some (decide (n = p)) else aU n ps
def sq (n : Int) : Nat → Int → Bool
 | 0, _ => true
 | k + 1, x => if x * x % n = n - 1 then false else sq n k (x * x % n)
def comp (a n d : Int) (s : Nat) : Bool :=
 if pw a d n = 1 ∨ pw a d n = n - 1 then false else sq n (s - 1) (pw a d n)
def cO (n d : Int) (s : Nat) : List Int → Bool
 | [] => true
 | a :: l => if comp a n d s = true then false else cO n d s l
def iD (n : Int) : Nat := Lib.ctz 64 (n - 1).toNat
def nR (n : Int) : Int := (n - 1) / 2 ^ iD n
def iX (n : Int) : Bool :=
 if n < 2 then false else match aU n jr with
  | some b => b
  | none => cO n (nR n) (iD n) jr
theorem sM : ∀ k, k < 12 → 2 ≤ bs k ∧ bs k ≤ 37 := by decide
theorem oo : ∀ k, k < 12 → jr.drop k = bs k :: jr.drop (k + 1) := by decide
theorem lY (n : Int) (k : Nat) (hk : k < 12) (h : n % bs k ≠ 0) : aU n (jr.drop k) = aU n (jr.drop (k + 1)) := by
 rw [oo k hk, aU, if_neg h]
theorem jD (n : Int) (k : Nat) (hk : k < 12) (h : n % bs k = 0) : aU n (jr.drop k) = some (decide (n = bs k)) := by
 rw [oo k hk, aU, if_pos h]
theorem l_ (n d : Int) (s k : Nat) (hk : k < 12) (h : comp (bs k) n d s = false) : cO n d s (jr.drop k) = cO n d s (jr.drop (k + 1)) := by
 rw [oo k hk, cO, if_neg (by simp [h])]
theorem nL (n d : Int) (s k : Nat) (hk : k < 12) (h : comp (bs k) n d s = true) : cO n d s (jr.drop k) = false := by
 rw [oo k hk, cO, if_pos h]
theorem Ai : ∀ n : Nat, n < 41 → 2 ≤ n → aU (n : Int) jr ≠ none := by decide
theorem uO {n : Int} (h2 : 2 ≤ n) (h : aU n jr = none) : 41 ≤ n := by
 by_cases hn : n < 41
 ·
  obtain ⟨m, rfl⟩ := Int.eq_ofNat_of_zero_le (show 0 ≤ n by omega)
  exact absurd h (Ai m (by omega) (by omega))
 · omega
theorem uM {n : Int} (h : aU n jr = none) : n % 2 = 1 := by
 by_cases h0 : n % 2 = 0
 ·
  have : aU n jr = some (decide (n = 2)) := by
   show aU n (jr.drop 0) = _
   rw [jD n 0 (by decide) (by show n % 2 = 0; exact h0)]
   rfl
  rw [this] at h; exact absurd h (by simp)
 · omega
theorem zH {n : Int} (h : iX n = true) : 2 ≤ n := by
 unfold iX at h
 by_cases h2 : n < 2
 · rw [if_pos h2] at h; exact absurd h (by decide)
 · omega
theorem qN {n : Int} (h2 : 2 ≤ n) (hn : n < 9223372036854775808) : iD n < 64 ∧ ∃ m : Int, 0 ≤ m ∧ n - 1 = 2 ^ iD n * (2 * m + 1) ∧ nR n = 2 * m + 1 := by
 obtain ⟨x, hx⟩ : ∃ x : Nat, (n - 1).toNat = x := ⟨_, rfl⟩
 have hn1 : n - 1 = (x : Int) := by omega
 obtain ⟨m, hm, hk⟩ := Lib.ctzFrom_spec 64 x (by omega) (by omega)
 have e : Lib.ctz 64 x = Lib.ctzFrom 64 x := by unfold Lib.ctz; rw [if_neg (by omega)]
 unfold nR iD
 rw [hx, e, hn1]
 obtain ⟨c, hc⟩ : ∃ c, Lib.ctzFrom 64 x = c := ⟨_, rfl⟩
 rw [hc] at hm hk ⊢
 have hm2 : (x : Int) = 2 ^ c * (2 * (m : Int) + 1) := by rw [hm]; simp
 refine ⟨hk, (m : Int), by omega, hm2, ?_⟩
 have hp : (0 : Int) < 2 ^ c := Int.pow_pos (by decide)
 rw [hm2, Int.mul_ediv_cancel_left _ (Int.ne_of_gt hp)]
end ou
open Go.RowKit ou
theorem jm (a b m : Int) (ha0 : 0 ≤ a) (ha : a < m) (hb0 : 0 ≤ b) (hb : b < m) (hm : m < 9223372036854775808) (w : World) :
  Calls Tryz.prog 117 #[.int .u64 a, .int .u64 b, .int .u64 m] w fun e w' => e = .returned (.int .u64 (a * b % m)) ∧ ∃ n, w' = w.drewN n := by
 have h1 := CO ha0 hb0 hb (by omega)
 have h2 := Dl a b m
 obtain ⟨hi, hhi⟩ : ∃ hi, a * b / 18446744073709551616 = hi := ⟨_, rfl⟩
 obtain ⟨lo, hlo⟩ : ∃ lo, a * b % 18446744073709551616 = lo := ⟨_, rfl⟩
 have h5 : 0 ≤ lo ∧ lo < 18446744073709551616 := by omega
 obtain ⟨r, hr⟩ : ∃ r, a * b % m = r := ⟨_, rfl⟩
 rw [hr]
 rw [hhi] at h1 h2
 rw [hlo] at h2
 rw [← h2] at hr
 obtain ⟨h10, h11⟩ := h1
 obtain ⟨h50, OT⟩ := h5
 have P5 := aa hhi
 have PN := aa hlo
 have HR := aa hr
 clear hhi hlo hr h2
 go_in
 go_wp2_with fail
 refine (qW a b hi lo (by omega) (by omega) (by omega) (by omega) P5 PN _).mono ?_
 rintro e w' ⟨rfl, rfl⟩
 go_wp2_with fail
 refine (rD hi lo m h10 h11 hm h50 OT _).mono ?_
 rintro e w' ⟨rfl, n, rfl⟩
 rw [HR.out]
 go_wp2
 go_ret
 exact ⟨rfl, n, rfl⟩
theorem r9 (a e m : Int) (h1 : 2 ≤ m) (h2 : m < 9223372036854775808) (ha0 : 0 ≤ a) (ha : a < m) (he0 : 0 ≤ e) (he : e < 9223372036854775808) (w : World) :
  Calls Tryz.prog 116 #[.int .u64 a, .int .u64 e, .int .u64 m] w fun e' w' => e' = .returned (.int .u64 (pw a e m)) ∧ ∃ n, w' = w.drewN n := by
 have HS : Hid (bI a e m a e 1) := by have h := iG a e m; rw [Int.emod_eq_of_lt (by decide) (by omega)] at h; exact h
 go_in
 go_wp2
 go_loopw [0, 1, 7] (fun u v t wr => ∃ a' e' x' : Int, u = .int .u64 a' ∧ v = .int .u64 e' ∧ t = .int .u64 x' ∧ 0 ≤ a' ∧ a' < m ∧ 0 ≤ e' ∧ e' < 9223372036854775808 ∧ 0 ≤ x' ∧ x' < m ∧ Hid (bI a e m a' e' x') ∧ ∃ n, wr = w.drewN n) (fun _ v _ _ => (intOf v).toNat)
 case atStart => exact ⟨a, e, 1, rfl, rfl, rfl, ha0, ha, he0, he, by decide, by omega, HS, 0, rfl⟩
 case round =>
  obtain ⟨a', e', x', rfl, rfl, rfl, iZ, ha', FC, he', hx0', hx', HR, n, rfl⟩ := hrel
  by_cases h0 : e' = 0
  ·
   subst h0
   obtain rfl := jl HR.out hx0' hx'
   clear HR hx0' hx'
   go_wp2
   go_ret
   exact ⟨rfl, n, rfl⟩
  ·
   have hpos : decide (0 < e') = true := by simp; omega
   have Od : 1 ≤ e' := by omega
   have hand := u64_and1 e' FC (by omega)
   have hq0 : 0 ≤ a' * a' % m := Int.emod_nonneg _ (by omega)
   have hq1 : a' * a' % m < m := Int.emod_lt_of_pos _ (by omega)
   by_cases ho : e' % 2 = 1
   ·
    have hand1 : bits .and .u64 e' 1 = 1 := by rw [hand, ho]
    have hp0 : 0 ≤ x' * a' % m := Int.emod_nonneg _ (by omega)
    have hp1 : x' * a' % m < m := Int.emod_lt_of_pos _ (by omega)
    have HN : Hid (bI a e m (a' * a' % m) (e' / 2) (x' * a' % m)) := kz HR.out (by omega) (by omega)
    obtain ⟨q, hq⟩ : ∃ q, a' * a' % m = q := ⟨_, rfl⟩
    obtain ⟨p, hp⟩ : ∃ p, x' * a' % m = p := ⟨_, rfl⟩
    rw [hq] at hq0 hq1 HN
    rw [hp] at hp0 hp1 HN
    have HQ := aa hq
    have HP := aa hp
    clear hq hp hand ho h0
    go_wp2_with fail
    refine (jm _ _ _ hx0' hx' iZ ha' (by omega) _).mono ?_
    rintro e w' ⟨rfl, n1, rfl⟩
    rw [HP.out]
    go_wp2_with fail
    refine (jm _ _ _ iZ ha' iZ ha' (by omega) _).mono ?_
    rintro e w' ⟨rfl, n2, rfl⟩
    rw [HQ.out]
    go_wp2
    go_roundw
    case rel => exact ⟨q, e' / 2, p, rfl, rfl, rfl, hq0, hq1, by omega, by omega, hp0, hp1, HN, _, rfl⟩
    case measure => simp [intOf]; omega
   ·
    have hand1 : bits .and .u64 e' 1 = 0 := by rw [hand]; omega
    have HN : Hid (bI a e m (a' * a' % m) (e' / 2) x') := jk HR.out (by omega) (by omega)
    obtain ⟨q, hq⟩ : ∃ q, a' * a' % m = q := ⟨_, rfl⟩
    rw [hq] at hq0 hq1 HN
    have HQ := aa hq
    clear hq hand ho h0
    go_wp2_with fail
    refine (jm _ _ _ iZ ha' iZ ha' (by omega) _).mono ?_
    rintro e w' ⟨rfl, n2, rfl⟩
    rw [HQ.out]
    go_wp2
    go_roundw
    case rel => exact ⟨q, e' / 2, x', rfl, rfl, rfl, hq0, hq1, by omega, by omega, hx0', hx', HN, _, rfl⟩
    case measure => simp [intOf]; omega
theorem l5 {a n d x : Int} {s : Nat} (hx : pw a d n = x) (h : x = 1 ∨ x = n - 1) : comp a n d s = false := by
 unfold comp; rw [hx, if_pos h]
theorem rE {a n d x : Int} {s : Nat} (hx : pw a d n = x) (h1 : x ≠ 1) (h2 : x ≠ n - 1) : comp a n d s = sq n (s - 1) x := by
 unfold comp; rw [hx, if_neg (by omega)]
theorem BR {n y z : Int} {j : Nat} (hj : 1 ≤ j) (hz : y * y % n = z) (h : z = n - 1) : sq n j y = false := by
 obtain ⟨i, rfl⟩ : ∃ i, j = i + 1 := ⟨j - 1, by omega⟩
 unfold sq; rw [hz, if_pos h]
theorem zm {n y z : Int} {j : Nat} (hj : 1 ≤ j) (hz : y * y % n = z) (h : z ≠ n - 1) : sq n j y = sq n (j - 1) z := by
 obtain ⟨i, rfl⟩ : ∃ i, j = i + 1 := ⟨j - 1, by omega⟩
 rw [sq, hz, if_neg h]; rfl
theorem j6 (a n d : Int) (s : Nat) (h1 : 2 ≤ n) (h2 : n < 9223372036854775808) (ha0 : 0 ≤ a) (ha : a < n) (he0 : 0 ≤ d) (he : d < 9223372036854775808) (hs1 : 1 ≤ s) (hs2 : s < 64) (c : Bool) (hc : Hid (comp a n d s = c)) (w : World) :
  Calls Tryz.prog 99 #[.int .u64 a, .int .u64 n, .int .u64 d, .int .i64 s] w fun e' w' => e' = .returned (.bool c) ∧ ∃ n, w' = w.drewN n := by
 have hb := Cy a d n (by omega)
 obtain ⟨x, hx⟩ : ∃ x, pw a d n = x := ⟨_, rfl⟩
 rw [hx] at hb
 obtain ⟨hb0, hb1⟩ := hb
 have HX := aa hx
 clear hx
 by_cases hx1 : x = 1
 ·
  subst hx1
  obtain rfl : c = false := by rw [← hc.out]; exact l5 HX.out (.inl rfl)
  go_in
  go_wp2_with fail
  refine (r9 a d n h1 h2 ha0 ha he0 he _).mono ?_
  rintro e w' ⟨rfl, m, rfl⟩
  rw [HX.out]
  go_wp2
  go_ret
  exact ⟨rfl, m, rfl⟩
 by_cases hx2 : x = n - 1
 ·
  have g1 : ((x : Int) == 1) = false := by simp [hx1]
  have g2 : ((x : Int) == n - 1) = true := by simp [hx2]
  obtain rfl : c = false := by rw [← hc.out]; exact l5 HX.out (.inr hx2)
  clear hx1 hx2
  go_in
  go_wp2_with fail
  refine (r9 a d n h1 h2 ha0 ha he0 he _).mono ?_
  rintro e w' ⟨rfl, m, rfl⟩
  rw [HX.out]
  go_wp2
  go_ret
  exact ⟨rfl, m, rfl⟩
 have g1 : ((x : Int) == 1) = false := by simp [hx1]
 have g2 : ((x : Int) == n - 1) = false := by simp [hx2]
 have HS : Hid (sq n (s - 1) x = c) := by rw [← hc.out]; exact (rE HX.out hx1 hx2).symm
 clear hx1 hx2
 go_in
 go_wp2_with fail
 refine (r9 a d n h1 h2 ha0 ha he0 he _).mono ?_
 rintro e w' ⟨rfl, m, rfl⟩
 rw [HX.out]
 go_wp2
 go_loopw [9, 24] (fun u v wr => ∃ (k : Nat) (y : Int), u = .int .u64 y ∧ v = .int .i64 k ∧ k + 1 ≤ s ∧ 0 ≤ y ∧ y < n ∧ Hid (sq n (s - 1 - k) y = c) ∧ ∃ n, wr = w.drewN n) (fun _ v _ => s - (intOf v).toNat)
 case atStart => exact ⟨0, x, rfl, rfl, hs1, hb0, hb1, HS, m, rfl⟩
 case round =>
  obtain ⟨k, y, rfl, rfl, hk, hy0, hy1, HR, m2, rfl⟩ := hrel
  by_cases hlt : k + 1 < s
  ·
   have hd : decide ((k : Int) < (s : Int) - 1) = true := by simp; omega
   have hz0 : 0 ≤ y * y % n := Int.emod_nonneg _ (by omega)
   have hz1 : y * y % n < n := Int.emod_lt_of_pos _ (by omega)
   obtain ⟨z, hz⟩ : ∃ z, y * y % n = z := ⟨_, rfl⟩
   rw [hz] at hz0 hz1
   have HZ := aa hz
   clear hz
   by_cases hzn : z = n - 1
   ·
    have g3 : ((z : Int) == n - 1) = true := by simp [hzn]
    obtain rfl : c = false := by rw [← HR.out]; exact BR (by omega) HZ.out hzn
    clear hzn
    go_wp2_with fail
    refine (jm _ _ _ hy0 hy1 hy0 hy1 h2 _).mono ?_
    rintro e w' ⟨rfl, m3, rfl⟩
    rw [HZ.out]
    go_wp2
    go_ret
    exact ⟨rfl, _, rfl⟩
   ·
    have g3 : ((z : Int) == n - 1) = false := by simp [hzn]
    have HN : Hid (sq n (s - 1 - (k + 1)) z = c) := by rw [← HR.out, zm (j := s - 1 - k) (by omega) HZ.out hzn]; rfl
    clear hzn
    go_wp2_with fail
    refine (jm _ _ _ hy0 hy1 hy0 hy1 h2 _).mono ?_
    rintro e w' ⟨rfl, m3, rfl⟩
    rw [HZ.out]
    go_wp2
    go_roundw
    case rel => exact ⟨k + 1, z, rfl, by go_num, by omega, hz0, hz1, HN, _, rfl⟩
    case measure => simp [intOf]; omega
  ·
   have hd : decide ((k : Int) < (s : Int) - 1) = false := by simp; omega
   obtain rfl : c = true := by rw [← HR.out, show s - 1 - k = 0 from by omega]; rfl
   go_wp2
   go_ret
   exact ⟨rfl, _, rfl⟩
def Vars (w : World) : Prop := (∀ k, k < 12 → w.cell? ⟨0, k, none⟩ = some (.int .u64 (bs k))) ∧ TabAt 3 Lib.deBruijn64tab w
theorem Ih (n : Int) (h : n < 2) (w : World) :
  Calls Tryz.prog 75 #[.int .i64 n] w fun e' w' => e' = .returned (.bool (iX n)) ∧ ∃ n, w' = w.drewN n := by
 have hf : iX n = false := by unfold iX; rw [if_pos h]
 rw [hf]
 clear hf
 go_in
 go_wp2
 go_ret
 exact ⟨rfl, 0, rfl⟩
theorem q9 : ∀ k : Nat, k < 12 → ∀ w, (Instr.index 132 (.agg #[.int .u64 2, .int .u64 3, .int .u64 5, .int .u64 7, .int .u64 11, .int .u64 13, .int .u64 17, .int .u64 19, .int .u64 23, .int .u64 29, .int .u64 31, .int .u64 37]) (.int .i64 (k : Int))).run Tryz.prog w = .ok (.int .u64 (bs k)) w
 | 0, _ => fun w => by kernel_rfl
 | 1, _ => fun w => by kernel_rfl
 | 2, _ => fun w => by kernel_rfl
 | 3, _ => fun w => by kernel_rfl
 | 4, _ => fun w => by kernel_rfl
 | 5, _ => fun w => by kernel_rfl
 | 6, _ => fun w => by kernel_rfl
 | 7, _ => fun w => by kernel_rfl
 | 8, _ => fun w => by kernel_rfl
 | 9, _ => fun w => by kernel_rfl
 | 10, _ => fun w => by kernel_rfl
 | 11, _ => fun w => by kernel_rfl
 | k + 12, h => absurd h (by omega)
theorem Hr (n : Int) (h : 2 ≤ n) (h2 : n < 9223372036854775808) (s : Nat) (hs : Hid (iD n = s)) (w : World) (hv : Vars w) :
  Calls Tryz.prog 98 #[.int .u64 (n - 1)] w fun e' w' => e' = .returned (.int .i64 s) ∧ w = w' := by
 obtain ⟨x, hx⟩ := Int.eq_ofNat_of_zero_le (show 0 ≤ n - 1 by omega)
 rw [hx]
 refine (Tryz.bits_TrailingZeros64 x (by omega) w (fun _ => hv.2)).mono ?_
 rintro e w' ⟨rfl, rfl⟩
 refine ⟨?_, rfl⟩
 rw [← hs.out]
 unfold iD
 rw [hx]; rfl
theorem uW {n : Int} {b : Bool} (h : 2 ≤ n) (hd : aU n jr = some b) : iX n = b := by
 unfold iX; rw [if_neg (by omega), hd]
theorem uX {n : Int} (h : 2 ≤ n) (hd : aU n jr = none) : iX n = cO n (nR n) (iD n) jr := by
 unfold iX; rw [if_neg (by omega), hd]
theorem Ii (n : Int) (h : 2 ≤ n) (h2 : n < 9223372036854775808) (b : Bool) (hb : Hid (iX n = b)) (w : World) (hv : Vars w) :
  Calls Tryz.prog 75 #[.int .i64 n] w fun e' w' => e' = .returned (.bool b) ∧ ∃ n, w' = w.drewN n := by
 have c0 : w.cell? ⟨0, 0, none⟩ = some (.int .u64 2) := hv.1 0 (by decide)
 have c1 : w.cell? ⟨0, 1, none⟩ = some (.int .u64 3) := hv.1 1 (by decide)
 have c2 : w.cell? ⟨0, 2, none⟩ = some (.int .u64 5) := hv.1 2 (by decide)
 have c3 : w.cell? ⟨0, 3, none⟩ = some (.int .u64 7) := hv.1 3 (by decide)
 have c4 : w.cell? ⟨0, 4, none⟩ = some (.int .u64 11) := hv.1 4 (by decide)
 have c5 : w.cell? ⟨0, 5, none⟩ = some (.int .u64 13) := hv.1 5 (by decide)
 have c6 : w.cell? ⟨0, 6, none⟩ = some (.int .u64 17) := hv.1 6 (by decide)
 have c7 : w.cell? ⟨0, 7, none⟩ = some (.int .u64 19) := hv.1 7 (by decide)
 have c8 : w.cell? ⟨0, 8, none⟩ = some (.int .u64 23) := hv.1 8 (by decide)
 have c9 : w.cell? ⟨0, 9, none⟩ = some (.int .u64 29) := hv.1 9 (by decide)
 have c10 : w.cell? ⟨0, 10, none⟩ = some (.int .u64 31) := hv.1 10 (by decide)
 have c11 : w.cell? ⟨0, 11, none⟩ = some (.int .u64 37) := hv.1 11 (by decide)
 go_in
 go_wp2
 go_loop [14] (fun i => ∃ k : Nat, k ≤ 12 ∧ i = .int .i64 k ∧ Hid (aU n jr = aU n (jr.drop k))) (fun i => 12 - (intOf i).toNat)
 case atStart => exact ⟨0, by omega, rfl, rfl⟩
 case round =>
  obtain ⟨k, hk, rfl, HR⟩ := hrel
  by_cases hlt : k < 12
  ·
   have hi := q9 k hlt
   have hbp := sM k hlt
   by_cases hz : n % bs k = 0
   ·
    have HD := aa (HR.out.trans (jD n k hlt hz))
    obtain ⟨p, hp⟩ : ∃ p, bs k = p := ⟨_, rfl⟩
    rw [hp] at hi hbp hz HD
    clear hp
    have hz2 : ((n % p : Int) == 0) = true := by simp [hz]
    have hb2 : ((n : Int) == p) = b := by rw [← hb.out, uW h HD.out]; rfl
    obtain ⟨hb4, hb5⟩ := hbp
    clear hz HD HR
    go_wp2
    go_ret
    exact ⟨rfl, 0, rfl⟩
   ·
    have HD : Hid (aU n jr = aU n (jr.drop (k + 1))) := HR.out.trans (lY n k hlt hz)
    obtain ⟨p, hp⟩ : ∃ p, bs k = p := ⟨_, rfl⟩
    rw [hp] at hi hbp hz
    clear hp
    have hz2 : ((n % p : Int) == 0) = false := by simp [hz]
    obtain ⟨hb4, hb5⟩ := hbp
    clear hz
    go_wp2
    go_round
    case rel => exact ⟨k + 1, by omega, by go_num, HD⟩
    case measure => simp [intOf]; omega
  ·
   obtain rfl : k = 12 := by omega
   have hnone : aU n jr = none := HR.out
   have Oj := uO h hnone
   have hodd := uM hnone
   obtain ⟨ht1, m, hm0, hm1, hm2⟩ := qN h h2
   have HF : Hid (cO n (nR n) (iD n) jr = b) := by rw [← hb.out]; exact (uX h hnone).symm
   obtain ⟨s, hs⟩ : ∃ s, iD n = s := ⟨_, rfl⟩
   obtain ⟨d, hd⟩ : ∃ d, nR n = d := ⟨_, rfl⟩
   have hdd : (n - 1) / 2 ^ s = d := by rw [← hs]; exact hd
   have hs1 : 1 ≤ s := by
    cases s with
    | zero => rw [hs] at hm1; simp at hm1; omega
    | succ j => omega
   have hd0 : 0 ≤ d := by omega
   have hd1 : d < 9223372036854775808 := by
    rw [← hd, hm2]
    have : (1 : Int) ≤ 2 ^ iD n := by have : (0 : Int) < 2 ^ iD n := Int.pow_pos (by decide); omega
    have : 1 * (2 * m + 1) ≤ 2 ^ iD n * (2 * m + 1) := Int.mul_le_mul_of_nonneg_right this (by omega)
    omega
   rw [hs, hd] at HF
   rw [hs] at ht1
   have HS := aa hs
   clear hs hd hm1 hm2 hodd hnone HR hk
   go_wp2_with fail
   refine (Hr n h h2 s HS _ hv).mono ?_
   rintro e w' ⟨rfl, rfl⟩
   go_wp2
   go_loopw [29] (fun i wr => ∃ k : Nat, k ≤ 12 ∧ i = .int .i64 k ∧ Hid (cO n d s (jr.drop k) = b) ∧ ∃ n, wr = w.drewN n) (fun i _ => 12 - (intOf i).toNat)
   case atStart => exact ⟨0, by omega, rfl, HF, 0, rfl⟩
   case round =>
    obtain ⟨k, hk, rfl, HR, q, rfl⟩ := hrel
    by_cases hlt : k < 12
    ·
     have hi := q9 k hlt
     have hbp := sM k hlt
     cases hcc : comp (bs k) n d s with
     | true =>
      have HD := aa (HR.out.symm.trans (nL n d s k hlt hcc))
      obtain ⟨p, hp⟩ : ∃ p, bs k = p := ⟨_, rfl⟩
      rw [hp] at hi hbp hcc
      clear hp
      have HC := aa hcc
      obtain ⟨hb4, hb5⟩ := hbp
      obtain rfl : b = false := HD.out
      clear hcc HD HR
      go_wp2_with fail
      refine (j6 p n d s h h2 (by omega) (by omega) hd0 hd1 hs1 ht1 true HC _).mono ?_
      rintro e w' ⟨rfl, m3, rfl⟩
      go_wp2
      go_ret
      exact ⟨rfl, _, rfl⟩
     | false =>
      have HD : Hid (cO n d s (jr.drop (k + 1)) = b) := (l_ n d s k hlt hcc).symm.trans HR.out
      obtain ⟨p, hp⟩ : ∃ p, bs k = p := ⟨_, rfl⟩
      rw [hp] at hi hbp hcc
      clear hp
      have HC := aa hcc
      obtain ⟨hb4, hb5⟩ := hbp
      clear hcc HR
      go_wp2_with fail
      refine (j6 p n d s h h2 (by omega) (by omega) hd0 hd1 hs1 ht1 false HC _).mono ?_
      rintro e w' ⟨rfl, m3, rfl⟩
      go_wp2
      go_roundw
      case rel => exact ⟨k + 1, by omega, by go_num, HD, _, rfl⟩
      case measure => simp [intOf]; omega
    ·
     obtain rfl : k = 12 := by omega
     obtain rfl : b = true := HR.out.symm
     clear HR
     go_wp2
     go_ret
     exact ⟨rfl, _, rfl⟩
theorem fT (n : Int) (h2 : n < 9223372036854775808) (b : Bool) (hb : Hid (iX n = b)) (w : World) (hv : Vars w) :
  Calls Tryz.prog 75 #[.int .i64 n] w fun e' w' => e' = .returned (.bool b) ∧ ∃ n, w' = w.drewN n := by
 by_cases h : n < 2
 · rw [← hb.out]; exact Ih n h w
 · exact Ii n (by omega) h2 b hb w hv
abbrev Rt (w : World) (v : Value) (e : Ending) (w' : World) : Prop := e = .returned v ∧ Below w.heap.size w w'
theorem ax {B : Nat} {a w : World} (h : Below B a w) (n : Nat) : Below B a (w.drewN n) := by
 induction n with
 | zero => exact h
 | succ n ih => exact ih.drew
theorem Vars.below {w w' : World} (hv : Vars w) (hb : Below w.heap.size w w') : Vars w' :=
 ⟨fun k hk => (hb.cell (World.block_lt_of_cell? w _ (hv.1 k hk))).trans (hv.1 k hk), fun j hj => (hb.cell (World.block_lt_of_cell? w _ (hv.2 j hj))).trans (hv.2 j hj)⟩
def aC (P Q G : Int) : Bool := decide (P < 2305843009213693952 ∧ 3 ≤ Q ∧ Q % 2 = 1 ∧ iX P = true ∧ iX Q = true ∧ (P - 1) % Q = 0 ∧ 2 ≤ G ∧ G < P ∧ pw G Q P = 1)
abbrev gv (P Q G : Int) : Value := .agg #[.int .i64 P, .int .i64 Q, .int .i64 G]
abbrev bA (P Q G : Int) : Obj := .cells #[.int .i64 P, .int .i64 Q, .int .i64 G] 23
theorem a_ (w : World) (o : Obj) (n : Nat) : Below w.heap.size w ((w.alloc o).drewN n) := ax ((Below.refl _ _).alloc (Nat.le_refl _) _) n
theorem af (w : World) (o : Obj) : Below w.heap.size w (w.alloc o) := (Below.refl _ _).alloc (Nat.le_refl _) _
theorem wV (P Q G : Int) (b : Bool) (h1 : P < 2305843009213693952) (h2 : 3 ≤ Q) (h3 : Hid (Q % 2 = 1)) (h4 : Hid (iX P = true)) (h5 : Hid (iX Q = true)) (h6 : Hid ((P - 1) % Q = 0)) (h7 : 2 ≤ G) (h8 : G < P)
  (hQ : Q < 9223372036854775808) (hb : Hid ((pw G Q P == 1) = b)) (w : World) (hv : Hid (Vars w)) :
  Calls Tryz.prog 44 #[gv P Q G] w fun e' w' => e' = .returned (.bool b) ∧ Below w.heap.size w w' := by
 have g3 : ((Q % 2 : Int) == 0) = false := by have := h3.out; simp; omega
 have g6 : (((P - 1) % Q : Int) == 0) = true := by rw [h6.out]; rfl
 have FK : (((P - 1) % Q : Int) != 0) = false := by rw [h6.out]; rfl
 have g8 : decide (P ≤ G) = false := by simp; omega
 obtain ⟨x, hx⟩ : ∃ x, pw G Q P = x := ⟨_, rfl⟩
 have g9 : ((x : Int) == 1) = b := by rw [← hx]; exact hb.out
 have HX := aa hx
 clear hx
 go_in
 go_wp2_with fail
 refine (fT P (by omega) true h4 _ (hv.out.below (af _ _))).mono ?_
 rintro e w' ⟨rfl, n1, rfl⟩
 go_wp2_with fail
 refine (fT Q (by omega) true h5 _ (hv.out.below (a_ _ _ _))).mono ?_
 rintro e w' ⟨rfl, n2, rfl⟩
 go_wp2_with fail
 refine (xu G Q P (by omega) h1 (by omega) h8 (by omega) hQ _).mono ?_
 rintro e w' ⟨rfl, n3, rfl⟩
 rw [HX.out]
 go_wp2
 go_ret
 refine ⟨rfl, ?_⟩
 repeat (first | exact a_ _ _ _ | refine ax ?_ _)
theorem EO (P Q G : Int) (h1 : 2305843009213693952 ≤ P) (w : World) (hv : Hid (Vars w)) :
  Calls Tryz.prog 44 #[gv P Q G] w fun e' w' => e' = .returned (.bool false) ∧ Below w.heap.size w w' := by
 go_in
 go_wp2
 go_ret
 refine ⟨rfl, ?_⟩
 repeat (first | exact af _ _ | exact a_ _ _ _ | refine ax ?_ _)
theorem EN (P Q G : Int) (h1 : P < 2305843009213693952) (h2 : Q < 3) (w : World) (hv : Hid (Vars w)) :
  Calls Tryz.prog 44 #[gv P Q G] w fun e' w' => e' = .returned (.bool false) ∧ Below w.heap.size w w' := by
 go_in
 go_wp2
 go_ret
 refine ⟨rfl, ?_⟩
 repeat (first | exact af _ _ | exact a_ _ _ _ | refine ax ?_ _)
theorem EM (P Q G : Int) (h1 : P < 2305843009213693952) (h2 : 3 ≤ Q) (h3 : Hid (Q % 2 = 0)) (w : World) (hv : Hid (Vars w)) :
  Calls Tryz.prog 44 #[gv P Q G] w fun e' w' => e' = .returned (.bool false) ∧ Below w.heap.size w w' := by
 have g3 : ((Q % 2 : Int) == 0) = true := by rw [h3.out]; rfl
 go_in
 go_wp2
 go_ret
 refine ⟨rfl, ?_⟩
 repeat (first | exact af _ _ | exact a_ _ _ _ | refine ax ?_ _)
theorem EL (P Q G : Int) (h1 : P < 2305843009213693952) (h2 : 3 ≤ Q) (h3 : Hid (Q % 2 = 1)) (h4 : Hid (iX P = false)) (w : World) (hv : Hid (Vars w)) :
  Calls Tryz.prog 44 #[gv P Q G] w fun e' w' => e' = .returned (.bool false) ∧ Below w.heap.size w w' := by
 have g3 : ((Q % 2 : Int) == 0) = false := by have := h3.out; simp; omega
 go_in
 go_wp2_with fail
 refine (fT P (by omega) false h4 _ (hv.out.below (af _ _))).mono ?_
 rintro e w' ⟨rfl, n1, rfl⟩
 go_wp2
 go_ret
 refine ⟨rfl, ?_⟩
 repeat (first | exact af _ _ | exact a_ _ _ _ | refine ax ?_ _)
theorem EK (P Q G : Int) (h1 : P < 2305843009213693952) (h2 : 3 ≤ Q) (h3 : Hid (Q % 2 = 1)) (h4 : Hid (iX P = true)) (h5 : Hid (iX Q = false)) (hQ : Q < 9223372036854775808) (w : World) (hv : Hid (Vars w)) :
  Calls Tryz.prog 44 #[gv P Q G] w fun e' w' => e' = .returned (.bool false) ∧ Below w.heap.size w w' := by
 have g3 : ((Q % 2 : Int) == 0) = false := by have := h3.out; simp; omega
 go_in
 go_wp2_with fail
 refine (fT P (by omega) true h4 _ (hv.out.below (af _ _))).mono ?_
 rintro e w' ⟨rfl, n1, rfl⟩
 go_wp2_with fail
 refine (fT Q (by omega) false h5 _ (hv.out.below (a_ _ _ _))).mono ?_
 rintro e w' ⟨rfl, n2, rfl⟩
 go_wp2
 go_ret
 refine ⟨rfl, ?_⟩
 repeat (first | exact af _ _ | exact a_ _ _ _ | refine ax ?_ _)
theorem EJ (P Q G : Int) (h1 : P < 2305843009213693952) (h2 : 3 ≤ Q) (h3 : Hid (Q % 2 = 1)) (h4 : Hid (iX P = true)) (h5 : Hid (iX Q = true)) (h6 : Hid ((P - 1) % Q ≠ 0)) (hp : 2 ≤ P) (hQ : Q < 9223372036854775808) (w : World) (hv : Hid (Vars w)) :
  Calls Tryz.prog 44 #[gv P Q G] w fun e' w' => e' = .returned (.bool false) ∧ Below w.heap.size w w' := by
 have g3 : ((Q % 2 : Int) == 0) = false := by have := h3.out; simp; omega
 have g6 : (((P - 1) % Q : Int) == 0) = false := by have := h6.out; simp; omega
 have FK : (((P - 1) % Q : Int) != 0) = true := by have := h6.out; simp; omega
 go_in
 go_wp2_with fail
 refine (fT P (by omega) true h4 _ (hv.out.below (af _ _))).mono ?_
 rintro e w' ⟨rfl, n1, rfl⟩
 go_wp2_with fail
 refine (fT Q (by omega) true h5 _ (hv.out.below (a_ _ _ _))).mono ?_
 rintro e w' ⟨rfl, n2, rfl⟩
 go_wp2
 go_ret
 refine ⟨rfl, ?_⟩
 repeat (first | exact af _ _ | exact a_ _ _ _ | refine ax ?_ _)
theorem EI (P Q G : Int) (h1 : P < 2305843009213693952) (h2 : 3 ≤ Q) (h3 : Hid (Q % 2 = 1)) (h4 : Hid (iX P = true)) (h5 : Hid (iX Q = true)) (h6 : Hid ((P - 1) % Q = 0)) (hp : 2 ≤ P) (hQ : Q < 9223372036854775808) (h7 : G < 2) (w : World) (hv : Hid (Vars w)) :
  Calls Tryz.prog 44 #[gv P Q G] w fun e' w' => e' = .returned (.bool false) ∧ Below w.heap.size w w' := by
 have g3 : ((Q % 2 : Int) == 0) = false := by have := h3.out; simp; omega
 have g6 : (((P - 1) % Q : Int) == 0) = true := by rw [h6.out]; rfl
 have FK : (((P - 1) % Q : Int) != 0) = false := by rw [h6.out]; rfl
 go_in
 go_wp2_with fail
 refine (fT P (by omega) true h4 _ (hv.out.below (af _ _))).mono ?_
 rintro e w' ⟨rfl, n1, rfl⟩
 go_wp2_with fail
 refine (fT Q (by omega) true h5 _ (hv.out.below (a_ _ _ _))).mono ?_
 rintro e w' ⟨rfl, n2, rfl⟩
 go_wp2
 go_ret
 refine ⟨rfl, ?_⟩
 repeat (first | exact af _ _ | exact a_ _ _ _ | refine ax ?_ _)
theorem EH (P Q G : Int) (h1 : P < 2305843009213693952) (h2 : 3 ≤ Q) (h3 : Hid (Q % 2 = 1)) (h4 : Hid (iX P = true)) (h5 : Hid (iX Q = true)) (h6 : Hid ((P - 1) % Q = 0)) (hp : 2 ≤ P) (hQ : Q < 9223372036854775808) (h7 : 2 ≤ G) (h8 : P ≤ G) (w : World) (hv : Hid (Vars w)) :
  Calls Tryz.prog 44 #[gv P Q G] w fun e' w' => e' = .returned (.bool false) ∧ Below w.heap.size w w' := by
 have g3 : ((Q % 2 : Int) == 0) = false := by have := h3.out; simp; omega
 have g6 : (((P - 1) % Q : Int) == 0) = true := by rw [h6.out]; rfl
 have FK : (((P - 1) % Q : Int) != 0) = false := by rw [h6.out]; rfl
 go_in
 go_wp2_with fail
 refine (fT P (by omega) true h4 _ (hv.out.below (af _ _))).mono ?_
 rintro e w' ⟨rfl, n1, rfl⟩
 go_wp2_with fail
 refine (fT Q (by omega) true h5 _ (hv.out.below (a_ _ _ _))).mono ?_
 rintro e w' ⟨rfl, n2, rfl⟩
 go_wp2
 go_ret
 refine ⟨rfl, ?_⟩
 repeat (first | exact af _ _ | exact a_ _ _ _ | refine ax ?_ _)
theorem dS (P Q G : Int) (b : Bool) (hb : Hid (aC P Q G = b)) (hQ : Q < 9223372036854775808) (w : World) (hv : Hid (Vars w)) :
  Calls Tryz.prog 44 #[gv P Q G] w fun e' w' => e' = .returned (.bool b) ∧ Below w.heap.size w w' := by
 have hb' := hb.out
 unfold aC at hb'
 by_cases h1 : P < 2305843009213693952
 ·
  by_cases h2 : 3 ≤ Q
  ·
   by_cases h3 : Q % 2 = 1
   ·
    cases h4 : iX P with
    | true =>
     have hp := zH h4
     cases h5 : iX Q with
     | true =>
      by_cases h6 : (P - 1) % Q = 0
      ·
       by_cases h7 : 2 ≤ G
       ·
        by_cases h8 : G < P
        ·
         refine wV P Q G b h1 h2 h3 h4 h5 h6 h7 h8 hQ ?_ w hv
         rw [← hb']
         simp [h1, h2, h3, h4, h5, h6, h7, h8]
         show ((pw G Q P == 1) = decide (pw G Q P = 1))
         rfl
        ·
         obtain rfl : b = false := by rw [← hb']; simp [h8]
         exact EH P Q G h1 h2 h3 h4 h5 h6 hp hQ h7 (by omega) w hv
       ·
        obtain rfl : b = false := by rw [← hb']; simp [h7]
        exact EI P Q G h1 h2 h3 h4 h5 h6 hp hQ (by omega) w hv
      ·
       obtain rfl : b = false := by rw [← hb']; simp [h6]
       exact EJ P Q G h1 h2 h3 h4 h5 h6 hp hQ w hv
     | false =>
      obtain rfl : b = false := by rw [← hb']; simp [h5]
      exact EK P Q G h1 h2 h3 h4 h5 hQ w hv
    | false =>
     obtain rfl : b = false := by rw [← hb']; simp [h4]
     exact EL P Q G h1 h2 h3 h4 w hv
   ·
    obtain rfl : b = false := by rw [← hb']; simp [h3]
    exact EM P Q G h1 h2 (show Q % 2 = 0 by omega) w hv
  ·
   obtain rfl : b = false := by rw [← hb']; simp [h2]
   exact EN P Q G h1 (by omega) w hv
 ·
  obtain rfl : b = false := by rw [← hb']; simp [h1]
  exact EO P Q G (by omega) w hv
theorem ag {w u u' : World} (h : Below w.heap.size w u) (h2 : Below u.heap.size u u') : Below w.heap.size w u' := h.trans (h2.mono h.size)
def av (P Q x : Int) : Bool := decide (1 ≤ x ∧ x < P ∧ pw x Q P = 1)
theorem jK {P Q x : Int} (h : av P Q x = true) : 1 ≤ x := by simp [av] at h; exact h.1
theorem jL {P Q x : Int} (h : av P Q x = true) : x < P := by simp [av] at h; exact h.2.1
theorem jJ {P Q x : Int} (h : av P Q x = true) : pw x Q P = 1 := by simp [av] at h; exact h.2.2
theorem jC (P Q G x : Int) (b : Bool) (hb : Hid (av P Q x = b)) (h1 : P < 2305843009213693952) (J3 : 0 ≤ Q) (hQ : Q < 9223372036854775808) (w : World) :
  Calls Tryz.prog 63 #[gv P Q G, .int .i64 x] w (Rt w (.bool b)) := by
 by_cases hx : x < 1
 ·
  obtain rfl : b = false := by rw [← hb.out]; simp [av]; omega
  go_in
  go_wp2
  go_ret
  exact ⟨rfl, af _ _⟩
 ·
  by_cases hx2 : P ≤ x
  ·
   obtain rfl : b = false := by rw [← hb.out]; simp [av]; omega
   go_in
   go_wp2
   go_ret
   exact ⟨rfl, af _ _⟩
  ·
   have d1 : decide (x < 1) = false := by simp; omega
   have d2 : decide (P ≤ x) = false := by simp; omega
   obtain ⟨y, hy⟩ : ∃ y, pw x Q P = y := ⟨_, rfl⟩
   have g9 : ((y : Int) == 1) = b := by
    rw [← hb.out, ← hy, av, Bool.eq_iff_iff]
    simp only [beq_iff_eq, decide_eq_true_eq]
    exact ⟨fun h => ⟨by omega, by omega, h⟩, fun h => h.2.2⟩
   have HX := aa hy
   clear hy hb
   go_in
   go_wp2_with fail
   refine (xu x Q P (by omega) h1 (by omega) (by omega) J3 hQ _).mono ?_
   rintro e w' ⟨rfl, n3, rfl⟩
   rw [HX.out]
   go_wp2
   go_ret
   exact ⟨rfl, a_ _ _ _⟩
def kR (w : World) (a : Nat) (P Q G : Int) : Prop := w.cell? ⟨a, 0, none⟩ = some (.int .i64 P) ∧ w.cell? ⟨a, 1, none⟩ = some (.int .i64 Q) ∧ w.cell? ⟨a, 2, none⟩ = some (.int .i64 G)
theorem bD (w : World) (P Q G : Int) : kR (w.alloc (bA P Q G)) w.heap.size P Q G :=
 ⟨World.cell?_alloc_at _ _ _ _ rfl, World.cell?_alloc_at _ _ _ _ rfl, World.cell?_alloc_at _ _ _ _ rfl⟩
theorem kR.below {w w' : World} {a : Nat} {P Q G : Int} (h : kR w a P Q G) (hb : Below w.heap.size w w') : kR w' a P Q G :=
 ⟨(hb.cell (World.block_lt_of_cell? _ _ h.1)).trans h.1, (hb.cell (World.block_lt_of_cell? _ _ h.2.1)).trans h.2.1, (hb.cell (World.block_lt_of_cell? _ _ h.2.2)).trans h.2.2⟩
theorem aJ {P Q G : Int} (h : aC P Q G = true) : 2 ≤ P ∧ P < 2305843009213693952 ∧ 3 ≤ Q ∧ Q < P := by
 simp [aC] at h
 obtain ⟨h1, h2, h3, h4, h5, h6, h7⟩ := h
 have hp := zH h4
 have hd : Q ∣ P - 1 := Int.dvd_of_emod_eq_zero h6
 have := Int.le_of_dvd (by omega) hd
 exact ⟨hp, h1, h2, by omega⟩
def dQ (P Q G x : Int) : Bool := aC P Q G && av P Q x
theorem aW (P Q G x : Int) (b : Bool) (hb : Hid (dQ P Q G x = b)) (hQ : Q < 9223372036854775808) (w : World) (hv : Hid (Vars w)) :
  Calls Tryz.prog 34 #[gv P Q G, .int .i64 x] w (Rt w (.bool b)) := by
 have HB0 := aa (bD w P Q G)
 have sV := aa (hv.out.below (af w (bA P Q G)))
 cases hval : aC P Q G with
 | false =>
  obtain rfl : b = false := by rw [← hb.out]; simp [dQ, hval]
  have HV : Hid (aC P Q G = false) := hval
  clear hval hb
  go_in
  go_wp2_with fail
  refine (dS P Q G false HV hQ _ sV).mono ?_
  rintro e w1 ⟨rfl, hb0⟩
  have hb1 := ag (af _ _) hb0
  obtain ⟨c0, c1, c2⟩ := HB0.out.below hb0
  clear hb0
  go_wp2
  go_ret
  exact ⟨rfl, hb1⟩
 | true =>
  obtain ⟨hp2, hp, hq3, Eo⟩ := aJ hval
  have HM : Hid (av P Q x = b) := aa (by rw [← hb.out, dQ, hval, Bool.true_and])
  have HV : Hid (aC P Q G = true) := hval
  clear hval hb
  go_in
  go_wp2_with fail
  refine (dS P Q G true HV hQ _ sV).mono ?_
  rintro e w1 ⟨rfl, hb0⟩
  have hb1 := ag (af _ _) hb0
  obtain ⟨c0, c1, c2⟩ := HB0.out.below hb0
  clear hb0
  go_wp2_with fail
  refine (jC P Q G x b HM hp (by omega) hQ _).mono ?_
  rintro e w2 ⟨rfl, hb0⟩
  have hb2 := ag hb1 hb0
  clear hb0
  go_wp2
  go_ret
  exact ⟨rfl, hb2⟩
theorem gJ {P : Int} (h : 2 ≤ P) : (1 : Int) % P = 1 := Int.emod_eq_of_lt (by omega) (by omega)
theorem bV (a e m : Int) : pw a e m = a ^ e.toNat % m := rfl
theorem zw (a e m : Int) : pw (a % m) e m = pw a e m := oO a m _
theorem zu (a b e m : Int) : pw (a * b % m) e m = pw a e m * pw b e m % m := by
 rw [zw, bV, bV, bV, Int.mul_pow, Int.mul_emod]
theorem xk (e m : Int) (h : 2 ≤ m) : pw 1 e m = 1 := by rw [bV, Int.one_pow, gJ h]
theorem lG (a m : Int) (h : 2 ≤ m) : pw a 0 m = 1 := by rw [bV]; show a ^ 0 % m = 1; rw [Int.pow_zero]; exact gJ h
theorem rZ (a i j m : Int) (hi : 0 ≤ i) (hj : 0 ≤ j) : pw a (i + j) m = pw a i m * pw a j m % m := by
 rw [bV, bV, bV, show (i + j).toNat = i.toNat + j.toNat by omega, Int.pow_add, Int.mul_emod]
theorem qR (a i j m : Int) (hi : 0 ≤ i) (hj : 0 ≤ j) : pw (pw a i m) j m = pw a (i * j) m := by
 rw [bV a i, zw, bV, bV, ← Int.pow_mul]
 congr 2
 obtain ⟨x, rfl⟩ := Int.eq_ofNat_of_zero_le hi
 obtain ⟨y, rfl⟩ := Int.eq_ofNat_of_zero_le hj
 rw [← Int.natCast_mul]
 rfl
theorem qh (n : Nat) : (0 : Int) ^ (n + 1) = 0 := by rw [Int.pow_succ, Int.mul_zero]
theorem Au {x Q P : Int} (h0 : 0 ≤ x) (hQ : 1 ≤ Q) (h : pw x Q P = 1) : 1 ≤ x := by
 by_cases hx : x = 0
 ·
  subst hx
  rw [bV] at h
  obtain ⟨n, hn⟩ : ∃ n, Q.toNat = n + 1 := ⟨Q.toNat - 1, by omega⟩
  rw [hn, qh] at h
  simp at h
 · omega
theorem mem_mk {P Q x : Int} (h0 : 0 ≤ x) (h1 : x < P) (hQ : 1 ≤ Q) (h : pw x Q P = 1) : av P Q x = true := by
 simp [av]; exact ⟨Au h0 hQ h, h1, h⟩
theorem zF {P Q : Int} (hP : 2 ≤ P) : av P Q 1 = true := by
 simp [av]; exact ⟨by omega, xk Q P hP⟩
theorem jI {P Q a b : Int} (hP : 2 ≤ P) (hQ : 1 ≤ Q) (ha : av P Q a = true) (hb : av P Q b = true) : av P Q (a * b % P) = true :=
 mem_mk (Int.emod_nonneg _ (by omega)) (Int.emod_lt_of_pos _ (by omega)) hQ (by rw [zu, jJ ha, jJ hb]; exact gJ hP)
theorem fI {P Q a k : Int} (hP : 2 ≤ P) (hQ : 1 ≤ Q) (hk : 0 ≤ k) (ha : av P Q a = true) : av P Q (pw a k P) = true := by
 refine mem_mk (Int.emod_nonneg _ (by omega)) (Int.emod_lt_of_pos _ (by omega)) hQ ?_
 rw [qR _ _ _ _ hk (by omega), Int.mul_comm, ← qR _ _ _ _ (by omega) hk, jJ ha, xk _ _ hP]
theorem Cx {P Q a k : Int} (hP : 2 ≤ P) (hQ : 1 ≤ Q) (hk : 0 ≤ k) (ha : pw a Q P = 1) : pw a k P = pw a (k % Q) P := by
 have h1 : 0 ≤ k % Q := Int.emod_nonneg _ (by omega)
 have h2 : 0 ≤ k / Q := Int.ediv_nonneg hk (by omega)
 have e : k = Q * (k / Q) + k % Q := (Int.mul_ediv_add_emod k Q).symm
 have h3 : 0 ≤ Q * (k / Q) := Int.mul_nonneg (by omega) h2
 have h4 : pw a k P = pw a (Q * (k / Q) + k % Q) P := by rw [← e]
 rw [h4, rZ _ _ _ _ h3 h1, ← qR _ _ _ _ (by omega) h2, ha, xk _ _ hP, Int.one_mul, bV a (k % Q), Int.emod_emod_of_dvd _ (Int.dvd_refl P)]
theorem uh {P Q a d : Int} (hP : 2 ≤ P) (hQ : 1 ≤ Q) (ha : av P Q a = true) (h1 : d ∣ a) (h2 : d ∣ P) (hd : 0 < d) : d = 1 := by
 have h := jJ ha
 rw [bV] at h
 obtain ⟨n, hn⟩ : ∃ n, Q.toNat = n + 1 := ⟨Q.toNat - 1, by omega⟩
 rw [hn] at h
 have h3 : d ∣ a ^ (n + 1) := by rw [Int.pow_succ]; exact Int.dvd_mul_of_dvd_right h1
 have h4 : d ∣ P * (a ^ (n + 1) / P) := Int.dvd_mul_of_dvd_left h2
 have h5 : d ∣ a ^ (n + 1) - P * (a ^ (n + 1) / P) := Int.dvd_sub h3 h4
 have h6 : a ^ (n + 1) - P * (a ^ (n + 1) / P) = 1 := by have := Int.emod_add_mul_ediv (a ^ (n + 1)) P; omega
 rw [h6] at h5
 have := Int.le_of_dvd (by omega) h5
 omega
end Go.Proofs.YtgbfhcfhopadaaaGreatDoor
namespace Go.Proofs.YtgbfhcfhopadaaaGreatDoor
open Go.ChangeShapes Go.WideShapes Go.ChangeAt Go.RowKit ou
theorem own : ownKnob Tryz.prog.godebug = none := by kernel_rfl
theorem laidOut : laidOutB Tryz.prog = true := by kernel_rfl
theorem Di : Tryz.prog.globalNamed "specie/prime.bases" = some 0 := by kernel_rfl
theorem xS : (Tryz.prog.globals[0]?).map (·.type) = some 132 := by kernel_rfl
theorem Lr : Tryz.prog.globalNamed "math/bits.deBruijn64tab" = some 3 := by kernel_rfl
theorem Df : (Tryz.prog.globals[3]?).map (·.type) = some 153 := by kernel_rfl
theorem yz : Tryz.prog.cellsOf 132 = 12 := by kernel_rfl
theorem Dv : Tryz.prog.cellsOf 153 = 64 := by kernel_rfl
theorem Du : Tryz.prog.cellsOf 109 = 1 := by kernel_rfl
theorem zQ : Tryz.prog.cellsOf 5 = 1 := by kernel_rfl
theorem pQ : Tryz.prog.cellsOf 3 = 1 := by kernel_rfl
theorem pR : Tryz.prog.cellsOf 23 = 3 := by kernel_rfl
section
variable {H : Type} {enc : TypeId × Value → H}
theorem qO {W W' : World} (hb : Below W.heap.size W W') {sp : Nat → Bool} : ∀ {ts : List TypeId} {vs : List Value} {ds : List (DataW H)} {ps : List MemPlace},
  (∀ t ∈ ts, Tryz.prog.readableRec t = true ∧ t < Tryz.prog.types.size) → DataW.TrodAll enc Tryz.prog W 0 (fun _ => true) true ts vs ds ps → (∀ x ∈ ps, x.block < W.heap.size) → (∀ x ∈ ps, sp x.block = true) →
  DataW.TrodAll enc Tryz.prog W' 0 sp true ts vs ds ps
 | [], _, _, _, _, h, _, _ => by
  obtain ⟨rfl, rfl, rfl⟩ := trodAll_nil h
  exact trodAll_mk0
 | t :: ts, _, _, _, ht, h, hlt, hs => by
  obtain ⟨v, vs', d, ds', p, q, rfl, rfl, rfl, h0, hr⟩ := trodAll_cons h
  have h1 := ht t (List.mem_cons_self ..)
  exact trodAll_cons_mk (WideElems.Trod_stays laidOut h1.1 h1.2 h0 (fun x hx => hb.same (hlt x (List.mem_append_left _ hx))) (fun x hx => hs x (List.mem_append_left _ hx)))
   (qO hb (fun t' h' => ht t' (List.mem_cons_of_mem _ h')) hr (fun x hx => hlt x (List.mem_append_right _ hx)) (fun x hx => hs x (List.mem_append_right _ hx)))
theorem CV {f : Func} {s : ChangeSpec} {apart fresh handsOn again : Bool} {W W' : World} {args : Array Value} {ds gs : List (DataW H)} {before : List MemPlace}
  (hts : ∀ t ∈ f.params.toList, Tryz.prog.readableRec t = true ∧ t < Tryz.prog.types.size)
  (hv : s.vars = []) (hres : f.resultTypes = #[4])
  (hW : DataW.Whole enc Tryz.prog f.params.toList s.vars apart W args.toList ds gs before)
  (hfn : s.fn H (ds ++ gs) = { results := [.lit (.bool true)], args := ds }) (hb : Below W.heap.size W W') :
  s.post enc Tryz.prog f apart fresh handsOn again W args (.bool true) W' := by
 have hlt : ∀ p ∈ before, p.block < W.heap.size := fun p hp => hW.lt p hp
 have hW2 := hW
 obtain ⟨pa, pv, hA, hV, hps, hz, hn⟩ := hW
 rw [hv] at hV
 obtain ⟨hg, hpv⟩ := trodVars_none hV
 subst hg; subst hpv
 rw [List.append_nil] at hps
 subst hps
 have hargs : ∀ sp : Nat → Bool, (∀ p ∈ before, sp p.block = true) → DataW.TrodAll enc Tryz.prog W' 0 sp true f.params.toList args.toList (s.fn H (ds ++ [])).args before := fun sp hsp => by
  rw [hfn]; exact qO hb hts hA hlt hsp
 have hvars : ∀ sp : Nat → Bool, DataW.TrodVars enc Tryz.prog W' sp s.vars (s.fn H (ds ++ [])).vars [] := fun sp => by
  rw [hfn, hv]; rfl
 have Gv : ∀ (b : Nat) (sp : Nat → Bool) (hd : Bool), DataW.TrodAll enc Tryz.prog W' b sp hd f.resultTypes.toList ((Value.bool true).resultList f.resultTypes.size) (s.fn H (ds ++ [])).results [] := fun b sp hd => by
  rw [hfn, hres]; exact trodAll_cons_mk (shut_bool Tryz.underlying4 _) trodAll_mk0
 have hold : ∀ p ∈ before, (fun b => decide (b < W.heap.size)) p.block = true := fun p hp => by simpa using hlt p hp
 refine ⟨ds, [], before, [], before, [], hW2, Gv _ _ _, hargs _ hold, hvars _, World.keptBut_mono (fun p hp => ⟨hp, ?_⟩) (hb.frame (· ∈ before)), fun _ => ?_⟩
 · exact Or.inr (Or.inl hp)
 ·
  refine ⟨ok_one hres rfl (okWide_bool_mk Tryz.underlying4 _), _, _, ([] ++ before) ++ [], ⟨[] ++ before, [], trodAll_append (hargs _ (fun _ _ => rfl)) (Gv _ _ _), hvars _, rfl, ?_, ?_⟩, ?_⟩
  ·
   intro b off hp
   have hin : MemPlace.cell b off ∈ before := by simpa using hp
   rw [hb.frozen (hlt _ hin)]
   exact hz b off hin
  ·
   intro ha
   simpa using hn ha
  ·
   intro p hp _
   simpa using hp
end
section
variable {H : Type} {enc : TypeId × Value → H} {w : World} {base : Nat} {spare : Nat → Bool} {held : Bool}
theorem ig {r : Reach} {b0 : Nat} {v : Value} {d : DataW H} {ps : List MemPlace} (hval : Value.okWide Tryz.prog w r b0 3 v) (hd : DataW.Trod enc Tryz.prog w base spare held 3 v d ps) :
  ∃ n, v = .int .i64 n ∧ -9223372036854775808 ≤ n ∧ n ≤ 9223372036854775807 := by
 obtain ⟨n, rfl, _, _, hw⟩ := open_int Tryz.underlying3 hval hd
 exact ⟨n, rfl, bounds_i64 hw⟩
theorem mM {n : Nat} {cs : List Value} {x : DataW H × List MemPlace} (h : DataW.trod enc Tryz.prog w base spare held n 23 cs = some x) :
  ∃ P Q G : Int, cs = [.int .i64 P, .int .i64 Q, .int .i64 G] ∧ (-9223372036854775808 ≤ P ∧ P ≤ 9223372036854775807) ∧ (-9223372036854775808 ≤ Q ∧ Q ≤ 9223372036854775807) ∧ (-9223372036854775808 ≤ G ∧ G ≤ 9223372036854775807) := by
 obtain ⟨xs, m, rfl, rfl, hl, hxl, hf⟩ := DataW.trod_struct Tryz.underlying23 h
 rw [pR] at hl
 match cs, hl with
 | [c0, c1, c2], _ =>
  have f0 : DataW.trod enc Tryz.prog w base spare held m 3 (([c0, c1, c2].drop 0).take (Tryz.prog.cellsOf 3)) = xs[0]? := hf 0 _ rfl
  have f1 : DataW.trod enc Tryz.prog w base spare held m 3 (([c0, c1, c2].drop 1).take (Tryz.prog.cellsOf 3)) = xs[1]? := hf 1 _ rfl
  have f2 : DataW.trod enc Tryz.prog w base spare held m 3 (([c0, c1, c2].drop 2).take (Tryz.prog.cellsOf 3)) = xs[2]? := hf 2 _ rfl
  rw [pQ] at f0 f1 f2
  have hl3 : xs.length = 3 := hxl
  match xs, hl3 with
  | [x0, x1, x2], _ =>
   obtain ⟨P, hP, _, wP⟩ := DataW.trod_int Tryz.underlying3 f0
   obtain ⟨Q, hQ, _, wQ⟩ := DataW.trod_int Tryz.underlying3 f1
   obtain ⟨G, hG, _, wG⟩ := DataW.trod_int Tryz.underlying3 f2
   simp at hP hQ hG
   subst hP; subst hQ; subst hG
   exact ⟨P, Q, G, rfl, bounds_i64 wP, bounds_i64 wQ, bounds_i64 wG⟩
theorem vO : Tryz.prog.cellsOf 25 = 6 := by kernel_rfl
theorem xB {r : Reach} {b0 : Nat} {v : Value} {d : DataW H} {ps : List MemPlace} (hval : Value.okWide Tryz.prog w r b0 25 v) (hd : DataW.Trod enc Tryz.prog w base spare held 25 v d ps) :
  ∃ P Q G A B C : Int, v = .agg #[.int .i64 P, .int .i64 Q, .int .i64 G, .int .i64 A, .int .i64 B, .int .i64 C] ∧ (-9223372036854775808 ≤ P ∧ P ≤ 9223372036854775807) ∧ (-9223372036854775808 ≤ Q ∧ Q ≤ 9223372036854775807) := by
 obtain ⟨cs, rfl, hsz⟩ := okWide_struct Tryz.underlying25 hval
 obtain ⟨n, h⟩ := hd
 obtain ⟨xs, m, rfl, _, hl, hxl, hf⟩ := DataW.trod_struct Tryz.underlying25 h
 rw [vO] at hl
 obtain ⟨cl⟩ := cs
 simp only [Value.cells] at hl hf
 match cl, hl with
 | [c0, c1, c2, c3, c4, c5], _ =>
  have f0 : DataW.trod enc Tryz.prog w base spare held m 23 (([c0, c1, c2, c3, c4, c5].drop 0).take (Tryz.prog.cellsOf 23)) = xs[0]? := hf 0 _ rfl
  have f1 : DataW.trod enc Tryz.prog w base spare held m 3 (([c0, c1, c2, c3, c4, c5].drop 3).take (Tryz.prog.cellsOf 3)) = xs[1]? := hf 1 _ rfl
  have f2 : DataW.trod enc Tryz.prog w base spare held m 3 (([c0, c1, c2, c3, c4, c5].drop 4).take (Tryz.prog.cellsOf 3)) = xs[2]? := hf 2 _ rfl
  have f3 : DataW.trod enc Tryz.prog w base spare held m 3 (([c0, c1, c2, c3, c4, c5].drop 5).take (Tryz.prog.cellsOf 3)) = xs[3]? := hf 3 _ rfl
  rw [pQ] at f1 f2 f3
  rw [pR] at f0
  have hl4 : xs.length = 4 := hxl
  match xs, hl4 with
  | [x0, x1, x2, x3], _ =>
   obtain ⟨P, Q, G, hg, bP, bQ, bG⟩ := mM f0
   obtain ⟨A, hA, _, wA⟩ := DataW.trod_int Tryz.underlying3 f1
   obtain ⟨B, hB, _, wB⟩ := DataW.trod_int Tryz.underlying3 f2
   obtain ⟨C, hC, _, wC⟩ := DataW.trod_int Tryz.underlying3 f3
   simp at hg hA hB hC
   obtain ⟨rfl, rfl, rfl⟩ := hg
   subst hA; subst hB; subst hC
   exact ⟨P, Q, G, A, B, C, rfl, bP, bQ⟩
end
def CU : Obj → Obj
 | .cells _ t frozen => .cells #[.int .u64 2, .int .u64 3, .int .u64 5, .int .u64 7, .int .u64 11, .int .u64 13, .int .u64 17, .int .u64 19, .int .u64 23, .int .u64 29, .int .u64 31, .int .u64 37] t frozen
 | o => o
def Ie : Obj → Obj
 | .cells _ t frozen => .cells (Lib.deBruijn64tab.map fun n : Nat => Value.int .u8 (n : Int)).toArray t frozen
 | o => o
end Go.Proofs.YtgbfhcfhopadaaaGreatDoor
namespace Go.Proofs.YtgbfhcfhopadaaaGreatDoor
open Go.RowKit ou
theorem Ap (a m : Int) (h1 : 1 ≤ m) (h2 : m < 2305843009213693952) (ha0 : -9223372036854775808 ≤ a) (ha : a < 9223372036854775808) (w : World) :
  Calls Tryz.prog 65 #[.int .i64 a, .int .i64 m] w fun e' w' => e' = .returned (.tuple #[.int .i64 (a % m), .int .i64 0]) ∧ w = w' := by
 have hc := aa (mU (a := 0) (b := 0) (by omega) h2 (by omega) (by omega) (by omega) (by omega))
 have hm : ((m : Int) == 0) = false := by simp; omega
 by_cases hneg : 0 ≤ a
 ·
  have h3 : 0 ≤ a % m := Int.emod_nonneg _ (by omega)
  have h4 : a % m < m := Int.emod_lt_of_pos _ (by omega)
  have h5 : decide (a % m < 0) = false := by simp; omega
  go_in
  go_wp2_with (go_at_call 50; refine (dU _ _ _ _).mono ?_; rintro e w' ⟨rfl, rfl⟩; rw [hc.out])
  go_ret2
  exact ⟨rfl, rfl⟩
 ·
  obtain ⟨t, ht⟩ : ∃ t, a.tmod m = t := ⟨_, rfl⟩
  obtain ⟨r, hr⟩ : ∃ r, a % m = r := ⟨_, rfl⟩
  have hb : -m < t ∧ t ≤ 0 := by
   rw [← ht]
   have e : a.tmod m = - ((-a) % m) := by
    rw [← Int.neg_neg a, Int.neg_tmod, Int.neg_neg, Int.tmod_eq_emod_of_nonneg (by omega)]
   have h3 : 0 ≤ (-a) % m := Int.emod_nonneg _ (by omega)
   have h4 : (-a) % m < m := Int.emod_lt_of_pos _ (by omega)
   omega
  have hrt : r = if t < 0 then t + m else t := by
   rw [← hr]
   have e : a = m * a.tdiv m + t := by rw [← ht]; exact (Int.mul_tdiv_add_tmod a m).symm
   have h6 : a % m = t % m := by rw [e, Int.mul_add_emod_self_left]
   rw [h6]
   split
   · rw [← Int.add_emod_right t m]; exact Int.emod_eq_of_lt (by omega) (by omega)
   · exact Int.emod_eq_of_lt (by omega) (by omega)
  obtain ⟨hb1, hb2⟩ := hb
  rw [hr]
  have HW : wrap64 (a.tmod m) = t := by rw [ht]; exact IntWalk.wrap64_in _ (by omega)
  clear hr
  by_cases hz : t < 0
  ·
   rw [if_pos hz] at hrt
   subst hrt
   go_in
   go_wp2_with (go_at_call 50; refine (dU _ _ _ _).mono ?_; rintro e w' ⟨rfl, rfl⟩; rw [hc.out])
   go_ret2
   exact ⟨rfl, rfl⟩
  ·
   rw [if_neg hz] at hrt
   subst hrt
   have hz2 : decide (r < 0) = false := by simp; omega
   go_in
   go_wp2_with (go_at_call 50; refine (dU _ _ _ _).mono ?_; rintro e w' ⟨rfl, rfl⟩; rw [hc.out])
   go_ret2
   exact ⟨rfl, rfl⟩
def qa (a0 m d a x n : Int) : Prop :=
 ∃ s X N : Int, (s = 1 ∨ s = -1) ∧ x = -(s * X) ∧ n = s * N ∧ 0 ≤ X ∧ X ≤ m ∧ 0 ≤ N ∧ 0 ≤ a ∧ a < d ∧ d ≤ m ∧ X * a + N * d = m ∧
  (∃ k, x * a0 = d + m * k) ∧ (∃ k, n * a0 = a + m * k) ∧ (∀ c, c ∣ d → c ∣ a → c ∣ m ∧ c ∣ a0)
theorem vo {a0 m : Int} (h0 : 0 ≤ a0) (h1 : a0 < m) : qa a0 m m a0 0 1 :=
 ⟨1, 0, 1, .inl rfl, by omega, by omega, by omega, by omega, by omega, h0, h1, by omega, by omega, ⟨-1, by omega⟩, ⟨0, by omega⟩, fun c hc ha => ⟨hc, ha⟩⟩
theorem iM {a0 m d a x n : Int} (h : qa a0 m d a x n) : 0 ≤ a ∧ a < d ∧ d ≤ m ∧ -m ≤ x ∧ x ≤ m ∧ -m ≤ n ∧ n ≤ m := by
 obtain ⟨s, X, N, hs, hx, hn, hX0, hX, hN0, ha0, ha, hd, hm, _⟩ := h
 have hN : N ≤ m := by
  have : N * 1 ≤ N * d := Int.mul_le_mul_of_nonneg_left (by omega) hN0
  have : 0 ≤ X * a := Int.mul_nonneg hX0 ha0
  omega
 rcases hs with rfl | rfl <;> omega
theorem xX {a0 m d a x n : Int} (h : qa a0 m d a x n) (hne : a ≠ 0) :
  qa a0 m a (d - d / a * a) n (x - d / a * n) ∧ 0 ≤ d / a * a ∧ d / a * a ≤ d ∧ 0 ≤ d / a ∧ d / a ≤ m ∧ -m ≤ d / a * n ∧ d / a * n ≤ m := by
 obtain ⟨s, X, N, hs, hx, hn, hX0, hX, hN0, ha0, ha, hd, hm, ⟨k1, hk1⟩, ⟨k2, hk2⟩, hc⟩ := h
 have hap : 0 < a := by omega
 have e1 : d - d / a * a = d % a := by have := Int.emod_add_mul_ediv d a; rw [Int.mul_comm] at this; omega
 have e2 : 0 ≤ d % a := Int.emod_nonneg _ (by omega)
 have e3 : d % a < a := Int.emod_lt_of_pos _ hap
 have e4 : 0 ≤ d / a := Int.ediv_nonneg (by omega) (by omega)
 have e5 : 0 ≤ d / a * a := Int.mul_nonneg e4 (by omega)
 have e6 : d / a ≤ d / a * a := by have := Int.mul_le_mul_of_nonneg_left (show (1 : Int) ≤ a by omega) e4; omega
 obtain ⟨q, hq⟩ : ∃ q, d / a = q := ⟨_, rfl⟩
 rw [hq] at e1 e4 e5 e6 ⊢
 have VG : 0 ≤ q * N := Int.mul_nonneg e4 hN0
 have VR : N * d ≤ m := by have : 0 ≤ X * a := Int.mul_nonneg hX0 ha0; omega
 have hN : N ≤ m := by have : N * 1 ≤ N * d := Int.mul_le_mul_of_nonneg_left (by omega) hN0; omega
 have key : N * (d - q * a) + (X + q * N) * a = m := by
  rw [← hm, Int.mul_sub, Int.add_mul]
  have : N * (q * a) = q * N * a := by rw [← Int.mul_assoc, Int.mul_comm N q]
  omega
 have hN' : X + q * N ≤ m := by
  have h1 : 0 ≤ N * (d - q * a) := Int.mul_nonneg hN0 (by omega)
  have h2 : (X + q * N) * 1 ≤ (X + q * N) * a := Int.mul_le_mul_of_nonneg_left (by omega) (by omega)
  omega
 refine ⟨⟨-s, N, X + q * N, ?_, ?_, ?_, hN0, hN, by omega, by omega, by omega, by omega, key, ⟨k2, hk2⟩, ⟨k1 - q * k2, ?_⟩, ?_⟩, e5, by omega, e4, by omega, ?_, ?_⟩
 · rcases hs with rfl | rfl <;> simp
 · rw [hn, Int.neg_mul, Int.neg_neg]
 · rw [hx, hn, Int.neg_mul, Int.mul_add, Int.neg_add, ← Int.mul_assoc, ← Int.mul_assoc, Int.mul_comm q s]; omega
 · rw [Int.sub_mul, hk1, Int.mul_assoc, hk2, Int.mul_add, Int.mul_sub, ← Int.mul_assoc q m, Int.mul_comm q m, Int.mul_assoc m q]; omega
 ·
  intro c h1 h2
  refine hc c ?_ h1
  have h3 : c ∣ q * a := Int.dvd_mul_of_dvd_right h1
  have h4 : c ∣ (d - q * a) + q * a := Int.dvd_add h2 h3
  rwa [show d - q * a + q * a = d by omega] at h4
 ·
  rw [hn]; rcases hs with rfl | rfl
  · rw [Int.one_mul]; omega
  · rw [Int.neg_mul, Int.one_mul, Int.mul_neg]; omega
 ·
  rw [hn]; rcases hs with rfl | rfl
  · rw [Int.one_mul]; omega
  · rw [Int.neg_mul, Int.one_mul, Int.mul_neg]; omega
def G9 (a m : Int) (w : World) (e : Ending) (w' : World) : Prop :=
 ∃ d x k : Int, e = .returned (.tuple #[.int .i64 d, .int .i64 x]) ∧ 0 ≤ x ∧ x < m ∧ d ∣ a ∧ d ∣ m ∧ 0 < d ∧ d ≤ m ∧ x * a = d + m * k ∧ ∃ n, w' = w.drewN n
theorem vv {a0 m d x : Int} {w : World} {n : Nat} {nx : Int} (h : qa a0 m d 0 x nx) (r : Int) (hr : r = (if x < 0 then x + m else x) % m) :
  G9 a0 m w (.returned (.tuple #[.int .i64 d, .int .i64 r])) (w.drewN n) := by
 have hb := iM h
 obtain ⟨s, X, N, hs, hx, hn, hX0, hX, hN0, ha0, ha, hd, hm, ⟨k1, hk1⟩, ⟨k2, hk2⟩, hc⟩ := h
 obtain ⟨c1, c2⟩ := hc d (Int.dvd_refl d) (Int.dvd_zero d)
 have hmp : 0 < m := by omega
 have e0 : ∃ t, (if x < 0 then x + m else x) = x + m * t := by
  split
  · exact ⟨1, by omega⟩
  · exact ⟨0, by omega⟩
 obtain ⟨t, ht⟩ := e0
 have e1 : r = x + m * t - m * ((x + m * t) / m) := by
  rw [hr, ht]; have := Int.emod_add_mul_ediv (x + m * t) m; omega
 refine ⟨d, r, k1 + (t - (x + m * t) / m) * a0, rfl, ?_, ?_, c2, c1, by omega, hd, ?_, n, rfl⟩
 · rw [hr]; exact Int.emod_nonneg _ (by omega)
 · rw [hr]; exact Int.emod_lt_of_pos _ hmp
 ·
  rw [e1]
  generalize (x + m * t) / m = u
  rw [show x + m * t - m * u = x + m * (t - u) by rw [Int.mul_sub]; omega, Int.add_mul, hk1, Int.mul_add, Int.mul_assoc]; omega
theorem xW (a m : Int) (h1 : 1 ≤ m) (h2 : m < 2305843009213693952) (ha0 : 0 ≤ a) (ha : a < m) (w : World) :
  Calls Tryz.prog 91 #[.int .i64 a, .int .i64 m] w (G9 a m w) := by
 have hm : ((m : Int) == 0) = false := by simp; omega
 have HS : Hid (qa a m m a 0 1) := vo ha0 ha
 go_in
 go_wp2
 go_loop [0, 4, 5, 6] (fun u v t z => ∃ a' d' x' n' : Int, u = .int .i64 a' ∧ v = .int .i64 d' ∧ t = .int .i64 x' ∧ z = .int .i64 n' ∧ Hid (qa a m d' a' x' n')) (fun u _ _ _ => (intOf u).toNat)
 case atStart => exact ⟨a, m, 0, 1, rfl, rfl, rfl, rfl, HS⟩
 case round =>
  obtain ⟨a', d', x', n', rfl, rfl, rfl, rfl, HR⟩ := hrel
  obtain ⟨b1, b2, b3, b4, b5, b6, b7⟩ := iM HR.out
  by_cases h0 : a' = 0
  ·
   subst h0
   obtain ⟨r, hr⟩ : ∃ r, r = (if x' < 0 then x' + m else x') % m := ⟨_, rfl⟩
   by_cases hneg : x' < 0
   ·
    rw [if_pos hneg] at hr
    have hfin := fun n => aa (vv (w := w) (n := n) HR.out r (by rw [if_pos hneg]; exact hr))
    have HR2 := aa hr
    clear HR hr
    go_wp2
    go_quiet (fail)
    go_wp2
    go_ret2
    rw [← HR2.out]
    exact (hfin _).out
   ·
    rw [if_neg hneg] at hr
    have hfin := fun n => aa (vv (w := w) (n := n) HR.out r (by rw [if_neg hneg]; exact hr))
    have hd0 : decide (x' < 0) = false := by simp; omega
    have HR2 := aa hr
    clear HR hr
    go_wp2
    go_quiet (fail)
    go_wp2
    go_ret2
    rw [← HR2.out]
    exact (hfin _).out
  ·
   have hz : ((a' : Int) == 0) = false := by simp [h0]
   have hz2 : ((a' : Int) != 0) = true := by simp [h0]
   obtain ⟨hst, s1, s2, s3, s4, s5, s6⟩ := xX HR.out h0
   obtain ⟨q, hq⟩ : ∃ q, d' / a' = q := ⟨_, rfl⟩
   rw [hq] at hst s1 s2 s3 s4 s5 s6
   obtain ⟨u, hu⟩ : ∃ u, q * a' = u := ⟨_, rfl⟩
   obtain ⟨v, hv⟩ : ∃ v, q * n' = v := ⟨_, rfl⟩
   rw [hu, hv] at hst
   rw [hu] at s1 s2
   rw [hv] at s5 s6
   have Da := iM hst
   have HST := aa hst
   clear hst HR h0
   obtain ⟨t1, t2, _⟩ := Da
   go_wp2
   go_round
   case rel => exact ⟨_, _, _, _, rfl, rfl, rfl, rfl, HST⟩
   case measure => simp [intOf]; omega
def Cells (w : World) (b : Nat) (xs : List Int) : Prop := ∀ k, k < xs.length → w.cell? ⟨b, k, none⟩ = some (.int .i64 (xs.getD k 0))
theorem Cells.below {w w' : World} {b : Nat} {xs : List Int} (h : Cells w b xs) (hb : Below w.heap.size w w') : Cells w' b xs :=
 fun k hk => (hb.cell (World.block_lt_of_cell? _ _ (h k hk))).trans (h k hk)
def iq (P Q G : Int) (xs : List Int) : Int := if aC P Q G = true then (if xs.all (av P Q) = true then 0 else 2) else 1
theorem kg {f : Int → Bool} {xs : List Int} {k : Nat} (hk : k < xs.length) (h : f (xs.getD k 0) = true) : (xs.drop k).all f = (xs.drop (k + 1)).all f := by
 rw [List.drop_eq_getElem_cons hk, List.all_cons]
 rw [List.getD_eq_getElem?_getD, List.getElem?_eq_getElem hk] at h
 simp at h
 rw [h, Bool.true_and]
theorem l9 {f : Int → Bool} {xs : List Int} {k : Nat} (hk : k < xs.length) (h : f (xs.getD k 0) = false) : (xs.drop k).all f = false := by
 rw [List.drop_eq_getElem_cons hk, List.all_cons]
 rw [List.getD_eq_getElem?_getD, List.getElem?_eq_getElem hk] at h
 simp at h
 rw [h, Bool.false_and]
theorem Bb (P Q G : Int) (b : Nat) (n c : Nat) (hv0 : Hid (aC P Q G = false)) (hQ : Q < 9223372036854775808) (w : World) (hv : Hid (Vars w)) :
  Calls Tryz.prog 64 #[gv P Q G, .slice (some ⟨b, 0, none⟩) n c] w (Rt w (.int .i64 1)) := by
 have HB0 := aa (bD w P Q G)
 have sV := aa (hv.out.below (af w (bA P Q G)))
 go_in
 go_wp2_with fail
 refine (dS P Q G false hv0 hQ _ sV).mono ?_
 rintro e w1 ⟨rfl, hb0⟩
 have hb1 := ag (af _ _) hb0
 clear hb0
 go_wp2
 go_ret
 exact ⟨rfl, hb1⟩
theorem ym (P Q G : Int) (b : Nat) (xs : List Int) (c : Nat) (hlen : xs.length < 1000) (r : Int) (hr : Hid ((if xs.all (av P Q) = true then 0 else 2) = r)) (hv0 : Hid (aC P Q G = true)) (hQ : Q < 9223372036854775808) (w : World) (hv : Hid (Vars w)) (hc : Hid (Cells w b xs)) :
  Calls Tryz.prog 64 #[gv P Q G, .slice (some ⟨b, 0, none⟩) xs.length c] w (Rt w (.int .i64 r)) := by
 obtain ⟨hp2, hp, hq3, Eo⟩ := aJ hv0.out
 have HB0 := aa (bD w P Q G)
 have sV := aa (hv.out.below (af w (bA P Q G)))
 have Gb := aa (hc.out.below (af w (bA P Q G)))
 obtain ⟨n, hn⟩ : ∃ n, xs.length = n := ⟨_, rfl⟩
 rw [hn] at hlen ⊢
 have HN := aa hn
 clear hn
 go_in
 go_wp2_with fail
 refine (dS P Q G true hv0 hQ _ sV).mono ?_
 rintro e w1 ⟨rfl, hb0⟩
 have HB1 := aa (ag (af _ _) hb0)
 have tT := aa (HB0.out.below hb0)
 have yZ := aa (Gb.out.below hb0)
 clear hb0
 go_wp2
 go_loopw [12] (fun i wr => ∃ k : Nat, k ≤ n ∧ i = .int .i64 k ∧ Hid (xs.all (av P Q) = (xs.drop k).all (av P Q)) ∧ Hid (Below w1.heap.size w1 wr)) (fun i _ => n - (intOf i).toNat)
 case atStart => exact ⟨0, by omega, rfl, aa rfl, aa (Below.refl _ _)⟩
 case round =>
  obtain ⟨k, hk, rfl, HR, aG⟩ := hrel
  by_cases hlt : k < n
  ·
   have hkl : k < xs.length := by rw [HN.out]; exact hlt
   have hi := yZ.out.below aG.out k hkl
   obtain ⟨c0, c1, c2⟩ := tT.out.below aG.out
   cases hm : av P Q (xs.getD k 0) with
   | true =>
    have HS : Hid (xs.all (av P Q) = (xs.drop (k + 1)).all (av P Q)) := aa (HR.out.trans (kg hkl hm))
    obtain ⟨x, hx⟩ : ∃ x, xs.getD k 0 = x := ⟨_, rfl⟩
    rw [hx] at hi hm
    have HM := aa hm
    clear hx hm HR hkl
    go_wp2_with fail
    refine (jC P Q G x true HM hp (by omega) hQ _).mono ?_
    rintro e w2 ⟨rfl, hb0⟩
    have HB2 := aa (ag aG.out hb0)
    clear hb0
    go_wp2
    go_roundw
    case rel => exact ⟨k + 1, by omega, by go_num, HS, HB2⟩
    case measure => simp [intOf]; omega
   | false =>
    obtain rfl : r = 2 := by rw [← hr.out, HR.out, l9 hkl hm]; rfl
    obtain ⟨x, hx⟩ : ∃ x, xs.getD k 0 = x := ⟨_, rfl⟩
    rw [hx] at hi hm
    have HM := aa hm
    clear hx hm HR hkl
    go_wp2_with fail
    refine (jC P Q G x false HM hp (by omega) hQ _).mono ?_
    rintro e w2 ⟨rfl, hb0⟩
    have HB2 := aa (ag (ag HB1.out aG.out) hb0)
    clear hb0
    go_wp2
    go_ret
    exact ⟨rfl, HB2.out⟩
  ·
   obtain rfl : k = n := by omega
   obtain rfl : r = 0 := by rw [← hr.out, HR.out, ← HN.out]; simp
   have HB2 := aa (ag HB1.out aG.out)
   clear HR
   go_wp2
   go_ret
   exact ⟨rfl, HB2.out⟩
theorem kJ (P Q G : Int) (b : Nat) (xs : List Int) (n c : Nat) (hn : Hid (xs.length = n)) (hlen : n < 1000) (r : Int) (hr : Hid (iq P Q G xs = r)) (hQ : Q < 9223372036854775808) (w : World) (hv : Hid (Vars w)) (hc : Hid (Cells w b xs)) :
  Calls Tryz.prog 64 #[gv P Q G, .slice (some ⟨b, 0, none⟩) n c] w (Rt w (.int .i64 r)) := by
 cases hval : aC P Q G with
 | false =>
  obtain rfl : r = 1 := by rw [← hr.out, iq, hval]; rfl
  exact Bb P Q G b n c hval hQ w hv
 | true =>
  rw [← hn.out]
  refine ym P Q G b xs c (by rw [hn.out]; exact hlen) r ?_ hval hQ w hv hc
  rw [← hr.out, iq, if_pos hval]; exact rfl
def Sl (w : World) (A : Option Addr) (xs : List Int) : Prop := ∀ k, k < xs.length → ∃ b o, A = some ⟨b, o, none⟩ ∧ w.cell? ⟨b, o + k, none⟩ = some (.int .i64 (xs.getD k 0))
theorem Sl.below {w w' : World} {A : Option Addr} {xs : List Int} (h : Sl w A xs) (hb : Below w.heap.size w w') : Sl w' A xs := fun k hk => by
 obtain ⟨b, o, h1, h2⟩ := h k hk
 exact ⟨b, o, h1, (hb.cell (World.block_lt_of_cell? _ _ h2)).trans h2⟩
def Says (g : FuncId) (caps : Array Value) (p : Int → Bool) (W : World) : Prop :=
 ∀ (x : Int) (w1 : World), Below W.heap.size W w1 → Calls Tryz.prog g (#[.int .i64 x] ++ caps) w1 fun e w' => e = .returned (.bool (p x)) ∧ Below w1.heap.size w1 w'
theorem bT {f : Int → Bool} {xs : List Int} {k : Nat} (hk : k < xs.length) (h : f (xs.getD k 0) = false) : (xs.drop k).any f = (xs.drop (k + 1)).any f := by
 rw [List.drop_eq_getElem_cons hk, List.any_cons]
 rw [List.getD_eq_getElem?_getD, List.getElem?_eq_getElem hk] at h
 simp at h
 rw [h, Bool.false_or]
theorem bL {f : Int → Bool} {xs : List Int} {k : Nat} (hk : k < xs.length) (h : f (xs.getD k 0) = true) : (xs.drop k).any f = true := by
 rw [List.drop_eq_getElem_cons hk, List.any_cons]
 rw [List.getD_eq_getElem?_getD, List.getElem?_eq_getElem hk] at h
 simp at h
 rw [h, Bool.true_or]
def ng (p : Int → Bool) (xs : List Int) (w : World) (e : Ending) (w' : World) : Prop := ∃ i : Int, e = .returned (.int .i64 i) ∧ decide (0 ≤ i) = xs.any p ∧ Below w.heap.size w w'
theorem Il (c0 : Value) (p : Int → Bool) (A : Option Addr) (xs : List Int) (n c : Nat) (hn : Hid (xs.length = n)) (hbig : Hid (n < 1000000)) (w : World) (hs : Hid (Sl w A xs)) (hp : Hid (Says 39 #[c0] p w)) :
  Calls Tryz.prog 68 #[.slice A n c, .func (.func 39) #[] #[c0]] w (ng p xs w) := by
 have hn0 : n < 1000000 := hbig.out
 go_in
 go_wp2
 go_loopw [8] (fun i wr => ∃ k : Nat, k ≤ n ∧ i = .int .i64 k ∧ Hid (xs.any p = (xs.drop k).any p) ∧ Hid (Below w.heap.size w wr)) (fun i _ => n - (intOf i).toNat)
 case atStart => exact ⟨0, by omega, rfl, aa rfl, aa (Below.refl _ _)⟩
 case round =>
  obtain ⟨k, hk, rfl, HR, aG⟩ := hrel
  by_cases hlt : k < n
  ·
   have hkl : k < xs.length := by rw [hn.out]; exact hlt
   obtain ⟨b, o, hA, hi0⟩ := hs.out k hkl
   subst hA
   have hi := (aG.out.cell (World.block_lt_of_cell? _ _ hi0)).trans hi0
   cases hpx : p (xs.getD k 0) with
   | false =>
    have HN : Hid (xs.any p = (xs.drop (k + 1)).any p) := aa (HR.out.trans (bT hkl hpx))
    obtain ⟨x, hx⟩ : ∃ x, xs.getD k 0 = x := ⟨_, rfl⟩
    rw [hx] at hi hpx
    have HC := aa (hp.out x wr aG.out)
    have pY := aa hpx
    clear hi0 hx hkl hpx HR
    go_wp2_with fail
    refine HC.out.mono ?_
    rintro e w2 ⟨rfl, hb0⟩
    rw [pY.out]
    have HB2 := aa (ag aG.out hb0)
    clear hb0
    go_wp2
    go_roundw
    case rel => exact ⟨k + 1, by omega, by go_num, HN, HB2⟩
    case measure => simp [intOf]; omega
   | true =>
    have HN : Hid (decide ((0 : Int) ≤ (k : Int)) = xs.any p) := aa (by rw [HR.out, bL hkl hpx]; simp)
    obtain ⟨x, hx⟩ : ∃ x, xs.getD k 0 = x := ⟨_, rfl⟩
    rw [hx] at hi hpx
    have HC := aa (hp.out x wr aG.out)
    have pY := aa hpx
    clear hi0 hx hkl hpx HR
    go_wp2_with fail
    refine HC.out.mono ?_
    rintro e w2 ⟨rfl, hb0⟩
    rw [pY.out]
    have HB2 := aa (ag aG.out hb0)
    clear hb0
    go_wp2
    go_ret
    exact ⟨k, rfl, HN.out, HB2.out⟩
  ·
   obtain rfl : k = n := by omega
   have HN : Hid (decide ((0 : Int) ≤ (-1 : Int)) = xs.any p) := aa (by rw [HR.out, ← hn.out]; simp)
   clear HR hlt
   go_wp2
   go_ret
   exact ⟨-1, rfl, HN.out, aG.out⟩
theorem LA (c0 : Value) (p : Int → Bool) (r : Bool) (A : Option Addr) (xs : List Int) (n c : Nat) (hr : Hid (xs.any p = r)) (hn : Hid (xs.length = n)) (hbig : Hid (n < 1000000)) (w : World) (hs : Hid (Sl w A xs)) (hp : Hid (Says 39 #[c0] p w)) :
  Calls Tryz.prog 38 #[.slice A n c, .func (.func 39) #[] #[c0]] w fun e w' => e = .returned (.bool r) ∧ Below w.heap.size w w' := by
 go_in
 go_wp2_with fail
 refine (Il c0 p A xs n c hn hbig _ hs hp).mono ?_
 rintro e w1 ⟨i, rfl, hi, hb1⟩
 have hd : decide ((0 : Int) ≤ i) = r := hi.trans hr.out
 clear hi
 go_wp2
 go_ret
 exact ⟨by first | rfl | (rw [← hd]) | simp [hd], hb1⟩
theorem jM : (Tryz.prog.info? 3).map (fun i => (i.zero, i.size, i.bytes)) = some (some (.int .i64 0), 1, 8) := by kernel_rfl
def fF (w : World) (B n : Nat) (f : Nat → Int) : Prop := (∀ j, j < n → w.cell? ⟨B, j, none⟩ = some (.int .i64 (f j))) ∧ (∀ j, w.frozen? ⟨B, j, none⟩ = false)
theorem aj {w : World} {g : Nat} {cs : Array Value} {T : TypeId} (h : w.heap[g]? = some (.cells cs T)) (j : Nat) : w.cell? ⟨g, j, none⟩ = cs[j]? := by simp [World.cell?, h]
theorem aP {w : World} {g : Nat} {cs : Array Value} {T : TypeId} (h : w.heap[g]? = some (.cells cs T)) (j : Nat) : w.frozen? ⟨g, j, none⟩ = false := by simp [World.frozen?, h]
theorem jG (w : World) (T : TypeId) (n : Nat) : fF (w.alloc (.cells (madeCells #[.int .i64 0] n) T)) w.heap.size n (fun _ => 0) := by
 have hh : (w.alloc (.cells (madeCells #[.int .i64 0] n) T)).heap[w.heap.size]? = some (.cells (madeCells #[.int .i64 0] n) T) := heap_alloc_new _ _
 refine ⟨fun j hj => ?_, fun j => aP hh j⟩
 rw [aj hh, ← Array.getElem?_toList, toList_madeCells_one, List.getElem?_replicate, if_pos hj]
theorem g_ {w : World} {B n k : Nat} {f : Nat → Int} (h : fF w B n f) (hk : k < n) (v : Int) : fF (w.setCell ⟨B, k, none⟩ (.int .i64 v)) B n (fun j => if j = k then v else f j) := by
 refine ⟨fun j hj => ?_, fun j => by rw [World.frozen?_setCell]; exact h.2 j⟩
 dsimp only
 by_cases hjk : j = k
 ·
  subst hjk
  rw [World.cell?_setCell_same _ _ _ (h.1 j hj), if_pos rfl]
 ·
  rw [World.cell?_setCell_other _ _ _ _ (by intro e; injection e with _ e2; omega), if_neg hjk]
  exact h.1 j hj
def dI (m : Int) (n : Nat) : List Int := (List.range n).map fun i => m / 2 ^ i % 2
theorem ek (m : Int) (n : Nat) : (dI m n).length = n := by simp [dI]
theorem mY (m : Int) (n j : Nat) (hj : j < n) : (dI m n).getD j 0 = m / 2 ^ j % 2 := by
 rw [List.getD_eq_getElem?_getD, List.getElem?_eq_getElem (by rw [ek]; exact hj)]
 simp [dI]
def Gh (m : Int) (n : Nat) (w : World) (e : Ending) (w' : World) : Prop :=
 ∃ B, e = .returned (.tuple #[.slice (some ⟨B, 0, none⟩) n n, .int .i64 0]) ∧ Cells w' B (dI m n) ∧ Below w.heap.size w w'
theorem qU {n : Nat} (h : n ≤ 16) : 1 ≤ (2 : Int) ^ n ∧ (2 : Int) ^ n ≤ 65536 := by
 have h1 : (2 : Int) ^ n = ((2 ^ n : Nat) : Int) := by simp
 have h2 : 2 ^ n ≤ 2 ^ 16 := Nat.pow_le_pow_right (by omega) h
 have h3 : 0 < 2 ^ n := Nat.two_pow_pos n
 rw [h1]; omega
theorem zT (m : Int) (n : Nat) (h1 : 1 ≤ n) (h2 : n ≤ 16) (h0 : 0 ≤ m) (hm : m < 2 ^ n) (w : World) :
  Calls Tryz.prog 15 #[.int .i64 m, .int .i64 n] w (Gh m n w) := by
 have hmm := fun W => run_make_row' (P := Tryz.prog) 37 3 (.int .i64 0) 8 Tryz.underlying37 jM rfl .i64 .i64 n (by omega) (by omega) W
 obtain ⟨q1, q2⟩ := qU h2
 obtain ⟨M, hM⟩ : ∃ M, (2 : Int) ^ n = M := ⟨_, rfl⟩
 rw [hM] at q1 q2 hm
 have hsh : wrap64 ((2 : Int) ^ n) = M := by rw [hM]; exact IntWalk.wrap64_in _ (by omega)
 have d1 : decide ((n : Int) < 1) = false := by simp; omega
 have d2 : decide ((16 : Int) < (n : Int)) = false := by simp; omega
 have d3 : decide (m < 0) = false := by simp; omega
 have d4 : decide (M ≤ m) = false := by simp; omega
 have jT := aa (jG w 3 n)
 clear hM
 go_in
 go_wp2
 go_loopw [28] (fun i wr => ∃ k : Nat, k ≤ n ∧ i = .int .i64 k ∧ Hid (fF wr w.heap.size n (fun j => if j < k then m / 2 ^ j % 2 else 0)) ∧ Hid (Below w.heap.size w wr)) (fun i _ => n - (intOf i).toNat)
 case atStart => exact ⟨0, by omega, rfl, by simpa using jT, aa (af _ _)⟩
 case round =>
  obtain ⟨k, hk, rfl, HR, HB⟩ := hrel
  by_cases hlt : k < n
  ·
   have hcell : wr.cell? ⟨w.heap.size, k, none⟩ = some (.int .i64 0) := by
    have h3 := HR.out.1 k hlt
    simp only [Nat.lt_irrefl, if_false] at h3
    exact h3
   have hfz := HR.out.2 k
   have s0 : 0 ≤ m / 2 ^ k := Int.ediv_nonneg h0 (by have := (qU (n := k) (by omega)).1; omega)
   have s1 : m / 2 ^ k < 9223372036854775808 := by
    have h3 : m / 2 ^ k ≤ m := Int.ediv_le_self _ h0
    omega
   obtain ⟨s, hs⟩ : ∃ s, m / 2 ^ k = s := ⟨_, rfl⟩
   rw [hs] at s0 s1
   have hand := uY s s0 s1
   obtain ⟨t, ht⟩ : ∃ t, s % 2 = t := ⟨_, rfl⟩
   rw [ht] at hand
   have hz : 0 ≤ t ∧ t ≤ 1 := by omega
   have HN : Hid (fF (wr.setCell ⟨w.heap.size, k, none⟩ (.int .i64 t)) w.heap.size n (fun j => if j < k + 1 then m / 2 ^ j % 2 else 0)) := by
    have h3 := g_ HR.out hlt t
    have e : (fun j => if j = k then t else if j < k then m / 2 ^ j % 2 else 0) = (fun j => if j < k + 1 then m / 2 ^ j % 2 else 0) := by
     funext j
     by_cases hj : j = k
     · subst hj; rw [if_pos rfl, if_pos (by omega), hs, ht]
     ·
      rw [if_neg hj]
      by_cases hj2 : j < k
      · rw [if_pos hj2, if_pos (by omega)]
      · rw [if_neg hj2, if_neg (by omega)]
    rw [e] at h3
    exact h3
   have HB2 : Hid (Below w.heap.size w (wr.setCell ⟨w.heap.size, k, none⟩ (.int .i64 t))) := aa (HB.out.setCell (Nat.le_refl _) _)
   have hdiv : ((m : Int) / 2 ^ k) = s := hs
   clear ht HR
   go_wp2
   go_roundw
   case rel => exact ⟨k + 1, by omega, by go_num, HN, HB2⟩
   case measure => simp [intOf]; omega
  ·
   obtain rfl : k = n := by omega
   have HC : Hid (Cells wr w.heap.size (dI m k)) := aa (fun j hj => by
    rw [ek] at hj
    rw [mY m k j hj, HR.out.1 j hj]; dsimp only; rw [if_pos hj])
   clear HR hlt
   go_wp2
   go_ret2
   exact ⟨w.heap.size, rfl, HC.out, HB.out⟩
def sQ (w : World) (base : Nat) (v : Value) (xs : List Int) : Prop := w.ownsRow base 3 1 v xs.length (xs.map (Value.int .i64))
theorem sQ.cells {w : World} {B : Nat} {v : Value} {xs : List Int} (h : sQ w B v xs) (hne : 0 < xs.length) : ∃ g cap, v = .slice (some ⟨g, 0, none⟩) xs.length cap ∧ B ≤ g ∧ Cells w g xs := by
 obtain ⟨h1, h2⟩ := h
 rcases h2 with ⟨_, h0⟩ | ⟨g, cap, cur, rfl, hg, hh, hn, hc, hs, ht⟩
 · omega
 ·
  refine ⟨g, cap, rfl, hg, fun j hj => ?_⟩
  rw [aj hh]
  have e : cur.toList[j]? = (xs.map (Value.int .i64))[j]? := by
   rw [← ht, List.getElem?_take_of_lt (by omega)]
  rw [← Array.getElem?_toList, e, List.getElem?_map, List.getElem?_eq_getElem hj, List.getD_eq_getElem?_getD, List.getElem?_eq_getElem hj]
  rfl
theorem EW {k : IntKind} {a b : Int} (h : a = b) : Ending.returned (.int k a) = .returned (.int k b) := by rw [h]
def eu (a b m a' b' o : Int) : Prop := (o + a' * b') % m = a * b % m
theorem sw (a b m : Int) : eu a b m a b 0 := by unfold eu; rw [Int.zero_add]
theorem xE {a b m a' b' o k : Int} (h : eu a b m a' b' o) (hb : b' = 2 * k + 1) : eu a b m ((a' + a') % m) k ((o + a') % m) := by
 unfold eu at *
 rw [← h, hb, Int.emod_add_emod, Int.add_emod, Int.mul_emod, Int.emod_emod_of_dvd _ (Int.dvd_refl m), ← Int.mul_emod, ← Int.add_emod]
 congr 1
 rw [Int.mul_add, Int.add_mul, Int.mul_one, ← Int.mul_assoc, Int.mul_comm a' 2, Int.mul_assoc]
 omega
theorem uQ {a b m a' b' o k : Int} (h : eu a b m a' b' o) (hb : b' = 2 * k) : eu a b m ((a' + a') % m) k o := by
 unfold eu at *
 rw [← h, hb, Int.add_emod, Int.mul_emod, Int.emod_emod_of_dvd _ (Int.dvd_refl m), ← Int.mul_emod, ← Int.add_emod]
 congr 1
 rw [Int.add_mul, ← Int.mul_assoc, Int.mul_comm a' 2, Int.mul_assoc]
 omega
theorem uR {a b m a' o : Int} (h : eu a b m a' 0 o) (h0 : 0 ≤ o) (h1 : o < m) : o = a * b % m := by
 unfold eu at h
 rw [← h, Int.mul_zero, Int.add_zero, Int.emod_eq_of_lt h0 h1]
theorem jg (a b m r : Int) (hr : Hid (a * b % m = r)) (hm : m < 2305843009213693952) (ha0 : 0 ≤ a) (ha : a < m) (hb0 : 0 ≤ b) (hb : b < m) (w : World) :
  Calls Tryz.prog 71 #[.int .i64 a, .int .i64 b, .int .i64 m] w fun e w' => e = .returned (.int .i64 r) ∧ w = w' := by
 have hmz : ((m : Int) == 0) = false := by simp; omega
 by_cases hs : a < 2147483648 ∧ b < 2147483648
 ·
  obtain ⟨hs1, hs2⟩ := hs
  have hp0 : 0 ≤ a * b := Int.mul_nonneg ha0 hb0
  have hp1 : a * b ≤ 2147483648 * 2147483648 := Int.mul_le_mul (by omega) (by omega) hb0 (by decide)
  obtain ⟨p, hp⟩ : ∃ p, a * b = p := ⟨_, rfl⟩
  have hr2 : p % m = r := by rw [← hp]; exact hr.out
  rw [hp] at hp0 hp1
  have hw : wrap64 (a * b) = p := by rw [hp]; exact IntWalk.wrap64_in _ (by omega)
  have HP := aa hp
  clear hp
  have HR := aa hr2
  clear hr2
  go_in
  go_wp2
  go_ret
  exact ⟨EW HR.out, rfl⟩
 ·
  have HS : Hid (eu a b m a b 0) := sw a b m
  by_cases ha2 : a < 2147483648
  all_goals
   first | (have hb2 : ¬ b < 2147483648 := by omega) | skip
   clear hs
   go_in
   go_wp2
   go_loop [0, 1, 7] (fun u v t => ∃ a' b' o : Int, u = .int .i64 a' ∧ v = .int .i64 b' ∧ t = .int .i64 o ∧ 0 ≤ a' ∧ a' < m ∧ 0 ≤ b' ∧ b' < m ∧ 0 ≤ o ∧ o < m ∧ Hid (eu a b m a' b' o)) (fun _ v _ => (intOf v).toNat)
   case atStart => exact ⟨a, b, 0, rfl, rfl, rfl, ha0, ha, hb0, hb, by omega, by omega, HS⟩
   case round =>
    obtain ⟨a', b', o, rfl, rfl, rfl, iZ, ha', TG, hb', ho0, ho', HR⟩ := hrel
    by_cases h0 : b' = 0
    ·
     subst h0
     obtain rfl := (uR HR.out ho0 ho').trans hr.out
     clear HR ho0 ho'
     go_wp2
     go_ret
     exact ⟨rfl, rfl⟩
    ·
     have hpos : decide (0 < b') = true := by simp; omega
     have Od : 1 ≤ b' := by omega
     have hq0 : 0 ≤ (a' + a') % m := Int.emod_nonneg _ (by omega)
     have hq1 : (a' + a') % m < m := Int.emod_lt_of_pos _ (by omega)
     by_cases hodd : b' % 2 = 1
     ·
      have ht : ((b' % 2 : Int) == 1) = true := by simp [hodd]
      have hp0 : 0 ≤ (o + a') % m := Int.emod_nonneg _ (by omega)
      have hp1 : (o + a') % m < m := Int.emod_lt_of_pos _ (by omega)
      have HN : Hid (eu a b m ((a' + a') % m) (b' / 2) ((o + a') % m)) := xE HR.out (by omega)
      clear h0 hodd
      go_wp2
      go_round
      case rel => exact ⟨_, b' / 2, _, rfl, rfl, rfl, hq0, hq1, by omega, by omega, hp0, hp1, HN⟩
      case measure => simp [intOf]; omega
     ·
      have ht : ((b' % 2 : Int) == 1) = false := by simp [hodd]
      have HN : Hid (eu a b m ((a' + a') % m) (b' / 2) o) := uQ HR.out (by omega)
      clear h0 hodd
      go_wp2
      go_round
      case rel => exact ⟨_, b' / 2, _, rfl, rfl, rfl, hq0, hq1, by omega, by omega, ho0, ho', HN⟩
      case measure => simp [intOf]; omega
theorem jf (a e m r : Int) (hr : Hid (pw a e m = r)) (h1 : 1 ≤ m) (h2 : m < 2305843009213693952) (ha0 : 0 ≤ a) (ha : a < m) (he0 : 0 ≤ e) (he : e < 9223372036854775808) (w : World) :
  Calls Tryz.prog 41 #[.int .i64 a, .int .i64 e, .int .i64 m] w fun e' w' => e' = .returned (.int .i64 r) ∧ w = w' := by
 have hm : ((m : Int) == 0) = false := by simp; omega
 have hx1 : Hid (0 ≤ 1 % m ∧ 1 % m < m) := ⟨Int.emod_nonneg _ (by omega), Int.emod_lt_of_pos _ (by omega)⟩
 have HS : Hid (bI a e m a e (1 % m)) := iG a e m
 go_in
 go_wp2
 go_loop [0, 1, 7] (fun u v t => ∃ a' e' x' : Int, u = .int .i64 a' ∧ v = .int .i64 e' ∧ t = .int .i64 x' ∧ 0 ≤ a' ∧ a' < m ∧ 0 ≤ e' ∧ e' < 9223372036854775808 ∧ 0 ≤ x' ∧ x' < m ∧ Hid (bI a e m a' e' x')) (fun _ v _ => (intOf v).toNat)
 case atStart => exact ⟨a, e, 1 % m, rfl, rfl, rfl, ha0, ha, he0, he, hx1.out.1, hx1.out.2, HS⟩
 case round =>
  obtain ⟨a', e', x', rfl, rfl, rfl, iZ, ha', FC, he', hx0', hx', HR⟩ := hrel
  by_cases h0 : e' = 0
  ·
   subst h0
   obtain rfl := (jl HR.out hx0' hx').trans hr.out
   clear HR hx0' hx'
   go_wp2
   go_ret
   exact ⟨rfl, rfl⟩
  ·
   have hpos : decide (0 < e') = true := by simp; omega
   have Od : 1 ≤ e' := by omega
   have hq0 : 0 ≤ a' * a' % m := Int.emod_nonneg _ (by omega)
   have hq1 : a' * a' % m < m := Int.emod_lt_of_pos _ (by omega)
   by_cases ho : e' % 2 = 1
   ·
    have ht : ((e' % 2 : Int) == 1) = true := by simp [ho]
    have hp0 : 0 ≤ x' * a' % m := Int.emod_nonneg _ (by omega)
    have hp1 : x' * a' % m < m := Int.emod_lt_of_pos _ (by omega)
    have HN : Hid (bI a e m (a' * a' % m) (e' / 2) (x' * a' % m)) := kz HR.out (by omega) (by omega)
    obtain ⟨q, hq⟩ : ∃ q, a' * a' % m = q := ⟨_, rfl⟩
    obtain ⟨p, hp⟩ : ∃ p, x' * a' % m = p := ⟨_, rfl⟩
    rw [hq] at hq0 hq1 HN
    rw [hp] at hp0 hp1 HN
    have HQ := aa hq
    have HP := aa hp
    clear hq hp ho h0
    go_wp2_with fail
    refine (jg _ _ _ p HP h2 hx0' hx' iZ ha' _).mono ?_
    rintro e w' ⟨rfl, rfl⟩
    go_wp2_with fail
    refine (jg _ _ _ q HQ h2 iZ ha' iZ ha' _).mono ?_
    rintro e w' ⟨rfl, rfl⟩
    go_wp2
    go_round
    case rel => exact ⟨q, e' / 2, p, rfl, rfl, rfl, hq0, hq1, by omega, by omega, hp0, hp1, HN⟩
    case measure => simp [intOf]; omega
   ·
    have ht : ((e' % 2 : Int) == 1) = false := by simp [ho]
    have HN : Hid (bI a e m (a' * a' % m) (e' / 2) x') := jk HR.out (by omega) (by omega)
    obtain ⟨q, hq⟩ : ∃ q, a' * a' % m = q := ⟨_, rfl⟩
    rw [hq] at hq0 hq1 HN
    have HQ := aa hq
    clear hq ho h0
    go_wp2_with fail
    refine (jg _ _ _ q HQ h2 iZ ha' iZ ha' _).mono ?_
    rintro e w' ⟨rfl, rfl⟩
    go_wp2
    go_round
    case rel => exact ⟨q, e' / 2, x', rfl, rfl, rfl, hq0, hq1, by omega, by omega, hx0', hx', HN⟩
    case measure => simp [intOf]; omega
theorem Lg {t j : Nat} {q e : Int} (hj : j < t) (he : e = 2 ^ (t - j) * q) : e % 2 = 0 ∧ e / 2 = 2 ^ (t - (j + 1)) * q := by
 have h : t - j = (t - (j + 1)) + 1 := by omega
 rw [h, Int.pow_succ, Int.mul_right_comm] at he
 omega
theorem oK (n a : Int) (h1 : 3 ≤ n) (h2 : n < 2305843009213693952) (ha0 : 0 ≤ a) (ha : a < n) (hodd : n % 2 = 1) (c : Bool) (hc : Hid (comp a n (nR n) (iD n) = c)) (w : World) :
  Calls Tryz.prog 70 #[.int .i64 n, .int .i64 a] w fun e' w' => e' = .returned (.bool (!c)) ∧ w = w' := by
 obtain ⟨ht1, m, hm0, hm1, hm2⟩ := qN (show 2 ≤ n by omega) (by omega)
 obtain ⟨s, hs⟩ : ∃ s, iD n = s := ⟨_, rfl⟩
 obtain ⟨d, hd⟩ : ∃ d, nR n = d := ⟨_, rfl⟩
 rw [hs] at hm1 ht1
 rw [hd] at hm2
 rw [hs, hd] at hc
 have hs1 : 1 ≤ s := by
  cases s with
  | zero => simp at hm1; omega
  | succ j => omega
 have hd0 : 0 ≤ d := by omega
 have hd2 : d % 2 = 1 := by omega
 have Om : n - 1 = 2 ^ s * d := by rw [hm2]; exact hm1
 have HM : Hid (n - 1 = 2 ^ (s - 0) * d) := Om
 have hdn : d ≤ n - 1 := by
  rw [Om]
  have h3 : (0 : Int) < 2 ^ s := Int.pow_pos (by decide)
  have h4 : 1 * d ≤ 2 ^ s * d := Int.mul_le_mul_of_nonneg_right (by omega) hd0
  omega
 have hb := Cy a d n (by omega)
 obtain ⟨x, hx⟩ : ∃ x, pw a d n = x := ⟨_, rfl⟩
 rw [hx] at hb
 obtain ⟨hb0, hb1⟩ := hb
 have HX := aa hx
 have HD2 := aa hd2
 clear hx hm1 hm2 Om hs hd hd2 hodd hm0
 go_in
 go_wp2
 go_loop [5, 6] (fun u v => ∃ (j : Nat) (e : Int), u = .int .i64 e ∧ v = .int .i64 j ∧ j ≤ s ∧ 0 ≤ e ∧ e ≤ n - 1 ∧ Hid (e = 2 ^ (s - j) * d)) (fun _ v => s - (intOf v).toNat)
 case atStart => exact ⟨0, n - 1, rfl, rfl, by omega, by omega, by omega, HM⟩
 case round =>
  obtain ⟨j, e, rfl, rfl, hj, he0, he1, HE⟩ := hrel
  by_cases hlt : j < s
  ·
   obtain ⟨g1, g2⟩ := Lg hlt HE.out
   have g3 : ((e % 2 : Int) == 0) = true := by simp [g1]
   have HN := aa g2
   clear g1 g2
   go_wp2
   go_round
   case rel => exact ⟨j + 1, e / 2, rfl, by go_num, by omega, by omega, by omega, HN⟩
   case measure => simp [intOf]; omega
  ·
   obtain rfl : j = s := by omega
   obtain rfl : e = d := by have := HE.out; rw [Nat.sub_self, Int.pow_zero, Int.one_mul] at this; exact this
   have g3 : ((e % 2 : Int) == 0) = false := by have := HD2.out; simp; omega
   clear HE HM
   by_cases hx1 : x = 1
   ·
    subst hx1
    obtain rfl : c = false := by rw [← hc.out]; exact l5 HX.out (.inl rfl)
    go_wp2_with fail
    refine (jf a e n 1 HX (by omega) h2 ha0 ha he0 (by omega) _).mono ?_
    rintro e w' ⟨rfl, rfl⟩
    go_wp2
    go_ret
    exact ⟨rfl, rfl⟩
   by_cases hx2 : x = n - 1
   ·
    have g1 : ((x : Int) == 1) = false := by simp [hx1]
    have g2 : ((x : Int) == n - 1) = true := by simp [hx2]
    obtain rfl : c = false := by rw [← hc.out]; exact l5 HX.out (.inr hx2)
    clear hx1 hx2
    go_wp2_with fail
    refine (jf a e n x HX (by omega) h2 ha0 ha he0 (by omega) _).mono ?_
    rintro e w' ⟨rfl, rfl⟩
    go_wp2
    go_ret
    exact ⟨rfl, rfl⟩
   have g1 : ((x : Int) == 1) = false := by simp [hx1]
   have g2 : ((x : Int) == n - 1) = false := by simp [hx2]
   have HS : Hid (sq n (j - 1) x = c) := by rw [← hc.out]; exact (rE HX.out hx1 hx2).symm
   clear hx1 hx2
   go_wp2_with fail
   refine (jf a e n x HX (by omega) h2 ha0 ha he0 (by omega) _).mono ?_
   rintro e w' ⟨rfl, rfl⟩
   go_wp2
   go_loop [7, 8] (fun u v => ∃ (k : Nat) (y : Int), u = .int .i64 y ∧ v = .int .i64 ((k : Int) + 1) ∧ k + 1 ≤ j ∧ 0 ≤ y ∧ y < n ∧ Hid (sq n (j - 1 - k) y = c)) (fun _ v => j - (intOf v).toNat)
   case atStart => exact ⟨0, x, rfl, rfl, hs1, hb0, hb1, HS⟩
   case round =>
    obtain ⟨k, y, rfl, rfl, hk, hy0, hy1, HR⟩ := hrel
    by_cases hlt : k + 1 < j
    ·
     have hd : decide ((k : Int) + 1 < (j : Int)) = true := by simp; omega
     have hz0 : 0 ≤ y * y % n := Int.emod_nonneg _ (by omega)
     have hz1 : y * y % n < n := Int.emod_lt_of_pos _ (by omega)
     obtain ⟨z, hz⟩ : ∃ z, y * y % n = z := ⟨_, rfl⟩
     rw [hz] at hz0 hz1
     have HZ := aa hz
     clear hz
     by_cases hzn : z = n - 1
     ·
      have g4 : ((z : Int) == n - 1) = true := by simp [hzn]
      obtain rfl : c = false := by rw [← HR.out]; exact BR (by omega) HZ.out hzn
      clear hzn
      go_wp2_with fail
      refine (jg _ _ _ z HZ h2 hy0 hy1 hy0 hy1 _).mono ?_
      rintro e w' ⟨rfl, rfl⟩
      go_wp2
      go_ret
      exact ⟨rfl, rfl⟩
     ·
      have g4 : ((z : Int) == n - 1) = false := by simp [hzn]
      have HN : Hid (sq n (j - 1 - (k + 1)) z = c) := by rw [← HR.out, zm (j := j - 1 - k) (by omega) HZ.out hzn]; rfl
      clear hzn
      go_wp2_with fail
      refine (jg _ _ _ z HZ h2 hy0 hy1 hy0 hy1 _).mono ?_
      rintro e w' ⟨rfl, rfl⟩
      go_wp2
      go_round
      case rel => exact ⟨k + 1, z, rfl, by go_num, by omega, hz0, hz1, HN⟩
      case measure => simp [intOf]; omega
    ·
     have hd : decide ((k : Int) + 1 < (j : Int)) = false := by simp; omega
     obtain rfl : c = true := by rw [← HR.out, show j - 1 - k = 0 from by omega]; rfl
     go_wp2
     go_ret
     exact ⟨rfl, rfl⟩
theorem ET (n : Int) (h : n < 2) (b : Bool) (hb : Hid (iX n = b)) (w : World) :
  Calls Tryz.prog 40 #[.int .i64 n] w fun e' w' => e' = .returned (.bool b) ∧ Below w.heap.size w w' := by
 obtain rfl : b = false := by rw [← hb.out]; unfold iX; rw [if_pos h]
 go_in
 go_wp2
 go_ret
 exact ⟨rfl, Below.refl _ _⟩
theorem FU (w : World) (T : TypeId) : ∀ k : Nat, k < 12 → (w.alloc (.cells #[.int .i64 2, .int .i64 3, .int .i64 5, .int .i64 7, .int .i64 11, .int .i64 13, .int .i64 17, .int .i64 19, .int .i64 23, .int .i64 29, .int .i64 31, .int .i64 37] T)).cell? ⟨w.heap.size, k, none⟩ = some (.int .i64 (bs k)) := by
 intro k hk
 rw [World.cell?_alloc_at _ _ _ _ rfl]
 match k, hk with
 | 0, _ => rfl
 | 1, _ => rfl
 | 2, _ => rfl
 | 3, _ => rfl
 | 4, _ => rfl
 | 5, _ => rfl
 | 6, _ => rfl
 | 7, _ => rfl
 | 8, _ => rfl
 | 9, _ => rfl
 | 10, _ => rfl
 | 11, _ => rfl
 | k + 12, h => exact absurd h (by omega)
theorem EU (n : Int) (h : 2 ≤ n) (h2 : n < 2305843009213693952) (b : Bool) (hb : Hid (iX n = b)) (w : World) :
  Calls Tryz.prog 40 #[.int .i64 n] w fun e' w' => e' = .returned (.bool b) ∧ Below w.heap.size w w' := by
 have HB : Hid (Below w.heap.size w (w.alloc (.cells #[.int .i64 2, .int .i64 3, .int .i64 5, .int .i64 7, .int .i64 11, .int .i64 13, .int .i64 17, .int .i64 19, .int .i64 23, .int .i64 29, .int .i64 31, .int .i64 37] 3))) := (Below.refl _ _).alloc (Nat.le_refl _) _
 have hcells := aa (FU w 3)
 go_in
 go_wp2
 go_loop [4] (fun i => ∃ k : Nat, k ≤ 12 ∧ i = .int .i64 k ∧ Hid (aU n jr = aU n (jr.drop k))) (fun i => 12 - (intOf i).toNat)
 case atStart => exact ⟨0, by omega, rfl, rfl⟩
 case round =>
  obtain ⟨k, hk, rfl, HR⟩ := hrel
  by_cases hlt : k < 12
  ·
   have hi := hcells.out k hlt
   have hbp := sM k hlt
   by_cases hz : n % bs k = 0
   ·
    have HD := aa (HR.out.trans (jD n k hlt hz))
    obtain ⟨p, hp⟩ : ∃ p, bs k = p := ⟨_, rfl⟩
    rw [hp] at hi hbp hz HD
    clear hp
    have hz2 : ((n % p : Int) == 0) = true := by simp [hz]
    have hb2 : ((n : Int) == p) = b := by rw [← hb.out, uW h HD.out]; rfl
    obtain ⟨hb4, hb5⟩ := hbp
    clear hz HD HR
    go_wp2
    go_ret
    exact ⟨rfl, HB.out⟩
   ·
    have HD : Hid (aU n jr = aU n (jr.drop (k + 1))) := HR.out.trans (lY n k hlt hz)
    obtain ⟨p, hp⟩ : ∃ p, bs k = p := ⟨_, rfl⟩
    rw [hp] at hi hbp hz
    clear hp
    have hz2 : ((n % p : Int) == 0) = false := by simp [hz]
    obtain ⟨hb4, hb5⟩ := hbp
    clear hz
    go_wp2
    go_round
    case rel => exact ⟨k + 1, by omega, by go_num, HD⟩
    case measure => simp [intOf]; omega
  ·
   obtain rfl : k = 12 := by omega
   have hnone : aU n jr = none := HR.out
   have Oj := uO h hnone
   have hodd := aa (uM hnone)
   have HF : Hid (cO n (nR n) (iD n) (jr.drop 0) = b) := by rw [← hb.out]; exact (uX h hnone).symm
   clear hnone HR hk
   go_wp2
   go_loop [5] (fun i => ∃ k : Nat, k ≤ 12 ∧ i = .int .i64 k ∧ Hid (cO n (nR n) (iD n) (jr.drop k) = b)) (fun i => 12 - (intOf i).toNat)
   case atStart => exact ⟨0, by omega, rfl, HF⟩
   case round =>
    obtain ⟨k, hk, rfl, HR⟩ := hrel
    by_cases hlt : k < 12
    ·
     have hi := hcells.out k hlt
     have hbp := sM k hlt
     cases hcc : comp (bs k) n (nR n) (iD n) with
     | true =>
      have HD := aa (HR.out.symm.trans (nL n _ _ k hlt hcc))
      obtain ⟨p, hp⟩ : ∃ p, bs k = p := ⟨_, rfl⟩
      rw [hp] at hi hbp hcc
      clear hp
      have HC := aa hcc
      obtain ⟨hb4, hb5⟩ := hbp
      obtain rfl : b = false := HD.out
      clear hcc HD HR
      go_wp2_with fail
      refine (oK n p (by omega) h2 (by omega) (by omega) hodd.out true HC _).mono ?_
      rintro e w' ⟨rfl, rfl⟩
      go_wp2
      go_ret
      exact ⟨rfl, HB.out⟩
     | false =>
      have HD : Hid (cO n (nR n) (iD n) (jr.drop (k + 1)) = b) := (l_ n _ _ k hlt hcc).symm.trans HR.out
      obtain ⟨p, hp⟩ : ∃ p, bs k = p := ⟨_, rfl⟩
      rw [hp] at hi hbp hcc
      clear hp
      have HC := aa hcc
      obtain ⟨hb4, hb5⟩ := hbp
      clear hcc HR
      go_wp2_with fail
      refine (oK n p (by omega) h2 (by omega) (by omega) hodd.out false HC _).mono ?_
      rintro e w' ⟨rfl, rfl⟩
      go_wp2
      go_round
      case rel => exact ⟨k + 1, by omega, by go_num, HD⟩
      case measure => simp [intOf]; omega
    ·
     obtain rfl : k = 12 := by omega
     obtain rfl : b = true := HR.out.symm
     clear HR
     go_wp2
     go_ret
     exact ⟨rfl, HB.out⟩
theorem lu (n : Int) (h2 : n < 2305843009213693952) (b : Bool) (hb : Hid (iX n = b)) (w : World) :
  Calls Tryz.prog 40 #[.int .i64 n] w fun e' w' => e' = .returned (.bool b) ∧ Below w.heap.size w w' := by
 by_cases h : n < 2
 · exact ET n h b hb w
 · exact EU n (by omega) h2 b hb w
theorem Cn (P Q G : Int) (h0 : P < 3) (w : World) :
  Calls Tryz.prog 19 #[gv P Q G] w (Rt w (.bool false)) := by
 go_in
 go_wp2
 go_ret
 exact ⟨rfl, af _ _⟩
theorem Cm (P Q G : Int) (h0 : 3 ≤ P) (h1 : 2305843009213693952 ≤ P) (w : World) :
  Calls Tryz.prog 19 #[gv P Q G] w (Rt w (.bool false)) := by
 go_in
 go_wp2
 go_ret
 exact ⟨rfl, af _ _⟩
theorem Ck (P Q G : Int) (h0 : 3 ≤ P) (h1 : P < 2305843009213693952) (h2 : Q < 3) (w : World) :
  Calls Tryz.prog 19 #[gv P Q G] w (Rt w (.bool false)) := by
 go_in
 go_wp2
 go_ret
 exact ⟨rfl, af _ _⟩
theorem Cj (P Q G : Int) (h0 : 3 ≤ P) (h1 : P < 2305843009213693952) (h2 : 3 ≤ Q) (h3 : Hid (Q % 2 = 0)) (w : World) :
  Calls Tryz.prog 19 #[gv P Q G] w (Rt w (.bool false)) := by
 have g3 : ((Q % 2 : Int) == 0) = true := by rw [h3.out]; rfl
 go_in
 go_wp2
 go_ret
 exact ⟨rfl, af _ _⟩
theorem Ci (P Q G : Int) (h0 : 3 ≤ P) (h1 : P < 2305843009213693952) (h2 : 3 ≤ Q) (h3 : Hid (Q % 2 = 1)) (hQ : Q < 9223372036854775808) (h6 : Hid ((P - 1) % Q ≠ 0)) (w : World) :
  Calls Tryz.prog 19 #[gv P Q G] w (Rt w (.bool false)) := by
 have g3 : ((Q % 2 : Int) == 0) = false := by have := h3.out; simp; omega
 have g6 : (((P - 1) % Q : Int) == 0) = false := by have := h6.out; simp; omega
 have FK : (((P - 1) % Q : Int) != 0) = true := by have := h6.out; simp; omega
 go_in
 go_wp2
 go_ret
 exact ⟨rfl, af _ _⟩
theorem Ch (P Q G : Int) (h0 : 3 ≤ P) (h1 : P < 2305843009213693952) (h2 : 3 ≤ Q) (h3 : Hid (Q % 2 = 1)) (hQ : Q < 9223372036854775808) (h6 : Hid ((P - 1) % Q = 0)) (h7 : G < 2) (w : World) :
  Calls Tryz.prog 19 #[gv P Q G] w (Rt w (.bool false)) := by
 have g3 : ((Q % 2 : Int) == 0) = false := by have := h3.out; simp; omega
 have g6 : (((P - 1) % Q : Int) == 0) = true := by rw [h6.out]; rfl
 have FK : (((P - 1) % Q : Int) != 0) = false := by rw [h6.out]; rfl
 go_in
 go_wp2
 go_ret
 exact ⟨rfl, af _ _⟩
theorem Cg (P Q G : Int) (h0 : 3 ≤ P) (h1 : P < 2305843009213693952) (h2 : 3 ≤ Q) (h3 : Hid (Q % 2 = 1)) (hQ : Q < 9223372036854775808) (h6 : Hid ((P - 1) % Q = 0)) (h7 : 2 ≤ G) (h8 : P ≤ G) (w : World) :
  Calls Tryz.prog 19 #[gv P Q G] w (Rt w (.bool false)) := by
 have g3 : ((Q % 2 : Int) == 0) = false := by have := h3.out; simp; omega
 have g6 : (((P - 1) % Q : Int) == 0) = true := by rw [h6.out]; rfl
 have FK : (((P - 1) % Q : Int) != 0) = false := by rw [h6.out]; rfl
 go_in
 go_wp2
 go_ret
 exact ⟨rfl, af _ _⟩
theorem Cf (P Q G : Int) (h0 : 3 ≤ P) (h1 : P < 2305843009213693952) (h2 : 3 ≤ Q) (h3 : Hid (Q % 2 = 1)) (hQ : Q < 9223372036854775808) (h6 : Hid ((P - 1) % Q = 0)) (h7 : 2 ≤ G) (h8 : G < P) (De : Q < P) (h4 : Hid (iX P = false)) (w : World) :
  Calls Tryz.prog 19 #[gv P Q G] w (Rt w (.bool false)) := by
 have g3 : ((Q % 2 : Int) == 0) = false := by have := h3.out; simp; omega
 have g6 : (((P - 1) % Q : Int) == 0) = true := by rw [h6.out]; rfl
 have FK : (((P - 1) % Q : Int) != 0) = false := by rw [h6.out]; rfl
 have g8 : decide (P ≤ G) = false := by simp; omega
 go_in
 go_wp2_with fail
 refine (lu P h1 false h4 _).mono ?_
 rintro e w1 ⟨rfl, hb0⟩
 have hb1 := ag (af _ _) hb0
 have hcell : ∀ j, w1.cell? ⟨w.heap.size, j, none⟩ = (w.alloc (bA P Q G)).cell? ⟨w.heap.size, j, none⟩ := fun j => hb0.cell (p := ⟨w.heap.size, j, none⟩) (by simp)
 have c0 : w1.cell? ⟨w.heap.size, 0, none⟩ = some (.int .i64 P) := (hcell 0).trans (World.cell?_alloc_at _ _ _ _ rfl)
 have c1 : w1.cell? ⟨w.heap.size, 1, none⟩ = some (.int .i64 Q) := (hcell 1).trans (World.cell?_alloc_at _ _ _ _ rfl)
 have c2 : w1.cell? ⟨w.heap.size, 2, none⟩ = some (.int .i64 G) := (hcell 2).trans (World.cell?_alloc_at _ _ _ _ rfl)
 clear hcell hb0
 go_wp2
 go_ret
 exact ⟨rfl, by first | exact hb1 | exact hb2⟩
theorem Ce (P Q G : Int) (h0 : 3 ≤ P) (h1 : P < 2305843009213693952) (h2 : 3 ≤ Q) (h3 : Hid (Q % 2 = 1)) (hQ : Q < 9223372036854775808) (h6 : Hid ((P - 1) % Q = 0)) (h7 : 2 ≤ G) (h8 : G < P) (De : Q < P) (h4 : Hid (iX P = true)) (h5 : Hid (iX Q = false)) (w : World) :
  Calls Tryz.prog 19 #[gv P Q G] w (Rt w (.bool false)) := by
 have g3 : ((Q % 2 : Int) == 0) = false := by have := h3.out; simp; omega
 have g6 : (((P - 1) % Q : Int) == 0) = true := by rw [h6.out]; rfl
 have FK : (((P - 1) % Q : Int) != 0) = false := by rw [h6.out]; rfl
 have g8 : decide (P ≤ G) = false := by simp; omega
 go_in
 go_wp2_with fail
 refine (lu P h1 true h4 _).mono ?_
 rintro e w1 ⟨rfl, hb0⟩
 have hb1 := ag (af _ _) hb0
 have hcell : ∀ j, w1.cell? ⟨w.heap.size, j, none⟩ = (w.alloc (bA P Q G)).cell? ⟨w.heap.size, j, none⟩ := fun j => hb0.cell (p := ⟨w.heap.size, j, none⟩) (by simp)
 have c0 : w1.cell? ⟨w.heap.size, 0, none⟩ = some (.int .i64 P) := (hcell 0).trans (World.cell?_alloc_at _ _ _ _ rfl)
 have c1 : w1.cell? ⟨w.heap.size, 1, none⟩ = some (.int .i64 Q) := (hcell 1).trans (World.cell?_alloc_at _ _ _ _ rfl)
 have c2 : w1.cell? ⟨w.heap.size, 2, none⟩ = some (.int .i64 G) := (hcell 2).trans (World.cell?_alloc_at _ _ _ _ rfl)
 clear hcell hb0
 go_wp2_with fail
 refine (lu Q (by omega) false h5 _).mono ?_
 rintro e w2 ⟨rfl, hb0⟩
 have hb2 := ag hb1 hb0
 have d0 : w2.cell? ⟨w.heap.size, 0, none⟩ = some (.int .i64 P) := (hb0.cell (p := ⟨w.heap.size, 0, none⟩) (World.block_lt_of_cell? _ _ c0)).trans c0
 have d1 : w2.cell? ⟨w.heap.size, 1, none⟩ = some (.int .i64 Q) := (hb0.cell (p := ⟨w.heap.size, 1, none⟩) (World.block_lt_of_cell? _ _ c1)).trans c1
 have d2 : w2.cell? ⟨w.heap.size, 2, none⟩ = some (.int .i64 G) := (hb0.cell (p := ⟨w.heap.size, 2, none⟩) (World.block_lt_of_cell? _ _ c2)).trans c2
 clear hb0
 go_wp2
 go_ret
 exact ⟨rfl, by first | exact hb1 | exact hb2⟩
theorem Cc (P Q G : Int) (h0 : 3 ≤ P) (h1 : P < 2305843009213693952) (h2 : 3 ≤ Q) (h3 : Hid (Q % 2 = 1)) (hQ : Q < 9223372036854775808) (h6 : Hid ((P - 1) % Q = 0)) (h7 : 2 ≤ G) (h8 : G < P) (De : Q < P) (b : Bool) (h4 : Hid (iX P = true)) (h5 : Hid (iX Q = true)) (hb : Hid ((pw G Q P == 1) = b)) (w : World) :
  Calls Tryz.prog 19 #[gv P Q G] w (Rt w (.bool b)) := by
 have g3 : ((Q % 2 : Int) == 0) = false := by have := h3.out; simp; omega
 have g6 : (((P - 1) % Q : Int) == 0) = true := by rw [h6.out]; rfl
 have FK : (((P - 1) % Q : Int) != 0) = false := by rw [h6.out]; rfl
 have g8 : decide (P ≤ G) = false := by simp; omega
 obtain ⟨x, hx⟩ : ∃ x, pw G Q P = x := ⟨_, rfl⟩
 have g9 : ((x : Int) == 1) = b := by rw [← hx]; exact hb.out
 have HX := aa hx
 clear hx
 go_in
 go_wp2_with fail
 refine (lu P h1 true h4 _).mono ?_
 rintro e w1 ⟨rfl, hb0⟩
 have hb1 := ag (af _ _) hb0
 have hcell : ∀ j, w1.cell? ⟨w.heap.size, j, none⟩ = (w.alloc (bA P Q G)).cell? ⟨w.heap.size, j, none⟩ := fun j => hb0.cell (p := ⟨w.heap.size, j, none⟩) (by simp)
 have c0 : w1.cell? ⟨w.heap.size, 0, none⟩ = some (.int .i64 P) := (hcell 0).trans (World.cell?_alloc_at _ _ _ _ rfl)
 have c1 : w1.cell? ⟨w.heap.size, 1, none⟩ = some (.int .i64 Q) := (hcell 1).trans (World.cell?_alloc_at _ _ _ _ rfl)
 have c2 : w1.cell? ⟨w.heap.size, 2, none⟩ = some (.int .i64 G) := (hcell 2).trans (World.cell?_alloc_at _ _ _ _ rfl)
 clear hcell hb0
 go_wp2_with fail
 refine (lu Q (by omega) true h5 _).mono ?_
 rintro e w2 ⟨rfl, hb0⟩
 have hb2 := ag hb1 hb0
 have d0 : w2.cell? ⟨w.heap.size, 0, none⟩ = some (.int .i64 P) := (hb0.cell (p := ⟨w.heap.size, 0, none⟩) (World.block_lt_of_cell? _ _ c0)).trans c0
 have d1 : w2.cell? ⟨w.heap.size, 1, none⟩ = some (.int .i64 Q) := (hb0.cell (p := ⟨w.heap.size, 1, none⟩) (World.block_lt_of_cell? _ _ c1)).trans c1
 have d2 : w2.cell? ⟨w.heap.size, 2, none⟩ = some (.int .i64 G) := (hb0.cell (p := ⟨w.heap.size, 2, none⟩) (World.block_lt_of_cell? _ _ c2)).trans c2
 clear hb0
 go_wp2_with fail
 refine (jf G Q P x HX (by omega) h1 (by omega) h8 (by omega) hQ _).mono ?_
 rintro e w3 ⟨rfl, rfl⟩
 go_wp2
 go_ret
 exact ⟨rfl, by first | exact hb1 | exact hb2⟩
theorem Dw (w : World) (T : TypeId) (a b : Int) : Cells (w.alloc (.cells #[.int .i64 a, .int .i64 b] T)) w.heap.size [a, b] := by
 intro k hk
 rw [World.cell?_alloc_at _ _ _ _ rfl]
 match k, hk with
 | 0, _ => rfl
 | 1, _ => rfl
theorem yA (w : World) (T : TypeId) (a : Int) : Cells (w.alloc (.cells #[.int .i64 a] T)) w.heap.size [a] := by
 intro k hk
 rw [World.cell?_alloc_at _ _ _ _ rfl]
 match k, hk with
 | 0, _ => rfl
theorem FR (w : World) (o : Obj) (T : TypeId) (a b : Int) : Cells ((w.alloc o).alloc (.cells #[.int .i64 a, .int .i64 b] T)) (w.heap.size + 1) [a, b] := by
 have h := Dw (w.alloc o) T a b
 have e : (w.alloc o).heap.size = w.heap.size + 1 := by simp
 rwa [e] at h
theorem zR (w : World) (o : Obj) (T : TypeId) (a : Int) : Cells ((w.alloc o).alloc (.cells #[.int .i64 a] T)) (w.heap.size + 1) [a] := by
 have h := yA (w.alloc o) T a
 have e : (w.alloc o).heap.size = w.heap.size + 1 := by simp
 rwa [e] at h
theorem mV {P Q G : Int} {xs : List Int} (h : iq P Q G xs = 0) : aC P Q G = true ∧ xs.all (av P Q) = true := by
 unfold iq at h
 split at h
 ·
  split at h
  · exact ⟨by assumption, by assumption⟩
  · omega
 · omega
theorem eZ {P Q G : Int} {xs : List Int} (h1 : aC P Q G = true) (h2 : xs.all (av P Q) = true) : iq P Q G xs = 0 := by
 rw [iq, if_pos h1, if_pos h2]
theorem aB {w w1 : World} {o1 o2 : Obj} (h : Below ((w.alloc o1).alloc o2).heap.size ((w.alloc o1).alloc o2) w1) : Below w.heap.size w w1 :=
 ag (((Below.refl _ _).alloc (Nat.le_refl _) _).alloc (by simp) _) h
theorem lT (P Q G a b v : Int) (hr : Hid (iq P Q G [a, b] = 0)) (hvv : Hid (a * b % P = v)) (hQ : Q < 9223372036854775808) (w : World) (hv : Hid (Vars w)) :
  Calls Tryz.prog 36 #[gv P Q G, .int .i64 a, .int .i64 b] w (Rt w (.tuple #[.int .i64 v, .int .i64 0])) := by
 obtain ⟨hval, hall⟩ := mV hr.out
 obtain ⟨hp2, hp, hq3, Eo⟩ := aJ hval
 simp only [List.all_cons, List.all_nil, Bool.and_true, Bool.and_eq_true] at hall
 obtain ⟨ma, mb⟩ := hall
 have la := jK ma
 have ha := jL ma
 have lb := jK mb
 have hb := jL mb
 clear ma mb hval
 have jV := aa (hv.out.below (aB (w := w) (o1 := bA P Q G) (o2 := .cells #[.int .i64 a, .int .i64 b] 3) (Below.refl _ _)))
 have HC := aa (FR w (bA P Q G) 3 a b)
 have HB0 := aa ((bD w P Q G).below (af (w.alloc (bA P Q G)) (.cells #[.int .i64 a, .int .i64 b] 3)))
 go_in
 go_wp2_with fail
 refine (kJ P Q G _ [a, b] 2 2 (aa rfl) (by decide) 0 hr hQ _ jV HC).mono ?_
 rintro e w1 ⟨rfl, hb0⟩
 have hb1 := aB hb0
 obtain ⟨c0, c1, c2⟩ := HB0.out.below hb0
 clear hb0
 go_wp2_with fail
 refine (zg a b P hp (by omega) ha (by omega) hb _).mono ?_
 rintro e w2 ⟨rfl, n, rfl⟩
 rw [hvv.out]
 go_wp2
 go_ret2
 exact ⟨rfl, ax hb1 _⟩
theorem lS (P Q G a k v : Int) (hr : Hid (iq P Q G [a] = 0)) (hvv : Hid (pw a (k % Q) P = v)) (hk0 : -9223372036854775808 ≤ k) (hk : k < 9223372036854775808) (w : World) (hv : Hid (Vars w)) :
  Calls Tryz.prog 35 #[gv P Q G, .int .i64 a, .int .i64 k] w (Rt w (.tuple #[.int .i64 v, .int .i64 0])) := by
 obtain ⟨hval, hall⟩ := mV hr.out
 obtain ⟨hp2, hp, hq3, Eo⟩ := aJ hval
 simp only [List.all_cons, List.all_nil, Bool.and_true] at hall
 have la := jK hall
 have ha := jL hall
 clear hall hval
 have k0 : 0 ≤ k % Q := Int.emod_nonneg _ (by omega)
 have k1 : k % Q < Q := Int.emod_lt_of_pos _ (by omega)
 obtain ⟨j, hj⟩ : ∃ j, k % Q = j := ⟨_, rfl⟩
 rw [hj] at k0 k1 hvv
 have HJ := aa hj
 clear hj
 have jV := aa (hv.out.below (aB (w := w) (o1 := bA P Q G) (o2 := .cells #[.int .i64 a] 3) (Below.refl _ _)))
 have HC := aa (zR w (bA P Q G) 3 a)
 have HB0 := aa ((bD w P Q G).below (af (w.alloc (bA P Q G)) (.cells #[.int .i64 a] 3)))
 go_in
 go_wp2_with fail
 refine (kJ P Q G _ [a] 1 1 (aa rfl) (by decide) 0 hr (by omega) _ jV HC).mono ?_
 rintro e w1 ⟨rfl, hb0⟩
 have hb1 := aB hb0
 obtain ⟨c0, c1, c2⟩ := HB0.out.below hb0
 clear hb0
 go_wp2_with fail
 refine (Ap k Q (by omega) (by omega) hk0 hk _).mono ?_
 rintro e w2 ⟨rfl, rfl⟩
 rw [HJ.out]
 go_wp2_with fail
 refine (xu a j P (by omega) hp (by omega) ha k0 (by omega) _).mono ?_
 rintro e w2 ⟨rfl, n, rfl⟩
 rw [hvv.out]
 go_wp2
 go_ret2
 exact ⟨rfl, ax hb1 _⟩
abbrev bv (P Q G A B H : Int) : Value := .agg #[.int .i64 P, .int .i64 Q, .int .i64 G, .int .i64 A, .int .i64 B, .int .i64 H]
abbrev bB (P Q G A B H : Int) : Obj := .cells #[.int .i64 P, .int .i64 Q, .int .i64 G, .int .i64 A, .int .i64 B, .int .i64 H] 25
def qI (w : World) (a : Nat) (P Q G A B H : Int) : Prop := (w.cell? ⟨a, 0, none⟩ = some (.int .i64 P) ∧ w.cell? ⟨a, 1, none⟩ = some (.int .i64 Q) ∧ w.cell? ⟨a, 2, none⟩ = some (.int .i64 G)) ∧
 w.cell? ⟨a, 3, none⟩ = some (.int .i64 A) ∧ w.cell? ⟨a, 4, none⟩ = some (.int .i64 B) ∧ w.cell? ⟨a, 5, none⟩ = some (.int .i64 H)
theorem eP (w : World) (P Q G A B H : Int) : qI (w.alloc (bB P Q G A B H)) w.heap.size P Q G A B H :=
 ⟨⟨World.cell?_alloc_at _ _ _ _ rfl, World.cell?_alloc_at _ _ _ _ rfl, World.cell?_alloc_at _ _ _ _ rfl⟩, World.cell?_alloc_at _ _ _ _ rfl, World.cell?_alloc_at _ _ _ _ rfl, World.cell?_alloc_at _ _ _ _ rfl⟩
theorem qI.below {w w' : World} {a : Nat} {P Q G A B H : Int} (h : qI w a P Q G A B H) (hb : Below w.heap.size w w') : qI w' a P Q G A B H :=
 have f : ∀ {p : Addr} {v : Value}, w.cell? p = some v → w'.cell? p = some v := fun h => (hb.cell (World.block_lt_of_cell? _ _ h)).trans h
 ⟨⟨f h.1.1, f h.1.2.1, f h.1.2.2⟩, f h.2.1, f h.2.2.1, f h.2.2.2⟩
def okB (P Q x : Int) : Bool := x != 1 && av P Q x
def aS (P Q G A B H : Int) : Bool := aC P Q G && [A, B, H].all (okB P Q)
theorem cells3 (w : World) (T : TypeId) (a b c : Int) : Cells (w.alloc (.cells #[.int .i64 a, .int .i64 b, .int .i64 c] T)) w.heap.size [a, b, c] := by
 intro k hk
 rw [World.cell?_alloc_at _ _ _ _ rfl]
 match k, hk with
 | 0, _ => rfl
 | 1, _ => rfl
 | 2, _ => rfl
theorem zC {P Q G x : Int} (hv : aC P Q G = true) (hx : (x == 1) = false) : dQ P Q G x = okB P Q x := by
 have h1 : (x != 1) = true := by simp at hx ⊢; exact hx
 rw [dQ, okB, hv, h1]
theorem yF (P Q G A B H : Int) (hv0 : Hid (aC P Q G = false)) (hQ : Q < 9223372036854775808) (w : World) (hv : Hid (Vars w)) :
  Calls Tryz.prog 23 #[bv P Q G A B H] w (Rt w (.bool false)) := by
 have sV := aa (hv.out.below (af w (bB P Q G A B H)))
 go_in
 go_wp2_with fail
 refine (dS P Q G false hv0 hQ _ sV).mono ?_
 rintro e w1 ⟨rfl, hb0⟩
 have hb1 := ag (af _ _) hb0
 clear hb0
 go_wp2
 go_ret
 exact ⟨rfl, hb1⟩
theorem vW (P Q G A B H : Int) (r : Bool) (hr : Hid ([A, B, H].all (okB P Q) = r)) (hv0 : Hid (aC P Q G = true)) (hQ : Q < 9223372036854775808) (w : World) (hv : Hid (Vars w)) :
  Calls Tryz.prog 23 #[bv P Q G A B H] w (Rt w (.bool r)) := by
 have sV := aa (hv.out.below (af w (bB P Q G A B H)))
 have HB0 := aa (eP w P Q G A B H)
 go_in
 go_wp2_with fail
 refine (dS P Q G true hv0 hQ _ sV).mono ?_
 rintro e w1 ⟨rfl, hb0⟩
 have HB1 := aa (ag (af _ _) hb0)
 have Pg := aa (sV.out.below hb0)
 have HX := aa (HB0.out.below hb0)
 obtain ⟨⟨c0, c1, c2⟩, c3, c4, c5⟩ := HX.out
 clear hb0
 have yZ := aa (cells3 w1 3 A B H)
 have Bn := aa (HX.out.below (af w1 (.cells #[.int .i64 A, .int .i64 B, .int .i64 H] 3)))
 have HB2 := aa (ag HB1.out (af w1 (.cells #[.int .i64 A, .int .i64 B, .int .i64 H] 3)))
 have qd := aa (Pg.out.below (af w1 (.cells #[.int .i64 A, .int .i64 B, .int .i64 H] 3)))
 go_wp2
 clear c0 c1 c2 c3 c4 c5
 obtain ⟨W, hW⟩ : ∃ W, w1.alloc (.cells #[.int .i64 A, .int .i64 B, .int .i64 H] 3) = W := ⟨_, rfl⟩
 rw [hW] at yZ Bn HB2 qd ⊢
 go_loopw [17] (fun i wr => ∃ k : Nat, k ≤ 3 ∧ i = .int .i64 k ∧ Hid ([A, B, H].all (okB P Q) = ([A, B, H].drop k).all (okB P Q)) ∧ Hid (Below W.heap.size W wr)) (fun i _ => 3 - (intOf i).toNat)
 case atStart => exact ⟨0, by omega, rfl, aa rfl, aa (Below.refl _ _)⟩
 case round =>
  obtain ⟨k, hk, rfl, HR, aG⟩ := hrel
  by_cases hlt : k < 3
  ·
   have hkl : k < [A, B, H].length := hlt
   have hi := yZ.out.below aG.out k hkl
   obtain ⟨⟨c0, c1, c2⟩, c3, c4, c5⟩ := Bn.out.below aG.out
   have Ey := aa (qd.out.below aG.out)
   cases hm : okB P Q ([A, B, H].getD k 0) with
   | true =>
    have HS : Hid ([A, B, H].all (okB P Q) = ([A, B, H].drop (k + 1)).all (okB P Q)) := aa (HR.out.trans (kg hkl hm))
    obtain ⟨x, hx⟩ : ∃ x, [A, B, H].getD k 0 = x := ⟨_, rfl⟩
    rw [hx] at hi hm
    have h1 : (x == 1) = false := by simp [okB] at hm; simp [hm.1]
    have HM := aa ((zC hv0.out h1).trans hm)
    clear hx hm HR hkl
    go_wp2_with fail
    refine (aW P Q G x true HM hQ _ Ey).mono ?_
    rintro e w2 ⟨rfl, hb0⟩
    have HB3 := aa (ag aG.out hb0)
    clear hb0
    go_wp2
    go_roundw
    case rel => exact ⟨k + 1, by omega, by go_num, HS, HB3⟩
    case measure => simp [intOf]; omega
   | false =>
    obtain rfl : r = false := by rw [← hr.out, HR.out, l9 hkl hm]
    obtain ⟨x, hx⟩ : ∃ x, [A, B, H].getD k 0 = x := ⟨_, rfl⟩
    rw [hx] at hi hm
    cases h1 : x == 1 with
    | true =>
     have HB3 := aa (ag HB2.out aG.out)
     clear hx hm HR hkl
     go_wp2
     go_ret
     exact ⟨rfl, HB3.out⟩
    | false =>
     have HM := aa ((zC hv0.out h1).trans hm)
     clear hx hm HR hkl
     go_wp2_with fail
     refine (aW P Q G x false HM hQ _ Ey).mono ?_
     rintro e w2 ⟨rfl, hb0⟩
     have HB3 := aa (ag (ag HB2.out aG.out) hb0)
     clear hb0
     go_wp2
     go_ret
     exact ⟨rfl, HB3.out⟩
  ·
   obtain rfl : k = 3 := by omega
   obtain rfl : r = true := by rw [← hr.out, HR.out]; rfl
   have HB3 := aa (ag HB2.out aG.out)
   clear HR
   go_wp2
   go_ret
   exact ⟨rfl, HB3.out⟩
theorem bS (P Q G A B H : Int) (r : Bool) (hr : Hid (aS P Q G A B H = r)) (hQ : Q < 9223372036854775808) (w : World) (hv : Hid (Vars w)) :
  Calls Tryz.prog 23 #[bv P Q G A B H] w (Rt w (.bool r)) := by
 cases hval : aC P Q G with
 | false =>
  obtain rfl : r = false := by rw [← hr.out, aS, hval, Bool.false_and]
  exact yF P Q G A B H hval hQ w hv
 | true =>
  exact vW P Q G A B H r (by rw [← hr.out, aS, hval, Bool.true_and]; exact rfl) hval hQ w hv
theorem bn {P Q G A B H : Int} (h : aS P Q G A B H = true) : aC P Q G = true ∧ av P Q A = true ∧ av P Q B = true ∧ av P Q H = true ∧ A ≠ 1 ∧ B ≠ 1 ∧ H ≠ 1 := by
 simp [aS, okB] at h
 exact ⟨h.1, h.2.1.2, h.2.2.1.2, h.2.2.2.2, h.2.1.1, h.2.2.1.1, h.2.2.2.1⟩
end Go.Proofs.YtgbfhcfhopadaaaGreatDoor