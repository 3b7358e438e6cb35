/- The contract of math/bits.Div64: quotient and remainder of a number of two words. -/
import Derived.Test.YtijedphpcocfnaaDoorShelf
import Derived.Test.YtijedphpcocfnaaDoorNum
import Derived.WalkKit
import Derived.Deep.QuietTactic
import Derived.BigQuiet
import Derived.Lib.Hide
namespace Go.Proofs.YtijedphpcocfnaaDoor
open Go.RowKit SpM
set_option linter.unusedVariables false




def LoopRel (Y1 Y0 U L1 q r : Nat) : Prop := q * Y1 + r = U ∧ dig (Y1 * 4294967296 + Y0) U L1 ≤ q ∧ r < 4294967296

theorem loop_start {Y1 Y0 U L1 : Nat} (bY1 : 2147483648 ≤ Y1) (bY2 : Y1 < 4294967296) (bL1 : L1 < 4294967296) : LoopRel Y1 Y0 U L1 (U / Y1) (U - U / Y1 * Y1) := by
  have h1 := Nat.div_add_mod' U Y1
  have h2 := Nat.mod_lt U (show Y1 > 0 by omega)
  exact ⟨by omega, dig_start (by omega) bL1, by omega⟩

/-- the round's four ways. -/
theorem way_next {Y1 Y0 U L1 q r : Nat} (bY2 : Y1 < 4294967296) (bY3 : Y0 < 4294967296) (bL1 : L1 < 4294967296) (bU : U < Y1 * 4294967296 + Y0) (h : LoopRel Y1 Y0 U L1 q r)
    (ht : 4294967296 ≤ q ∨ 4294967296 * r + L1 < q * Y0) (hr : r + Y1 < 4294967296) : LoopRel Y1 Y0 U L1 (q - 1) (r + Y1) ∧ 1 ≤ q := by
  obtain ⟨a, b, c⟩ := h
  have := dig_next bU bL1 a b ht
  exact ⟨⟨this.2.2, this.1, hr⟩, this.2.1⟩
theorem way_break {Y1 Y0 U L1 q r : Nat} (bY1 : 0 < Y1) (bY3 : Y0 < 4294967296) (bL1 : L1 < 4294967296) (bU : U < Y1 * 4294967296 + Y0) (h : LoopRel Y1 Y0 U L1 q r)
    (ht : 4294967296 ≤ q ∨ 4294967296 * r + L1 < q * Y0) (hr : 4294967296 ≤ r + Y1) : q - 1 = dig (Y1 * 4294967296 + Y0) U L1 ∧ 1 ≤ q := by
  obtain ⟨a, b, c⟩ := h
  have := dig_next bU bL1 a b ht
  exact ⟨dig_done bY1 this.2.2 this.1 (dig_big bU bY3 this.2.2 hr).1, this.2.1⟩
theorem way_done {Y1 Y0 U L1 q r : Nat} (bY1 : 0 < Y1) (h : LoopRel Y1 Y0 U L1 q r) (ht : q * Y0 ≤ 4294967296 * r + L1) : q = dig (Y1 * 4294967296 + Y0) U L1 := by
  obtain ⟨a, b, c⟩ := h
  exact dig_done bY1 a b ht
theorem q_le {Y1 Y0 U L1 q r : Nat} (bY1 : 0 < Y1) (h : LoopRel Y1 Y0 U L1 q r) (bU : U < Y1 * 4294967296 + Y0) (bY2 : Y1 < 4294967296) (bY3 : Y0 < 4294967296) : q ≤ 18446744073709551615 := by
  obtain ⟨a, b, c⟩ := h
  have : q * 1 ≤ q * Y1 := Nat.mul_le_mul_left _ bY1
  omega
theorem mul_wrap {q Y0 : Nat} (h : q < 4294967296) (bY3 : Y0 < 4294967296) : ∃ M, q * Y0 = M ∧ IntKind.u64.wrap ((q : Int) * (Y0 : Int)) = (M : Int) := by
  refine ⟨_, rfl, ?_⟩
  rw [← Int.natCast_mul, wrap_of_nat, Nat.mod_eq_of_lt]
  have : q * Y0 ≤ 4294967295 * 4294967295 := Nat.mul_le_mul (by omega) (by omega)
  omega
set_option maxRecDepth 100000 in
set_option maxHeartbeats 1600000 in
theorem div64_core (hi lo y : Nat) (s : Nat) (hs : 64 - Lib.bitLen y = s) (hs1 : 1 ≤ s) (hs2 : s ≤ 63) (hh : 0 < hi) (hy : hi < y) (hy2 : y < 9223372036854775808) (hlo : lo < 18446744073709551616) 
    (Y Y1 Y0 U L L1 L0 Q0 P0 R0 D1 T1 T2 T3 R1 Q2 P2 R2 D0 T4 T5 T6 T7 T8 T9 : Nat) (hY : IntKind.u64.wrap ((y : Int) * 2 ^ s) = (Y : Int)) (hY1 : (Y : Int) / 4294967296 = (Y1 : Int)) (hY0 : bits .and .u64 Y 4294967295 = (Y0 : Int))
   (hU : bits .or .u64 (IntKind.u64.wrap ((hi : Int) * 2 ^ s)) ((lo : Int) / 2 ^ (64 - s)) = (U : Int)) (hL : IntKind.u64.wrap ((lo : Int) * 2 ^ s) = (L : Int)) (hL1 : (L : Int) / 4294967296 = (L1 : Int)) (hL0 : bits .and .u64 L 4294967295 = (L0 : Int))
   (hQ0 : IntKind.u64.wrap ((U : Int) / (Y1 : Int)) = (Q0 : Int)) (hP0 : IntKind.u64.wrap ((Q0 : Int) * (Y1 : Int)) = (P0 : Int)) (hR0 : IntKind.u64.wrap ((U : Int) - (P0 : Int)) = (R0 : Int))
   (hT1 : IntKind.u64.wrap ((U : Int) * 4294967296) = (T1 : Int)) (hT2 : IntKind.u64.wrap ((T1 : Int) + (L1 : Int)) = (T2 : Int)) (hT3 : IntKind.u64.wrap ((D1 : Int) * (Y : Int)) = (T3 : Int)) (hR1 : IntKind.u64.wrap ((T2 : Int) - (T3 : Int)) = (R1 : Int))
   (hQ2 : IntKind.u64.wrap ((R1 : Int) / (Y1 : Int)) = (Q2 : Int)) (hP2 : IntKind.u64.wrap ((Q2 : Int) * (Y1 : Int)) = (P2 : Int)) (hR2 : IntKind.u64.wrap ((R1 : Int) - (P2 : Int)) = (R2 : Int))
   (hT4 : IntKind.u64.wrap ((D1 : Int) * 4294967296) = (T4 : Int)) (hT5 : IntKind.u64.wrap ((T4 : Int) + (D0 : Int)) = (T5 : Int))
   (hT6 : IntKind.u64.wrap ((R1 : Int) * 4294967296) = (T6 : Int)) (hT7 : IntKind.u64.wrap ((T6 : Int) + (L0 : Int)) = (T7 : Int)) (hT8 : IntKind.u64.wrap ((D0 : Int) * (Y : Int)) = (T8 : Int)) (hT9 : IntKind.u64.wrap ((T7 : Int) - (T8 : Int)) = (T9 : Int))
   (bY1 : 2147483648 ≤ Y1) (bY2 : Y1 < 4294967296) (bY3 : Y0 < 4294967296) (bL1 : L1 < 4294967296) (bL0 : L0 < 4294967296) 
   (bU : Hid (U < Y1 * 4294967296 + Y0)) (hD1 : Hid (D1 = dig (Y1 * 4294967296 + Y0) U L1)) (bR : Hid (R1 < Y1 * 4294967296 + Y0)) (hD0 : Hid (D0 = dig (Y1 * 4294967296 + Y0) R1 L0))
   (hst1 : Hid (LoopRel Y1 Y0 U L1 Q0 R0)) (hst2 : Hid (LoopRel Y1 Y0 R1 L0 Q2 R2))
   (w : World) :
    Calls Tryd.prog 112 #[.int .u64 hi, .int .u64 lo, .int .u64 y] w fun e w' => e = .returned (.tuple #[.int .u64 (T5 : Int), .int .u64 ((T9 : Int) / 2 ^ s)]) ∧ ∃ n, w' = w.drewN n := by
  have h1 : ((y : Int) == 0) = false := by simp; omega
  have h2 : decide ((y : Int) ≤ (hi : Int)) = false := by simp; omega
  have h3 : ((hi : Int) == 0) = false := by simp; omega
  have hb : (64 : Int) - (Lib.bitLen y : Int) = (s : Int) := by omega
  have HB := Lib.hid hb
  clear hb hs
  go_enter Tryd.func112, Tryd.ntmps112
  go_wp2_with (go_at_call 123; refine (Tryd.bits_LeadingZeros64 _ _ (by omega) (by omega)).mono ?_; rintro e w' ⟨rfl, rfl⟩; rw [Int.toNat_natCast, HB.out])
  go_loop [15, 16] (fun a b => ∃ q r : Nat, a = .int .u64 q ∧ b = .int .u64 r ∧ LoopRel Y1 Y0 U L1 q r) (fun a _ => (intOf a).toNat)
  case atStart => exact ⟨Q0, R0, rfl, rfl, hst1.out⟩
  case round =>
    obtain ⟨q, r, rfl, rfl, HR⟩ := hrel
    have b2 : r < 4294967296 := HR.2.2
    have b3 := q_le (by omega) HR bU.out bY2 bY3
    by_cases ht : 4294967296 ≤ q
    · have hd : decide ((4294967296 : Int) ≤ (q : Int)) = true := by simp; omega
      by_cases hr : r + Y1 < 4294967296
      · have hw := way_next bY2 bY3 bL1 bU.out HR (.inl ht) hr
        have hd2 : decide ((4294967296 : Int) ≤ (r : Int) + (Y1 : Int)) = false := by simp; omega
        have b1 : 1 ≤ q := hw.2
        have HW := Lib.hid hw.1
        clear hw hr ht
        go_wp2
        go_round
        case rel => exact ⟨q - 1, r + Y1, by go_num, by go_num, HW.out⟩
        case measure => simp [intOf]; omega
      · have hw := way_break (by omega) bY3 bL1 bU.out HR (.inl ht) (by omega)
        rw [← hD1.out] at hw
        have hd2 : decide ((4294967296 : Int) ≤ (r : Int) + (Y1 : Int)) = true := by simp; omega
        have b1 : 1 ≤ q := hw.2
        have hq : (q : Int) - 1 = (D1 : Int) := by omega
        clear hw hr ht
        go_wp2
        clear hq hd2 b1 b2 b3 hd
        go_loop [18, 16] (fun a b => ∃ q r : Nat, a = .int .u64 q ∧ b = .int .u64 r ∧ LoopRel Y1 Y0 R1 L0 q r) (fun a _ => (intOf a).toNat)
        case atStart => exact ⟨Q2, R2, rfl, rfl, hst2.out⟩
        case round =>
          obtain ⟨q, r, rfl, rfl, HR⟩ := hrel
          have b2 : r < 4294967296 := HR.2.2
          have b3 := q_le (by omega) HR bR.out bY2 bY3
          by_cases ht : 4294967296 ≤ q
          · have hd : decide ((4294967296 : Int) ≤ (q : Int)) = true := by simp; omega
            by_cases hr : r + Y1 < 4294967296
            · have hw := way_next bY2 bY3 bL0 bR.out HR (.inl ht) hr
              have hd2 : decide ((4294967296 : Int) ≤ (r : Int) + (Y1 : Int)) = false := by simp; omega
              have b1 : 1 ≤ q := hw.2
              have HW := Lib.hid hw.1
              clear hw hr ht
              go_wp2
              go_round
              case rel => exact ⟨q - 1, r + Y1, by go_num, by go_num, HW.out⟩
              case measure => simp [intOf]; omega
            · have hw := way_break (by omega) bY3 bL0 bR.out HR (.inl ht) (by omega)
              rw [← hD0.out] at hw
              have hd2 : decide ((4294967296 : Int) ≤ (r : Int) + (Y1 : Int)) = true := by simp; omega
              have b1 : 1 ≤ q := hw.2
              have hq : (q : Int) - 1 = (D0 : Int) := by omega
              clear hw hr ht
              go_wp2
              clear hq hd2 b1 b2 b3 hd
              go_ret2
              exact ⟨rfl, 0, rfl⟩
          · have hd : decide ((4294967296 : Int) ≤ (q : Int)) = false := by simp; omega
            obtain ⟨M, hM, hMw⟩ := mul_wrap (q := q) (by omega) bY3
            by_cases hc : 4294967296 * r + L0 < M
            · have hd3 : decide ((4294967296 : Int) * (r : Int) + (L0 : Int) < (M : Int)) = true := by simp; omega
              by_cases hr : r + Y1 < 4294967296
              · have hw := way_next bY2 bY3 bL0 bR.out HR (.inr (by rw [hM]; exact hc)) hr
                have hd2 : decide ((4294967296 : Int) ≤ (r : Int) + (Y1 : Int)) = false := by simp; omega
                have b1 : 1 ≤ q := hw.2
                have HW := Lib.hid hw.1
                clear hw hr ht hc hM
                go_wp2
                go_round
                case rel => exact ⟨q - 1, r + Y1, by go_num, by go_num, HW.out⟩
                case measure => simp [intOf]; omega
              · have hw := way_break (by omega) bY3 bL0 bR.out HR (.inr (by rw [hM]; exact hc)) (by omega)
                rw [← hD0.out] at hw
                have hd2 : decide ((4294967296 : Int) ≤ (r : Int) + (Y1 : Int)) = true := by simp; omega
                have b1 : 1 ≤ q := hw.2
                have hq : (q : Int) - 1 = (D0 : Int) := by omega
                clear hw hr ht hc hM
                go_wp2
                clear hq hd2 b1 b2 b3 hd
                go_ret2
                exact ⟨rfl, 0, rfl⟩
            · have hd3 : decide ((4294967296 : Int) * (r : Int) + (L0 : Int) < (M : Int)) = false := by simp; omega
              have hw := way_done (by omega) HR (by rw [hM]; omega)
              rw [← hD0.out] at hw
              subst hw
              clear ht hc hM
              go_wp2
              clear hd3 hMw b2 b3 hd
              go_ret2
              exact ⟨rfl, 0, rfl⟩
    · have hd : decide ((4294967296 : Int) ≤ (q : Int)) = false := by simp; omega
      obtain ⟨M, hM, hMw⟩ := mul_wrap (q := q) (by omega) bY3
      by_cases hc : 4294967296 * r + L1 < M
      · have hd3 : decide ((4294967296 : Int) * (r : Int) + (L1 : Int) < (M : Int)) = true := by simp; omega
        by_cases hr : r + Y1 < 4294967296
        · have hw := way_next bY2 bY3 bL1 bU.out HR (.inr (by rw [hM]; exact hc)) hr
          have hd2 : decide ((4294967296 : Int) ≤ (r : Int) + (Y1 : Int)) = false := by simp; omega
          have b1 : 1 ≤ q := hw.2
          have HW := Lib.hid hw.1
          clear hw hr ht hc hM
          go_wp2
          go_round
          case rel => exact ⟨q - 1, r + Y1, by go_num, by go_num, HW.out⟩
          case measure => simp [intOf]; omega
        · have hw := way_break (by omega) bY3 bL1 bU.out HR (.inr (by rw [hM]; exact hc)) (by omega)
          rw [← hD1.out] at hw
          have hd2 : decide ((4294967296 : Int) ≤ (r : Int) + (Y1 : Int)) = true := by simp; omega
          have b1 : 1 ≤ q := hw.2
          have hq : (q : Int) - 1 = (D1 : Int) := by omega
          clear hw hr ht hc hM
          go_wp2
          clear hq hd2 b1 b2 b3 hd
          go_loop [18, 16] (fun a b => ∃ q r : Nat, a = .int .u64 q ∧ b = .int .u64 r ∧ LoopRel Y1 Y0 R1 L0 q r) (fun a _ => (intOf a).toNat)
          case atStart => exact ⟨Q2, R2, rfl, rfl, hst2.out⟩
          case round =>
            obtain ⟨q, r, rfl, rfl, HR⟩ := hrel
            have b2 : r < 4294967296 := HR.2.2
            have b3 := q_le (by omega) HR bR.out bY2 bY3
            by_cases ht : 4294967296 ≤ q
            · have hd : decide ((4294967296 : Int) ≤ (q : Int)) = true := by simp; omega
              by_cases hr : r + Y1 < 4294967296
              · have hw := way_next bY2 bY3 bL0 bR.out HR (.inl ht) hr
                have hd2 : decide ((4294967296 : Int) ≤ (r : Int) + (Y1 : Int)) = false := by simp; omega
                have b1 : 1 ≤ q := hw.2
                have HW := Lib.hid hw.1
                clear hw hr ht
                go_wp2
                go_round
                case rel => exact ⟨q - 1, r + Y1, by go_num, by go_num, HW.out⟩
                case measure => simp [intOf]; omega
              · have hw := way_break (by omega) bY3 bL0 bR.out HR (.inl ht) (by omega)
                rw [← hD0.out] at hw
                have hd2 : decide ((4294967296 : Int) ≤ (r : Int) + (Y1 : Int)) = true := by simp; omega
                have b1 : 1 ≤ q := hw.2
                have hq : (q : Int) - 1 = (D0 : Int) := by omega
                clear hw hr ht
                go_wp2
                clear hq hd2 b1 b2 b3 hd
                go_ret2
                exact ⟨rfl, 0, rfl⟩
            · have hd : decide ((4294967296 : Int) ≤ (q : Int)) = false := by simp; omega
              obtain ⟨M, hM, hMw⟩ := mul_wrap (q := q) (by omega) bY3
              by_cases hc : 4294967296 * r + L0 < M
              · have hd3 : decide ((4294967296 : Int) * (r : Int) + (L0 : Int) < (M : Int)) = true := by simp; omega
                by_cases hr : r + Y1 < 4294967296
                · have hw := way_next bY2 bY3 bL0 bR.out HR (.inr (by rw [hM]; exact hc)) hr
                  have hd2 : decide ((4294967296 : Int) ≤ (r : Int) + (Y1 : Int)) = false := by simp; omega
                  have b1 : 1 ≤ q := hw.2
                  have HW := Lib.hid hw.1
                  clear hw hr ht hc hM
                  go_wp2
                  go_round
                  case rel => exact ⟨q - 1, r + Y1, by go_num, by go_num, HW.out⟩
                  case measure => simp [intOf]; omega
                · have hw := way_break (by omega) bY3 bL0 bR.out HR (.inr (by rw [hM]; exact hc)) (by omega)
                  rw [← hD0.out] at hw
                  have hd2 : decide ((4294967296 : Int) ≤ (r : Int) + (Y1 : Int)) = true := by simp; omega
                  have b1 : 1 ≤ q := hw.2
                  have hq : (q : Int) - 1 = (D0 : Int) := by omega
                  clear hw hr ht hc hM
                  go_wp2
                  clear hq hd2 b1 b2 b3 hd
                  go_ret2
                  exact ⟨rfl, 0, rfl⟩
              · have hd3 : decide ((4294967296 : Int) * (r : Int) + (L0 : Int) < (M : Int)) = false := by simp; omega
                have hw := way_done (by omega) HR (by rw [hM]; omega)
                rw [← hD0.out] at hw
                subst hw
                clear ht hc hM
                go_wp2
                clear hd3 hMw b2 b3 hd
                go_ret2
                exact ⟨rfl, 0, rfl⟩
      · have hd3 : decide ((4294967296 : Int) * (r : Int) + (L1 : Int) < (M : Int)) = false := by simp; omega
        have hw := way_done (by omega) HR (by rw [hM]; omega)
        rw [← hD1.out] at hw
        subst hw
        clear ht hc hM
        go_wp2
        clear hd3 hMw b2 b3 hd
        go_loop [18, 16] (fun a b => ∃ q r : Nat, a = .int .u64 q ∧ b = .int .u64 r ∧ LoopRel Y1 Y0 R1 L0 q r) (fun a _ => (intOf a).toNat)
        case atStart => exact ⟨Q2, R2, rfl, rfl, hst2.out⟩
        case round =>
          obtain ⟨q, r, rfl, rfl, HR⟩ := hrel
          have b2 : r < 4294967296 := HR.2.2
          have b3 := q_le (by omega) HR bR.out bY2 bY3
          by_cases ht : 4294967296 ≤ q
          · have hd : decide ((4294967296 : Int) ≤ (q : Int)) = true := by simp; omega
            by_cases hr : r + Y1 < 4294967296
            · have hw := way_next bY2 bY3 bL0 bR.out HR (.inl ht) hr
              have hd2 : decide ((4294967296 : Int) ≤ (r : Int) + (Y1 : Int)) = false := by simp; omega
              have b1 : 1 ≤ q := hw.2
              have HW := Lib.hid hw.1
              clear hw hr ht
              go_wp2
              go_round
              case rel => exact ⟨q - 1, r + Y1, by go_num, by go_num, HW.out⟩
              case measure => simp [intOf]; omega
            · have hw := way_break (by omega) bY3 bL0 bR.out HR (.inl ht) (by omega)
              rw [← hD0.out] at hw
              have hd2 : decide ((4294967296 : Int) ≤ (r : Int) + (Y1 : Int)) = true := by simp; omega
              have b1 : 1 ≤ q := hw.2
              have hq : (q : Int) - 1 = (D0 : Int) := by omega
              clear hw hr ht
              go_wp2
              clear hq hd2 b1 b2 b3 hd
              go_ret2
              exact ⟨rfl, 0, rfl⟩
          · have hd : decide ((4294967296 : Int) ≤ (q : Int)) = false := by simp; omega
            obtain ⟨M, hM, hMw⟩ := mul_wrap (q := q) (by omega) bY3
            by_cases hc : 4294967296 * r + L0 < M
            · have hd3 : decide ((4294967296 : Int) * (r : Int) + (L0 : Int) < (M : Int)) = true := by simp; omega
              by_cases hr : r + Y1 < 4294967296
              · have hw := way_next bY2 bY3 bL0 bR.out HR (.inr (by rw [hM]; exact hc)) hr
                have hd2 : decide ((4294967296 : Int) ≤ (r : Int) + (Y1 : Int)) = false := by simp; omega
                have b1 : 1 ≤ q := hw.2
                have HW := Lib.hid hw.1
                clear hw hr ht hc hM
                go_wp2
                go_round
                case rel => exact ⟨q - 1, r + Y1, by go_num, by go_num, HW.out⟩
                case measure => simp [intOf]; omega
              · have hw := way_break (by omega) bY3 bL0 bR.out HR (.inr (by rw [hM]; exact hc)) (by omega)
                rw [← hD0.out] at hw
                have hd2 : decide ((4294967296 : Int) ≤ (r : Int) + (Y1 : Int)) = true := by simp; omega
                have b1 : 1 ≤ q := hw.2
                have hq : (q : Int) - 1 = (D0 : Int) := by omega
                clear hw hr ht hc hM
                go_wp2
                clear hq hd2 b1 b2 b3 hd
                go_ret2
                exact ⟨rfl, 0, rfl⟩
            · have hd3 : decide ((4294967296 : Int) * (r : Int) + (L0 : Int) < (M : Int)) = false := by simp; omega
              have hw := way_done (by omega) HR (by rw [hM]; omega)
              rw [← hD0.out] at hw
              subst hw
              clear ht hc hM
              go_wp2
              clear hd3 hMw b2 b3 hd
              go_ret2
              exact ⟨rfl, 0, rfl⟩




set_option maxHeartbeats 400000 in
theorem div64_small (lo y : Nat) (hy : 0 < y) (hy2 : y < 18446744073709551616) (hlo : lo < 18446744073709551616) (w : World) :
    Calls Tryd.prog 112 #[.int .u64 (0 : Int), .int .u64 lo, .int .u64 y] w fun e w' => e = .returned (.tuple #[.int .u64 ((lo / y : Nat) : Int), .int .u64 ((lo % y : Nat) : Int)]) ∧ ∃ n, w' = w.drewN n := by
  have h1 : ((y : Int) == 0) = false := by simp; omega
  have h2 : decide ((y : Int) ≤ 0) = false := by simp; omega
  have h3 : IntKind.u64.wrap ((lo : Int) / (y : Int)) = ((lo / y : Nat) : Int) := by
    rw [← Int.natCast_ediv, wrap_of_nat, Nat.mod_eq_of_lt]
    have := Nat.div_le_self lo y; omega
  go_enter Tryd.func112, Tryd.ntmps112
  go_wp2
  go_quiet (fail)
  go_wp2
  go_ret2
  exact ⟨rfl, _, rfl⟩

theorem wrap_sub_nat (a b : Nat) : IntKind.u64.wrap ((a : Int) - (b : Int)) = (((a + (18446744073709551616 - b % 18446744073709551616)) % 18446744073709551616 : Nat) : Int) := by
  rw [IntKind.wrap_u64]; omega
theorem wrap_add_nat (a b : Nat) : IntKind.u64.wrap ((a : Int) + (b : Int)) = (((a + b) % 18446744073709551616 : Nat) : Int) := by
  rw [← Int.natCast_add, wrap_of_nat]
theorem wrap_mul_nat (a b : Nat) : IntKind.u64.wrap ((a : Int) * (b : Int)) = (((a * b) % 18446744073709551616 : Nat) : Int) := by
  rw [← Int.natCast_mul, wrap_of_nat]
theorem wrap_mul_k (a : Nat) : IntKind.u64.wrap ((a : Int) * 4294967296) = (((a * 4294967296) % 18446744073709551616 : Nat) : Int) := by
  rw [show (4294967296 : Int) = ((4294967296 : Nat) : Int) from rfl, wrap_mul_nat]

theorem wrap_div_nat (a b : Nat) (h : a < 18446744073709551616) : IntKind.u64.wrap ((a : Int) / (b : Int)) = ((a / b : Nat) : Int) := by
  rw [← Int.natCast_ediv, wrap_of_nat, Nat.mod_eq_of_lt]
  exact Nat.lt_of_le_of_lt (Nat.div_le_self _ _) h

/-- what the first estimate leaves. -/
theorem est (U Y1 : Nat) (hU : U < 18446744073709551616) :
    IntKind.u64.wrap (((U / Y1 : Nat) : Int) * (Y1 : Int)) = ((U / Y1 * Y1 : Nat) : Int) ∧ IntKind.u64.wrap ((U : Int) - ((U / Y1 * Y1 : Nat) : Int)) = ((U - U / Y1 * Y1 : Nat) : Int) := by
  have h := Nat.div_mul_le_self U Y1
  rw [wrap_mul_nat, Nat.mod_eq_of_lt (by omega)]
  refine ⟨rfl, ?_⟩
  rw [← Int.natCast_sub h, wrap_of_nat, Nat.mod_eq_of_lt (by omega)]

/-- what the digit leaves: the products wrap, the remainder does not. -/
theorem rem_of (D Y N A B : Nat) (hD : D = N / Y) (hY : 0 < Y) (hYb : Y < 18446744073709551616) (hA : A % 18446744073709551616 = N % 18446744073709551616) (hB : B % 18446744073709551616 = D * Y % 18446744073709551616) :
    IntKind.u64.wrap ((A : Int) - (B : Int)) = ((N % Y : Nat) : Int) := by
  have h1 := Nat.div_add_mod' N Y
  have h2 := Nat.mod_lt N hY
  rw [← hD] at h1
  rw [wrap_sub_nat]
  generalize N % Y = R at *
  generalize D * Y = P at *
  congr 1
  omega

set_option maxRecDepth 100000 in
theorem div64_big (hi lo y : Nat) (hh : 0 < hi) (hy : hi < y) (hy2 : y < 9223372036854775808) (hlo : lo < 18446744073709551616) (w : World) :
    Calls Tryd.prog 112 #[.int .u64 hi, .int .u64 lo, .int .u64 y] w fun e w' => e = .returned (.tuple #[.int .u64 (((hi * 18446744073709551616 + lo) / y : Nat) : Int), .int .u64 (((hi * 18446744073709551616 + lo) % y : Nat) : Int)]) ∧ ∃ n, w' = w.drewN n := by
  obtain ⟨s, hs, hs1, hs2, hY1, hY2⟩ := shift_spec y (by omega) hy2
  obtain ⟨hU, hUl⟩ := norm_U hi lo y s hs2 hs1 hy hlo hY2
  have hL := norm_L lo s
  have hj := div_join hi lo y s _ _ _ hs2 rfl rfl rfl (by omega)
  have hY := norm_Y y s hY2
  have hLb : lo * 2 ^ s % 18446744073709551616 < 18446744073709551616 := Nat.mod_lt _ (by decide)
  obtain ⟨Y, eY⟩ : ∃ Y, y * 2 ^ s = Y := ⟨_, rfl⟩
  obtain ⟨U, eU⟩ : ∃ U, hi * 2 ^ s + lo / 2 ^ (64 - s) = U := ⟨_, rfl⟩
  obtain ⟨L, eL⟩ : ∃ L, lo * 2 ^ s % 18446744073709551616 = L := ⟨_, rfl⟩
  rw [eY] at hY1 hY2 hUl hY hj
  rw [eU] at hU hUl hj
  rw [eL] at hL hj hLb
  have eYY : Y / 4294967296 * 4294967296 + Y % 4294967296 = Y := by omega
  have hm := mask32 Y hY2
  have hml := mask32 L hLb
  obtain ⟨Y1, eY1⟩ : ∃ Y1, Y / 4294967296 = Y1 := ⟨_, rfl⟩
  obtain ⟨Y0, eY0⟩ : ∃ Y0, Y % 4294967296 = Y0 := ⟨_, rfl⟩
  obtain ⟨L1, eL1⟩ : ∃ L1, L / 4294967296 = L1 := ⟨_, rfl⟩
  obtain ⟨L0, eL0⟩ : ∃ L0, L % 4294967296 = L0 := ⟨_, rfl⟩
  rw [eY1, eY0] at eYY
  rw [eY0] at hm
  rw [eL0] at hml hj
  rw [eL1] at hj
  have b1 : L1 < 4294967296 := by omega
  have b0 : L0 < 4294967296 := by omega
  obtain ⟨R1, eR1⟩ : ∃ R1, (U * 4294967296 + L1) % Y = R1 := ⟨_, rfl⟩
  have hR1 : R1 < Y := by rw [← eR1]; exact Nat.mod_lt _ (by omega)
  rw [eR1] at hj
  obtain ⟨D1, eD1⟩ : ∃ D1, dig Y U L1 = D1 := ⟨_, rfl⟩
  obtain ⟨D0, eD0⟩ : ∃ D0, dig Y R1 L0 = D0 := ⟨_, rfl⟩
  rw [eD1, eD0] at hj
  have hD1 : D1 < 4294967296 := by rw [← eD1]; exact dig_lt hUl b1
  have hD0 : D0 < 4294967296 := by rw [← eD0]; exact dig_lt hR1 b0
  have e1 := est U Y1 (by omega)
  have e2 := est R1 Y1 (by omega)
  have r1 := rem_of D1 Y (U * 4294967296 + L1) ((U * 4294967296 % 18446744073709551616 + L1) % 18446744073709551616) (D1 * Y % 18446744073709551616) (by rw [← eD1]; rfl) (by omega) hY2 (by omega) (by omega)
  have r2 := rem_of D0 Y (R1 * 4294967296 + L0) ((R1 * 4294967296 % 18446744073709551616 + L0) % 18446744073709551616) (D0 * Y % 18446744073709551616) (by rw [← eD0]; rfl) (by omega) hY2 (by omega) (by omega)
  rw [eR1] at r1
  refine (div64_core hi lo y s hs hs1 hs2 hh hy hy2 hlo Y Y1 Y0 U L L1 L0 _ _ _ D1 _ _ _ R1 _ _ _ D0 _ _ _ _ _ _ hY (by omega) hm hU hL (by omega) hml
    (wrap_div_nat U Y1 (by omega)) e1.1 e1.2 (wrap_mul_k _) (wrap_add_nat _ _) (wrap_mul_nat _ _) r1 (wrap_div_nat R1 Y1 (by omega)) e2.1 e2.2 (wrap_mul_k _) (wrap_add_nat _ _) (wrap_mul_k _) (wrap_add_nat _ _) (wrap_mul_nat _ _) r2
    (by omega) (by omega) (by omega) b1 b0 (by rw [eYY]; exact hUl) (by rw [eYY]; exact eD1.symm) (by rw [eYY]; exact hR1) (by rw [eYY]; exact eD0.symm)
    (loop_start (by omega) (by omega) b1) (loop_start (by omega) (by omega) b0) w).mono ?_
  rintro e w' ⟨rfl, hw⟩
  refine ⟨?_, hw⟩
  rw [hj.1, ← hj.2]
  have q1 : (D1 * 4294967296 % 18446744073709551616 + D0) % 18446744073709551616 = D1 * 4294967296 + D0 := by omega
  have q2 : (((hi * 18446744073709551616 + lo) % y * 2 ^ s : Nat) : Int) / 2 ^ s = (((hi * 18446744073709551616 + lo) % y : Nat) : Int) := by
    rw [nat_pow_int, ← Int.natCast_ediv, Nat.mul_div_cancel _ (Nat.two_pow_pos _)]
  rw [q1, q2]

/-- THE CONTRACT OF math/bits.Div64, for a quotient of one word. -/
theorem div64_any (hi lo y : Int) (h0 : 0 ≤ hi) (hy : hi < y) (hy2 : y < 9223372036854775808) (hl0 : 0 ≤ lo) (hlo : lo < 18446744073709551616) (w : World) :
    Calls Tryd.prog 112 #[.int .u64 hi, .int .u64 lo, .int .u64 y] w fun e w' => e = .returned (.tuple #[.int .u64 ((hi * 18446744073709551616 + lo) / y), .int .u64 ((hi * 18446744073709551616 + lo) % y)]) ∧ ∃ n, w' = w.drewN n := by
  obtain ⟨a, rfl⟩ := Int.eq_ofNat_of_zero_le h0
  obtain ⟨b, rfl⟩ := Int.eq_ofNat_of_zero_le hl0
  obtain ⟨c, rfl⟩ := Int.eq_ofNat_of_zero_le (show 0 ≤ y by omega)
  by_cases ha : a = 0
  · subst ha
    refine (div64_small b c (by omega) (by omega) (by omega) w).mono ?_
    rintro e w' ⟨rfl, hw⟩
    refine ⟨?_, hw⟩
    simp
  · refine (div64_big a b c (by omega) (by omega) (by omega) (by omega) w).mono ?_
    rintro e w' ⟨rfl, hw⟩
    refine ⟨?_, hw⟩
    simp
end Go.Proofs.YtijedphpcocfnaaDoor
