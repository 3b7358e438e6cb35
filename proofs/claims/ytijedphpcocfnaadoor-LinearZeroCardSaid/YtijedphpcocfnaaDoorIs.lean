/- The contract of prime.Is. -/
import Derived.Test.YtijedphpcocfnaaDoorPrimeB
namespace Go.Proofs.YtijedphpcocfnaaDoor
open Go.RowKit SpM
set_option linter.unusedVariables false

/-- The package-level tables, as their initialisers lay them. -/
def Vars (w : World) : Prop := (∀ k, k < 12 → w.cell? ⟨0, k, none⟩ = some (.int .u64 (bs k))) ∧ TabAt 1 Lib.deBruijn64tab w

theorem is_neg (n : Int) (h : n < 2) (w : World) :
    Calls Tryd.prog 88 #[.int .i64 n] w fun e' w' => e' = .returned (.bool (isP n)) ∧ ∃ n, w' = w.drewN n := by
  have hf : isP n = false := by unfold isP; rw [if_pos h]
  rw [hf]
  clear hf
  go_enter Tryd.func88, Tryd.ntmps88
  go_wp2
  go_ret
  exact ⟨rfl, 0, rfl⟩

theorem idx_bases : ∀ k : Nat, k < 12 → ∀ w, (Instr.index 108 (.agg #[.int .u64 2, .int .u64 3, .int .u64 5, .int .u64 7, .int .u64 11, .int .u64 13, .int .u64 17, .int .u64 19, .int .u64 23, .int .u64 29, .int .u64 31, .int .u64 37]) (.int .i64 (k : Int))).run Tryd.prog w = .ok (.int .u64 (bs k)) w
  | 0, _ => fun w => by kernel_rfl
  | 1, _ => fun w => by kernel_rfl
  | 2, _ => fun w => by kernel_rfl
  | 3, _ => fun w => by kernel_rfl
  | 4, _ => fun w => by kernel_rfl
  | 5, _ => fun w => by kernel_rfl
  | 6, _ => fun w => by kernel_rfl
  | 7, _ => fun w => by kernel_rfl
  | 8, _ => fun w => by kernel_rfl
  | 9, _ => fun w => by kernel_rfl
  | 10, _ => fun w => by kernel_rfl
  | 11, _ => fun w => by kernel_rfl
  | k + 12, h => absurd h (by omega)

theorem tz_any (n : Int) (h : 2 ≤ n) (h2 : n < 9223372036854775808) (s : Nat) (hs : Hid (twos n = s)) (w : World) (hv : Vars w) :
    Calls Tryd.prog 108 #[.int .u64 (n - 1)] w fun e' w' => e' = .returned (.int .i64 s) ∧ w = w' := by
  obtain ⟨x, hx⟩ := Int.eq_ofNat_of_zero_le (show 0 ≤ n - 1 by omega)
  rw [hx]
  refine (Tryd.bits_TrailingZeros64 x (by omega) w (fun _ => hv.2)).mono ?_
  rintro e w' ⟨rfl, rfl⟩
  refine ⟨?_, rfl⟩
  rw [← hs.out]
  unfold twos
  rw [hx]; rfl

theorem isP_some {n : Int} {b : Bool} (h : 2 ≤ n) (hd : divLoop n mrb = some b) : isP n = b := by
  unfold isP; rw [if_neg (by omega), hd]
theorem isP_none {n : Int} (h : 2 ≤ n) (hd : divLoop n mrb = none) : isP n = allLoop n (odd1 n) (twos n) mrb := by
  unfold isP; rw [if_neg (by omega), hd]

set_option maxHeartbeats 800000 in
theorem is_big (n : Int) (h : 2 ≤ n) (h2 : n < 9223372036854775808) (b : Bool) (hb : Hid (isP n = b)) (w : World) (hv : Vars w) :
    Calls Tryd.prog 88 #[.int .i64 n] w fun e' w' => e' = .returned (.bool b) ∧ ∃ n, w' = w.drewN n := by
  have c0 : w.cell? ⟨0, 0, none⟩ = some (.int .u64 2) := hv.1 0 (by decide)
  have c1 : w.cell? ⟨0, 1, none⟩ = some (.int .u64 3) := hv.1 1 (by decide)
  have c2 : w.cell? ⟨0, 2, none⟩ = some (.int .u64 5) := hv.1 2 (by decide)
  have c3 : w.cell? ⟨0, 3, none⟩ = some (.int .u64 7) := hv.1 3 (by decide)
  have c4 : w.cell? ⟨0, 4, none⟩ = some (.int .u64 11) := hv.1 4 (by decide)
  have c5 : w.cell? ⟨0, 5, none⟩ = some (.int .u64 13) := hv.1 5 (by decide)
  have c6 : w.cell? ⟨0, 6, none⟩ = some (.int .u64 17) := hv.1 6 (by decide)
  have c7 : w.cell? ⟨0, 7, none⟩ = some (.int .u64 19) := hv.1 7 (by decide)
  have c8 : w.cell? ⟨0, 8, none⟩ = some (.int .u64 23) := hv.1 8 (by decide)
  have c9 : w.cell? ⟨0, 9, none⟩ = some (.int .u64 29) := hv.1 9 (by decide)
  have c10 : w.cell? ⟨0, 10, none⟩ = some (.int .u64 31) := hv.1 10 (by decide)
  have c11 : w.cell? ⟨0, 11, none⟩ = some (.int .u64 37) := hv.1 11 (by decide)
  go_enter Tryd.func88, Tryd.ntmps88
  go_wp2
  go_loop [14] (fun i => ∃ k : Nat, k ≤ 12 ∧ i = .int .i64 k ∧ Hid (divLoop n mrb = divLoop n (mrb.drop k))) (fun i => 12 - (intOf i).toNat)
  case atStart => exact ⟨0, by omega, rfl, rfl⟩
  case round =>
    obtain ⟨k, hk, rfl, HR⟩ := hrel
    by_cases hlt : k < 12
    · have hi := idx_bases k hlt
      have hbp := bs_pos k hlt
      by_cases hz : n % bs k = 0
      · have HD := Lib.hid (HR.out.trans (divLoop_hit n k hlt hz))
        obtain ⟨p, hp⟩ : ∃ p, bs k = p := ⟨_, rfl⟩
        rw [hp] at hi hbp hz HD
        clear hp
        have hz2 : ((n % p : Int) == 0) = true := by simp [hz]
        have hb2 : ((n : Int) == p) = b := by rw [← hb.out, isP_some h HD.out]; rfl
        obtain ⟨hb4, hb5⟩ := hbp
        clear hz HD HR
        go_wp2
        go_ret
        exact ⟨rfl, 0, rfl⟩
      · have HD : Hid (divLoop n mrb = divLoop n (mrb.drop (k + 1))) := HR.out.trans (divLoop_step n k hlt hz)
        obtain ⟨p, hp⟩ : ∃ p, bs k = p := ⟨_, rfl⟩
        rw [hp] at hi hbp hz
        clear hp
        have hz2 : ((n % p : Int) == 0) = false := by simp [hz]
        obtain ⟨hb4, hb5⟩ := hbp
        clear hz
        go_wp2
        go_round
        case rel => exact ⟨k + 1, by omega, by go_num, HD⟩
        case measure => simp [intOf]; omega
    · obtain rfl : k = 12 := by omega
      have hnone : divLoop n mrb = none := HR.out
      have hn41 := none_big h hnone
      have hodd := none_odd hnone
      obtain ⟨ht1, m, hm0, hm1, hm2⟩ := twos_spec h h2
      have HF : Hid (allLoop n (odd1 n) (twos n) mrb = b) := by rw [← hb.out]; exact (isP_none h hnone).symm
      obtain ⟨s, hs⟩ : ∃ s, twos n = s := ⟨_, rfl⟩
      obtain ⟨d, hd⟩ : ∃ d, odd1 n = d := ⟨_, rfl⟩
      have hdd : (n - 1) / 2 ^ s = d := by rw [← hs]; exact hd
      have hs1 : 1 ≤ s := by
        cases s with
        | zero => rw [hs] at hm1; simp at hm1; omega
        | succ j => omega
      have hd0 : 0 ≤ d := by omega
      have hd1 : d < 9223372036854775808 := by
        rw [← hd, hm2]
        have : (1 : Int) ≤ 2 ^ twos n := by have : (0 : Int) < 2 ^ twos n := Int.pow_pos (by decide); omega
        have : 1 * (2 * m + 1) ≤ 2 ^ twos n * (2 * m + 1) := Int.mul_le_mul_of_nonneg_right this (by omega)
        omega
      rw [hs, hd] at HF
      rw [hs] at ht1
      have HS := Lib.hid hs
      clear hs hd hm1 hm2 hodd hnone HR hk
      go_wp2_with fail
      refine (tz_any n h h2 s HS _ hv).mono ?_
      rintro e w' ⟨rfl, rfl⟩
      go_wp2
      go_loopw [29] (fun i wr => ∃ k : Nat, k ≤ 12 ∧ i = .int .i64 k ∧ Hid (allLoop n d s (mrb.drop k) = b) ∧ ∃ n, wr = w.drewN n) (fun i _ => 12 - (intOf i).toNat)
      case atStart => exact ⟨0, by omega, rfl, HF, 0, rfl⟩
      case round =>
        obtain ⟨k, hk, rfl, HR, q, rfl⟩ := hrel
        by_cases hlt : k < 12
        · have hi := idx_bases k hlt
          have hbp := bs_pos k hlt
          cases hcc : comp (bs k) n d s with
          | true =>
            have HD := Lib.hid (HR.out.symm.trans (allLoop_hit n d s k hlt hcc))
            obtain ⟨p, hp⟩ : ∃ p, bs k = p := ⟨_, rfl⟩
            rw [hp] at hi hbp hcc
            clear hp
            have HC := Lib.hid hcc
            obtain ⟨hb4, hb5⟩ := hbp
            obtain rfl : b = false := HD.out
            clear hcc HD HR
            go_wp2_with fail
            refine (composite_any p n d s h h2 (by omega) (by omega) hd0 hd1 hs1 ht1 true HC _).mono ?_
            rintro e w' ⟨rfl, m3, rfl⟩
            go_wp2
            go_ret
            exact ⟨rfl, _, rfl⟩
          | false =>
            have HD : Hid (allLoop n d s (mrb.drop (k + 1)) = b) := (allLoop_step n d s k hlt hcc).symm.trans HR.out
            obtain ⟨p, hp⟩ : ∃ p, bs k = p := ⟨_, rfl⟩
            rw [hp] at hi hbp hcc
            clear hp
            have HC := Lib.hid hcc
            obtain ⟨hb4, hb5⟩ := hbp
            clear hcc HR
            go_wp2_with fail
            refine (composite_any p n d s h h2 (by omega) (by omega) hd0 hd1 hs1 ht1 false HC _).mono ?_
            rintro e w' ⟨rfl, m3, rfl⟩
            go_wp2
            go_roundw
            case rel => exact ⟨k + 1, by omega, by go_num, HD, _, rfl⟩
            case measure => simp [intOf]; omega
        · obtain rfl : k = 12 := by omega
          obtain rfl : b = true := HR.out.symm
          clear HR
          go_wp2
          go_ret
          exact ⟨rfl, _, rfl⟩

/-- THE CONTRACT OF prime.Is, for every integer. -/
theorem is_any (n : Int) (h2 : n < 9223372036854775808) (b : Bool) (hb : Hid (isP n = b)) (w : World) (hv : Vars w) :
    Calls Tryd.prog 88 #[.int .i64 n] w fun e' w' => e' = .returned (.bool b) ∧ ∃ n, w' = w.drewN n := by
  by_cases h : n < 2
  · rw [← hb.out]; exact is_neg n h w
  · exact is_big n (by omega) h2 b hb w hv
end Go.Proofs.YtijedphpcocfnaaDoor
