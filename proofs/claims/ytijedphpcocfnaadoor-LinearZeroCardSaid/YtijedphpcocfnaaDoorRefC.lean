/- The contract of the reference's test of primes. -/
import Derived.Test.YtijedphpcocfnaaDoorRefB
import Derived.Test.YtijedphpcocfnaaDoorIs
namespace Go.Proofs.YtijedphpcocfnaaDoor
open Go.RowKit SpM
set_option linter.unusedVariables false

theorem ris_neg (n : Int) (h : n < 2) (b : Bool) (hb : Hid (isP n = b)) (w : World) :
    Calls Tryd.prog 73 #[.int .i64 n] w fun e' w' => e' = .returned (.bool b) ∧ Below w.heap.size w w' := by
  obtain rfl : b = false := by rw [← hb.out]; unfold isP; rw [if_pos h]
  go_enter Tryd.func73, Tryd.ntmps73
  go_wp2
  go_ret
  exact ⟨rfl, Below.refl _ _⟩

theorem bs_cell (w : World) (T : TypeId) : ∀ k : Nat, k < 12 → (w.alloc (.cells #[.int .i64 2, .int .i64 3, .int .i64 5, .int .i64 7, .int .i64 11, .int .i64 13, .int .i64 17, .int .i64 19, .int .i64 23, .int .i64 29, .int .i64 31, .int .i64 37] T)).cell? ⟨w.heap.size, k, none⟩ = some (.int .i64 (bs k)) := by
  intro k hk
  rw [World.cell?_alloc_at _ _ _ _ rfl]
  match k, hk with
  | 0, _ => rfl
  | 1, _ => rfl
  | 2, _ => rfl
  | 3, _ => rfl
  | 4, _ => rfl
  | 5, _ => rfl
  | 6, _ => rfl
  | 7, _ => rfl
  | 8, _ => rfl
  | 9, _ => rfl
  | 10, _ => rfl
  | 11, _ => rfl
  | k + 12, h => exact absurd h (by omega)

set_option maxHeartbeats 800000 in
theorem ris_big (n : Int) (h : 2 ≤ n) (h2 : n < 2305843009213693952) (b : Bool) (hb : Hid (isP n = b)) (w : World) :
    Calls Tryd.prog 73 #[.int .i64 n] w fun e' w' => e' = .returned (.bool b) ∧ Below w.heap.size w w' := by
  have HB : Hid (Below w.heap.size w (w.alloc (.cells #[.int .i64 2, .int .i64 3, .int .i64 5, .int .i64 7, .int .i64 11, .int .i64 13, .int .i64 17, .int .i64 19, .int .i64 23, .int .i64 29, .int .i64 31, .int .i64 37] 3))) := (Below.refl _ _).alloc (Nat.le_refl _) _
  have hcells := Lib.hid (bs_cell w 3)
  go_enter Tryd.func73, Tryd.ntmps73
  go_wp2
  go_loop [4] (fun i => ∃ k : Nat, k ≤ 12 ∧ i = .int .i64 k ∧ Hid (divLoop n mrb = divLoop n (mrb.drop k))) (fun i => 12 - (intOf i).toNat)
  case atStart => exact ⟨0, by omega, rfl, rfl⟩
  case round =>
    obtain ⟨k, hk, rfl, HR⟩ := hrel
    by_cases hlt : k < 12
    · have hi := hcells.out k hlt
      have hbp := bs_pos k hlt
      by_cases hz : n % bs k = 0
      · have HD := Lib.hid (HR.out.trans (divLoop_hit n k hlt hz))
        obtain ⟨p, hp⟩ : ∃ p, bs k = p := ⟨_, rfl⟩
        rw [hp] at hi hbp hz HD
        clear hp
        have hz2 : ((n % p : Int) == 0) = true := by simp [hz]
        have hb2 : ((n : Int) == p) = b := by rw [← hb.out, isP_some h HD.out]; rfl
        obtain ⟨hb4, hb5⟩ := hbp
        clear hz HD HR
        go_wp2
        go_ret
        exact ⟨rfl, HB.out⟩
      · have HD : Hid (divLoop n mrb = divLoop n (mrb.drop (k + 1))) := HR.out.trans (divLoop_step n k hlt hz)
        obtain ⟨p, hp⟩ : ∃ p, bs k = p := ⟨_, rfl⟩
        rw [hp] at hi hbp hz
        clear hp
        have hz2 : ((n % p : Int) == 0) = false := by simp [hz]
        obtain ⟨hb4, hb5⟩ := hbp
        clear hz
        go_wp2
        go_round
        case rel => exact ⟨k + 1, by omega, by go_num, HD⟩
        case measure => simp [intOf]; omega
    · obtain rfl : k = 12 := by omega
      have hnone : divLoop n mrb = none := HR.out
      have hn41 := none_big h hnone
      have hodd := Lib.hid (none_odd hnone)
      have HF : Hid (allLoop n (odd1 n) (twos n) (mrb.drop 0) = b) := by rw [← hb.out]; exact (isP_none h hnone).symm
      clear hnone HR hk
      go_wp2
      go_loop [5] (fun i => ∃ k : Nat, k ≤ 12 ∧ i = .int .i64 k ∧ Hid (allLoop n (odd1 n) (twos n) (mrb.drop k) = b)) (fun i => 12 - (intOf i).toNat)
      case atStart => exact ⟨0, by omega, rfl, HF⟩
      case round =>
        obtain ⟨k, hk, rfl, HR⟩ := hrel
        by_cases hlt : k < 12
        · have hi := hcells.out k hlt
          have hbp := bs_pos k hlt
          cases hcc : comp (bs k) n (odd1 n) (twos n) with
          | true =>
            have HD := Lib.hid (HR.out.symm.trans (allLoop_hit n _ _ k hlt hcc))
            obtain ⟨p, hp⟩ : ∃ p, bs k = p := ⟨_, rfl⟩
            rw [hp] at hi hbp hcc
            clear hp
            have HC := Lib.hid hcc
            obtain ⟨hb4, hb5⟩ := hbp
            obtain rfl : b = false := HD.out
            clear hcc HD HR
            go_wp2_with fail
            refine (strong_any n p (by omega) h2 (by omega) (by omega) hodd.out true HC _).mono ?_
            rintro e w' ⟨rfl, rfl⟩
            go_wp2
            go_ret
            exact ⟨rfl, HB.out⟩
          | false =>
            have HD : Hid (allLoop n (odd1 n) (twos n) (mrb.drop (k + 1)) = b) := (allLoop_step n _ _ k hlt hcc).symm.trans HR.out
            obtain ⟨p, hp⟩ : ∃ p, bs k = p := ⟨_, rfl⟩
            rw [hp] at hi hbp hcc
            clear hp
            have HC := Lib.hid hcc
            obtain ⟨hb4, hb5⟩ := hbp
            clear hcc HR
            go_wp2_with fail
            refine (strong_any n p (by omega) h2 (by omega) (by omega) hodd.out false HC _).mono ?_
            rintro e w' ⟨rfl, rfl⟩
            go_wp2
            go_round
            case rel => exact ⟨k + 1, by omega, by go_num, HD⟩
            case measure => simp [intOf]; omega
        · obtain rfl : k = 12 := by omega
          obtain rfl : b = true := HR.out.symm
          clear HR
          go_wp2
          go_ret
          exact ⟨rfl, HB.out⟩

theorem ris_any (n : Int) (h2 : n < 2305843009213693952) (b : Bool) (hb : Hid (isP n = b)) (w : World) :
    Calls Tryd.prog 73 #[.int .i64 n] w fun e' w' => e' = .returned (.bool b) ∧ Below w.heap.size w w' := by
  by_cases h : n < 2
  · exact ris_neg n h b hb w
  · exact ris_big n (by omega) h2 b hb w
end Go.Proofs.YtijedphpcocfnaaDoor
