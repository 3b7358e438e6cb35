/- The contracts of the reference of layer 10 and the small ones of layer 16. -/
import Derived.Test.YtijedphpcocfnaaDoorGroupR
import Derived.Test.YtijedphpcocfnaaDoorGops
import Derived.Test.YtijedphpcocfnaaDoorAlg
import Derived.Deep.QuietTactic
import Derived.BigQuiet
namespace Go.Proofs.YtijedphpcocfnaaDoor
open Go.RowKit SpM
set_option linter.unusedVariables false

theorem rreduce_any (a m r : Int) (hr : Hid (a % m = r)) (h1 : 1 ≤ m) (h2 : m < 2305843009213693952) (ha0 : -9223372036854775808 ≤ a) (ha : a < 9223372036854775808) (w : World) :
    Calls Tryd.prog 38 #[.int .i64 a, .int .i64 m] w fun e' w' => e' = .returned (.int .i64 r) ∧ w = w' := by
  have hm : ((m : Int) == 0) = false := by simp; omega
  have hr' := hr.out
  by_cases hneg : 0 ≤ a
  · have h3 : 0 ≤ a % m := Int.emod_nonneg _ (by omega)
    have h4 : a % m < m := Int.emod_lt_of_pos _ (by omega)
    have h5 : decide (a % m < 0) = false := by simp; omega
    clear hr'
    go_enter Tryd.func38, Tryd.ntmps38
    go_wp2
    go_ret
    exact ⟨ret_int hr.out, rfl⟩
  · obtain ⟨t, ht⟩ : ∃ t, a.tmod m = t := ⟨_, rfl⟩
    have hb : -m < t ∧ t ≤ 0 := by
      rw [← ht]
      have e : a.tmod m = - ((-a) % m) := by
        rw [← Int.neg_neg a, Int.neg_tmod, Int.neg_neg, Int.tmod_eq_emod_of_nonneg (by omega)]
      have h3 : 0 ≤ (-a) % m := Int.emod_nonneg _ (by omega)
      have h4 : (-a) % m < m := Int.emod_lt_of_pos _ (by omega)
      omega
    have hrt : r = if t < 0 then t + m else t := by
      rw [← hr']
      have e : a = m * a.tdiv m + t := by rw [← ht]; exact (Int.mul_tdiv_add_tmod a m).symm
      have h6 : a % m = t % m := by rw [e, Int.mul_add_emod_self_left]
      rw [h6]
      split
      · rw [← Int.add_emod_right t m]; exact Int.emod_eq_of_lt (by omega) (by omega)
      · exact Int.emod_eq_of_lt (by omega) (by omega)
    obtain ⟨hb1, hb2⟩ := hb
    have HW : wrap64 (a.tmod m) = t := by rw [ht]; exact IntWalk.wrap64_in _ (by omega)
    clear hr' hr
    by_cases hz : t < 0
    · rw [if_pos hz] at hrt
      subst hrt
      go_enter Tryd.func38, Tryd.ntmps38
      go_wp2
      go_ret
      exact ⟨rfl, rfl⟩
    · rw [if_neg hz] at hrt
      subst hrt
      have hz2 : decide (r < 0) = false := by simp; omega
      go_enter Tryd.func38, Tryd.ntmps38
      go_wp2
      go_ret
      exact ⟨rfl, rfl⟩

/-- THE CONTRACT OF specieref10.Valid. -/
theorem rvalid_any (P Q G : Int) (b : Bool) (hb : Hid (validG P Q G = b)) (hQ : Q < 9223372036854775808) (w : World) :
    Calls Tryd.prog 33 #[gv P Q G] w fun e' w' => e' = .returned (.bool b) ∧ Below w.heap.size w w' := by
  have hb' := hb.out
  unfold validG at hb'
  by_cases h0 : P < 3
  · obtain rfl : b = false := by
      cases b with
      | false => rfl
      | true => exact absurd (validG_P hb.out).2.2 (by omega)
    exact rvalid_a P Q G h0 w
  have h0' : 3 ≤ P := by omega
  by_cases h1 : P < 2305843009213693952
  · by_cases h2 : 3 ≤ Q
    · by_cases h3 : Q % 2 = 1
      · by_cases h6 : (P - 1) % Q = 0
        · by_cases h7 : 2 ≤ G
          · by_cases h8 : G < P
            · have hQP : Q < P := by have := Int.le_of_dvd (by omega) (Int.dvd_of_emod_eq_zero h6); omega
              cases h4 : isP P with
              | true =>
                cases h5 : isP Q with
                | true =>
                  refine rvalid_j P Q G h0' h1 h2 h3 hQ h6 h7 h8 hQP b h4 h5 ?_ w
                  rw [← hb']
                  simp [h1, h2, h3, h4, h5, h6, h7, h8]
                  show ((pw G Q P == 1) = decide (pw G Q P = 1))
                  rfl
                | false =>
                  obtain rfl : b = false := by rw [← hb']; simp [h5]
                  exact rvalid_i P Q G h0' h1 h2 h3 hQ h6 h7 h8 hQP h4 h5 w
              | false =>
                obtain rfl : b = false := by rw [← hb']; simp [h4]
                exact rvalid_h P Q G h0' h1 h2 h3 hQ h6 h7 h8 hQP h4 w
            · obtain rfl : b = false := by rw [← hb']; simp [h8]
              exact rvalid_g P Q G h0' h1 h2 h3 hQ h6 h7 (by omega) w
          · obtain rfl : b = false := by rw [← hb']; simp [h7]
            exact rvalid_f P Q G h0' h1 h2 h3 hQ h6 (by omega) w
        · obtain rfl : b = false := by rw [← hb']; simp [h6]
          exact rvalid_e P Q G h0' h1 h2 h3 hQ h6 w
      · obtain rfl : b = false := by rw [← hb']; simp [h3]
        exact rvalid_d P Q G h0' h1 h2 (show Q % 2 = 0 by omega) w
    · obtain rfl : b = false := by rw [← hb']; simp [h2]
      exact rvalid_c P Q G h0' h1 (by omega) w
  · obtain rfl : b = false := by rw [← hb']; simp [h1]
    exact rvalid_b P Q G h0' (by omega) w

set_option maxHeartbeats 800000 in
theorem rmember_any (P Q G x : Int) (b : Bool) (hb : Hid (memG P Q x = b)) (h1 : P < 2305843009213693952) (hQ0 : 0 ≤ Q) (hQ : Q < 9223372036854775808) (w : World) :
    Calls Tryd.prog 36 #[gv P Q G, .int .i64 x] w fun e' w' => e' = .returned (.bool b) ∧ Below w.heap.size w w' := by
  by_cases hx : 1 ≤ x
  · by_cases hx2 : x < P
    · obtain ⟨y, hy⟩ : ∃ y, pw x Q P = y := ⟨_, rfl⟩
      have g9 : ((y : Int) == 1) = b := by
        rw [← hb.out, ← hy, memG, Bool.eq_iff_iff]
        simp only [beq_iff_eq, decide_eq_true_eq]
        exact ⟨fun h => ⟨by omega, by omega, h⟩, fun h => h.2.2⟩
      have HX := Lib.hid hy
      clear hy hb
      go_enter Tryd.func36, Tryd.ntmps36
      go_wp2_with fail
      refine (rpow_any x Q P y HX (by omega) h1 (by omega) hx2 hQ0 hQ _).mono ?_
      rintro e w' ⟨rfl, rfl⟩
      go_wp2
      go_ret
      exact ⟨rfl, below_box0 _ _⟩
    · obtain rfl : b = false := by rw [← hb.out]; simp [memG]; omega
      have d2 : decide (x < P) = false := by simp; omega
      go_enter Tryd.func36, Tryd.ntmps36
      go_wp2
      go_ret
      exact ⟨rfl, below_box0 _ _⟩
  · obtain rfl : b = false := by rw [← hb.out]; simp [memG]; omega
    have d2 : decide (1 ≤ x) = false := by simp; omega
    go_enter Tryd.func36, Tryd.ntmps36
    go_wp2
    go_ret
    exact ⟨rfl, below_box0 _ _⟩

set_option maxHeartbeats 800000 in
theorem rgmul_any (P Q G a b r : Int) (hr : Hid (a * b % P = r)) (h1 : P < 2305843009213693952) (ha0 : 0 ≤ a) (ha : a < P) (hb0 : 0 ≤ b) (hb : b < P) (w : World) :
    Calls Tryd.prog 80 #[gv P Q G, .int .i64 a, .int .i64 b] w fun e' w' => e' = .returned (.int .i64 r) ∧ Below w.heap.size w w' := by
  go_enter Tryd.func80, Tryd.ntmps80
  go_wp2_with fail
  refine (rmul_any a b P r hr h1 ha0 ha hb0 hb _).mono ?_
  rintro e w' ⟨rfl, rfl⟩
  go_wp2
  go_ret
  exact ⟨rfl, below_box0 _ _⟩

theorem quiet_left {P : Program} {f : FuncId} {args : Array Value} {w : World} {n : Nat} {v : Value}
    (h : Calls P f args (w.drewN n) fun e w' => e = .returned v ∧ w.drewN n = w') : Calls P f args (w.drewN n) fun e w'' => e = .returned v ∧ ∃ m, w'' = w.drewN m :=
  h.mono fun _ _ ⟨he, hm⟩ => ⟨he, n, hm.symm⟩

set_option maxHeartbeats 1600000 in
theorem rpower_any (P Q G a k r : Int) (hr : Hid (pw a (k % Q) P = r)) (h1 : 1 ≤ P) (h2 : P < 2305843009213693952) (hQ0 : 1 ≤ Q) (hQ : Q < 2305843009213693952) (ha0 : 0 ≤ a) (ha : a < P) (hk0 : -9223372036854775808 ≤ k) (hk : k < 9223372036854775808) (w : World) :
    Calls Tryd.prog 81 #[gv P Q G, .int .i64 a, .int .i64 k] w fun e' w' => e' = .returned (.int .i64 r) ∧ Below w.heap.size w w' := by
  have k0 : 0 ≤ k % Q := Int.emod_nonneg _ (by omega)
  have k1 : k % Q < Q := Int.emod_lt_of_pos _ (by omega)
  obtain ⟨j, hj⟩ : ∃ j, k % Q = j := ⟨_, rfl⟩
  rw [hj] at k0 k1 hr
  have HJ := Lib.hid hj
  clear hj
  go_enter Tryd.func81, Tryd.ntmps81
  go_wp2
  go_quiet ((first | (go_at_call 38; exact quiet_left (rreduce_any k Q j HJ hQ0 hQ hk0 hk _)) | (go_at_call 60; exact quiet_left (rpow_any a j P r hr h1 h2 ha0 ha k0 (by omega) _))))
  go_wp2
  go_ret
  exact ⟨rfl, below_box _ _ _⟩

end Go.Proofs.YtijedphpcocfnaaDoor
