/- The contracts of account.Key (at a valid secret), of the law's examples, and the walk of the law AccountMessages. -/
import Derived.Test.YtaoodeenbedmhaaDoorMsg
namespace Go.Proofs.YtaoodeenbedmhaaDoor
open Go.RowKit SpM
set_option linter.unusedVariables false

set_option maxHeartbeats 1600000 in
theorem key_ok (P Q G A B H u K mv : Int) (hval : Hid (validB P Q G A B H = true)) (hu0 : 1 ≤ u) (hu : u < Q) (hK : Hid (pw A (u % Q) P = K)) (hmv : Hid (msgV P Q G A B H K = mv)) (hr : Hid (msgE P Q G A B H K = 0)) (w : World) (hv : Hid (Vars w)) :
    Calls Tryd.prog 8 #[bv P Q G A B H, .int .i64 u] w fun e' w' => e' = .returned (.tuple #[.int .i64 K, .int .i64 0]) ∧ Below w.heap.size w w' := by
  have HV0 := Lib.hid (hv.out.below (below_box0 w (bObj P Q G A B H)))
  have HB0 := Lib.hid (bbox_alloc w P Q G A B H)
  obtain ⟨hg, hA, hB, hH, nA, nB, nH⟩ := validB_parts hval.out
  obtain ⟨hp2, hp, hq3, hqp⟩ := validG_P hg
  have HCK : Hid (chkG P Q G [A] = 0) := Lib.hid (chkG_ok hg (by simp [hA]))
  clear hg hA hB hH nA nB nH
  go_enter Tryd.func8, Tryd.ntmps8
  go_wp2_with fail
  refine (bvalid_any P Q G A B H true hval (by omega) _ HV0).mono ?_
  rintro e w1 ⟨rfl, hb0⟩
  have hb1 := below_bbox hb0
  have HV1 := Lib.hid (HV0.out.below hb0)
  have HX1 := Lib.hid (HB0.out.below hb0)
  obtain ⟨⟨c0, c1, c2⟩, c3, c4, c5⟩ := HX1.out
  clear hb0
  go_wp2_with fail
  refine (gpow_ok P Q G A u K HCK hK (by omega) (by omega) _ HV1).mono ?_
  rintro e w2 ⟨rfl, hb0⟩
  have hb2 := below_ext hb1 hb0
  have HV2 := Lib.hid (HV1.out.below hb0)
  clear c0 c1 c2 c3 c4 c5
  obtain ⟨⟨c0, c1, c2⟩, c3, c4, c5⟩ := HX1.out.below hb0
  clear hb0
  go_wp2_with fail
  refine (message_any P Q G A B H K mv 0 hmv hr (by omega) _ HV2).mono ?_
  rintro e w3 ⟨rfl, hb0⟩
  have hb3 := below_ext hb2 hb0
  clear hb0
  go_wp2
  go_ret2
  exact ⟨rfl, hb3⟩

set_option maxHeartbeats 1600000 in
theorem key_no (P Q G A B H u K mv r : Int) (hne : (r != 0) = true) (hval : Hid (validB P Q G A B H = true)) (hu0 : 1 ≤ u) (hu : u < Q) (hK : Hid (pw A (u % Q) P = K)) (hmv : Hid (msgV P Q G A B H K = mv)) (hr : Hid (msgE P Q G A B H K = r)) (w : World) (hv : Hid (Vars w)) :
    Calls Tryd.prog 8 #[bv P Q G A B H, .int .i64 u] w fun e' w' => e' = .returned (.tuple #[.int .i64 0, .int .i64 r]) ∧ Below w.heap.size w w' := by
  have HV0 := Lib.hid (hv.out.below (below_box0 w (bObj P Q G A B H)))
  have HB0 := Lib.hid (bbox_alloc w P Q G A B H)
  obtain ⟨hg, hA, hB, hH, nA, nB, nH⟩ := validB_parts hval.out
  obtain ⟨hp2, hp, hq3, hqp⟩ := validG_P hg
  have HCK : Hid (chkG P Q G [A] = 0) := Lib.hid (chkG_ok hg (by simp [hA]))
  clear hg hA hB hH nA nB nH
  go_enter Tryd.func8, Tryd.ntmps8
  go_wp2_with fail
  refine (bvalid_any P Q G A B H true hval (by omega) _ HV0).mono ?_
  rintro e w1 ⟨rfl, hb0⟩
  have hb1 := below_bbox hb0
  have HV1 := Lib.hid (HV0.out.below hb0)
  have HX1 := Lib.hid (HB0.out.below hb0)
  obtain ⟨⟨c0, c1, c2⟩, c3, c4, c5⟩ := HX1.out
  clear hb0
  go_wp2_with fail
  refine (gpow_ok P Q G A u K HCK hK (by omega) (by omega) _ HV1).mono ?_
  rintro e w2 ⟨rfl, hb0⟩
  have hb2 := below_ext hb1 hb0
  have HV2 := Lib.hid (HV1.out.below hb0)
  clear c0 c1 c2 c3 c4 c5
  obtain ⟨⟨c0, c1, c2⟩, c3, c4, c5⟩ := HX1.out.below hb0
  clear hb0
  go_wp2_with fail
  refine (message_any P Q G A B H K mv r hmv hr (by omega) _ HV2).mono ?_
  rintro e w3 ⟨rfl, hb0⟩
  have hb3 := below_ext hb2 hb0
  clear hb0
  go_wp2
  go_ret2
  exact ⟨rfl, hb3⟩

theorem ex_valid : Hid (validB 23 11 4 2 3 6 = true) := Lib.hid (by kernel_rfl)
theorem ex_pw5 : Hid (pw 2 (5 % 11) 23 = 9) := Lib.hid (by kernel_rfl)
theorem ex_pw3 : Hid (pw 2 (3 % 11) 23 = 8) := Lib.hid (by kernel_rfl)
theorem ex_e9 : Hid (msgE 23 11 4 2 3 6 9 = 0) := Lib.hid (by kernel_rfl)
theorem ex_v9 : Hid (msgV 23 11 4 2 3 6 9 = 4) := Lib.hid (by kernel_rfl)
theorem ex_e8 : Hid (msgE 23 11 4 2 3 6 8 = 10) := Lib.hid (by kernel_rfl)
theorem ex_v8 : Hid (msgV 23 11 4 2 3 6 8 = 0) := Lib.hid (by kernel_rfl)

set_option maxHeartbeats 1600000 in
theorem awake29 (w : World) (hv : Hid (Vars w)) :
    Calls Tryd.prog 7 #[] w fun e' w' => e' = .returned (.bool true) ∧ Below w.heap.size w w' := by
  have HV0 := Lib.hid (hv.out.below (below_box0 w (bObj 23 11 4 2 3 6)))
  have HB0 := Lib.hid (bbox_alloc w 23 11 4 2 3 6)
  go_enter Tryd.func7, Tryd.ntmps7
  go_wp2_with fail
  refine (key_ok 23 11 4 2 3 6 5 9 4 ex_valid (by decide) (by decide) ex_pw5 ex_v9 ex_e9 _ HV0).mono ?_
  rintro e w1 ⟨rfl, hb0⟩
  have hb1 := below_bbox hb0
  have HV1 := Lib.hid (HV0.out.below hb0)
  have HX1 := Lib.hid (HB0.out.below hb0)
  obtain ⟨⟨c0, c1, c2⟩, c3, c4, c5⟩ := HX1.out
  clear hb0
  go_wp2_with fail
  refine (message_any 23 11 4 2 3 6 9 4 0 ex_v9 ex_e9 (by decide) _ HV1).mono ?_
  rintro e w2 ⟨rfl, hb0⟩
  have hb2 := below_ext hb1 hb0
  have HV2 := Lib.hid (HV1.out.below hb0)
  have HX2 := Lib.hid (HX1.out.below hb0)
  clear c0 c1 c2 c3 c4 c5
  obtain ⟨⟨c0, c1, c2⟩, c3, c4, c5⟩ := HX2.out
  clear hb0
  go_wp2_with fail
  refine (key_no 23 11 4 2 3 6 3 8 0 10 (by decide) ex_valid (by decide) (by decide) ex_pw3 ex_v8 ex_e8 _ HV2).mono ?_
  rintro e w3 ⟨rfl, hb0⟩
  have hb3 := below_ext hb2 hb0
  clear hb0
  go_wp2
  go_ret
  exact ⟨rfl, hb3⟩

theorem msgE_zero {P Q G A B H key : Int} (h : msgE P Q G A B H key = 0) : validB P Q G A B H = true ∧ okB P Q key = true := by
  unfold msgE at h
  split at h
  · split at h
    · exact ⟨by assumption, by assumption⟩
    · omega
  · omega

set_option maxHeartbeats 1600000 in
theorem messages_true (P Q G A B H key other : Int) (hQ : Q < 9223372036854775808) (w : World) (hv : Hid (Vars w)) :
    Calls Tryd.prog 6 #[bv P Q G A B H, .int .i64 key, .int .i64 other] w fun e' w' => e' = .returned (.bool true) ∧ Below w.heap.size w w' := by
  have HV0 := Lib.hid (hv.out.below (below_box0 w (bObj P Q G A B H)))
  have HB0 := Lib.hid (bbox_alloc w P Q G A B H)
  obtain ⟨r, hr⟩ : ∃ r, msgE P Q G A B H key = r := ⟨_, rfl⟩
  obtain ⟨s, hs⟩ : ∃ s, msgE P Q G A B H other = s := ⟨_, rfl⟩
  obtain ⟨m, hm⟩ : ∃ m, msgV P Q G A B H key = m := ⟨_, rfl⟩
  obtain ⟨n, hn⟩ : ∃ n, msgV P Q G A B H other = n := ⟨_, rfl⟩
  have HR := Lib.hid hr
  have HS := Lib.hid hs
  have HM := Lib.hid hm
  have HN := Lib.hid hn
  cases hr0 : r != 0 with
  | true =>
    clear hr hs hm hn
    go_enter Tryd.func6, Tryd.ntmps6
    go_wp2_with fail
    refine (awake29 _ HV0).mono ?_
    rintro e w1 ⟨rfl, hb0⟩
    have hb1 := below_bbox hb0
    have HV1 := Lib.hid (HV0.out.below hb0)
    have HX1 := Lib.hid (HB0.out.below hb0)
    obtain ⟨⟨c0, c1, c2⟩, c3, c4, c5⟩ := HX1.out
    clear hb0
    go_wp2_with fail
    refine (message_any P Q G A B H key m r HM HR hQ _ HV1).mono ?_
    rintro e w2 ⟨rfl, hb0⟩
    have hb2 := below_ext hb1 hb0
    have HV2 := Lib.hid (HV1.out.below hb0)
    have HX2 := Lib.hid (HX1.out.below hb0)
    clear c0 c1 c2 c3 c4 c5
    obtain ⟨⟨c0, c1, c2⟩, c3, c4, c5⟩ := HX2.out
    clear hb0
    go_wp2_with fail
    refine (message_any P Q G A B H other n s HN HS hQ _ HV2).mono ?_
    rintro e w3 ⟨rfl, hb0⟩
    have hb3 := below_ext hb2 hb0
    clear hb0
    go_wp2
    go_ret
    exact ⟨rfl, hb3⟩
  | false =>
    obtain rfl : r = 0 := by simpa using hr0
    obtain ⟨hval, hk⟩ := msgE_zero hr
    cases hs0 : s != 0 with
    | true =>
      clear hr hs hm hn hval hk hr0
      go_enter Tryd.func6, Tryd.ntmps6
      go_wp2_with fail
      refine (awake29 _ HV0).mono ?_
      rintro e w1 ⟨rfl, hb0⟩
      have hb1 := below_bbox hb0
      have HV1 := Lib.hid (HV0.out.below hb0)
      have HX1 := Lib.hid (HB0.out.below hb0)
      obtain ⟨⟨c0, c1, c2⟩, c3, c4, c5⟩ := HX1.out
      clear hb0
      go_wp2_with fail
      refine (message_any P Q G A B H key m 0 HM HR hQ _ HV1).mono ?_
      rintro e w2 ⟨rfl, hb0⟩
      have hb2 := below_ext hb1 hb0
      have HV2 := Lib.hid (HV1.out.below hb0)
      have HX2 := Lib.hid (HX1.out.below hb0)
      clear c0 c1 c2 c3 c4 c5
      obtain ⟨⟨c0, c1, c2⟩, c3, c4, c5⟩ := HX2.out
      clear hb0
      go_wp2_with fail
      refine (message_any P Q G A B H other n s HN HS hQ _ HV2).mono ?_
      rintro e w3 ⟨rfl, hb0⟩
      have hb3 := below_ext hb2 hb0
      clear hb0
      go_wp2
      go_ret
      exact ⟨rfl, hb3⟩
    | false =>
      obtain rfl : s = 0 := by simpa using hs0
      obtain ⟨_, ho⟩ := msgE_zero hs
      obtain ⟨hg, hA, hB, hH, nA, nB, nH⟩ := validB_parts hval
      obtain ⟨hp2, hp, hq3, hqp⟩ := validG_P hg
      have hkm : memG P Q key = true := by simp [okB] at hk; exact hk.2
      have hom : memG P Q other = true := by simp [okB] at ho; exact ho.2
      have em : key * B % P = m := by rw [← hm, msgV, hr]; rfl
      have en : other * B % P = n := by rw [← hn, msgV, hs]; rfl
      have mm : memG P Q m = true := by rw [← em]; exact mem_mul hp2 (by omega) hkm hB
      have HCB : Hid (chkG P Q G [B] = 0) := Lib.hid (chkG_ok hg (by simp [hB]))
      have HF : Hid (∀ x, 0 ≤ x → x < P → x * B % P = 1 → chkG P Q G [m, x] = 0 ∧ m * x % P = key ∧ ((m == n) == (key == other)) = true) := Lib.hid (by
        intro x hx0 hx1 hx
        have h1 : m * x % P = key := by rw [← em]; exact mul_undo (by have := memG_lo hkm; omega) (memG_hi hkm) hx
        have h2 : n * x % P = other := by rw [← en]; exact mul_undo (by have := memG_lo hom; omega) (memG_hi hom) hx
        refine ⟨chkG_ok hg (by simp [mm, mem_inv hp2 (by omega) hB hx0 hx1 hx]), h1, ?_⟩
        by_cases he : key = other
        · have : m = n := by rw [← em, ← en, he]
          rw [this, he, beq_self_eq_true, beq_self_eq_true]; rfl
        · have : m ≠ n := fun h => he (by rw [← h1, ← h2, h])
          rw [beq_eq_false_iff_ne.mpr this, beq_eq_false_iff_ne.mpr he]; rfl)
      clear hr hs hm hn hval hk hr0 hs0 ho hg hA hB hH nA nB nH hkm hom em en mm
      go_enter Tryd.func6, Tryd.ntmps6
      go_wp2_with fail
      refine (awake29 _ HV0).mono ?_
      rintro e w1 ⟨rfl, hb0⟩
      have hb1 := below_bbox hb0
      have HV1 := Lib.hid (HV0.out.below hb0)
      have HX1 := Lib.hid (HB0.out.below hb0)
      obtain ⟨⟨c0, c1, c2⟩, c3, c4, c5⟩ := HX1.out
      clear hb0
      go_wp2_with fail
      refine (message_any P Q G A B H key m 0 HM HR hQ _ HV1).mono ?_
      rintro e w2 ⟨rfl, hb0⟩
      have hb2 := below_ext hb1 hb0
      have HV2 := Lib.hid (HV1.out.below hb0)
      have HX2 := Lib.hid (HX1.out.below hb0)
      clear c0 c1 c2 c3 c4 c5
      obtain ⟨⟨c0, c1, c2⟩, c3, c4, c5⟩ := HX2.out
      clear hb0
      go_wp2_with fail
      refine (message_any P Q G A B H other n 0 HN HS hQ _ HV2).mono ?_
      rintro e w3 ⟨rfl, hb0⟩
      have hb3 := below_ext hb2 hb0
      have HV3 := Lib.hid (HV2.out.below hb0)
      have HX3 := Lib.hid (HX2.out.below hb0)
      clear c0 c1 c2 c3 c4 c5
      obtain ⟨⟨c0, c1, c2⟩, c3, c4, c5⟩ := HX3.out
      clear hb0
      go_wp2_with fail
      refine (ginv_ok P Q G B HCB hQ _ HV3).mono ?_
      rintro e w4 ⟨x, rfl, hx0, hx1, hx, hb0⟩
      obtain ⟨hc1, hc2, hc3⟩ := HF.out x hx0 hx1 hx
      have HC1 := Lib.hid hc1
      have HC2 := Lib.hid hc2
      have hb4 := below_ext hb3 hb0
      have HV4 := Lib.hid (HV3.out.below hb0)
      have HX4 := Lib.hid (HX3.out.below hb0)
      clear c0 c1 c2 c3 c4 c5 hx hc1 hc2
      obtain ⟨⟨c0, c1, c2⟩, c3, c4, c5⟩ := HX4.out
      clear hb0
      go_wp2_with fail
      refine (gmul_ok P Q G m x key HC1 HC2 hQ _ HV4).mono ?_
      rintro e w5 ⟨rfl, hb0⟩
      have hb5 := below_ext hb4 hb0
      clear hb0
      go_wp2
      go_ret
      exact ⟨rfl, hb5⟩
end Go.Proofs.YtaoodeenbedmhaaDoor
