/- The contracts of group.Inverse and account.Message. -/
import Derived.Test.YtaoodeenbedmhaaDoorBase
import Derived.Test.YtaoodeenbedmhaaDoorAlg
namespace Go.Proofs.YtaoodeenbedmhaaDoor
open Go.RowKit SpM
set_option linter.unusedVariables false

/-- what word.Inverse answers for a unit. -/
def InvOut (a m : Int) (w : World) (e : Ending) (w' : World) : Prop :=
  ∃ x : Int, e = .returned (.tuple #[.int .i64 x, .int .i64 0]) ∧ 0 ≤ x ∧ x < m ∧ x * a % m = 1 ∧ ∃ n, w' = w.drewN n

set_option maxHeartbeats 800000 in
theorem winv_ok (a m : Int) (h1 : 2 ≤ m) (h2 : m < 2305843009213693952) (ha0 : 0 ≤ a) (ha : a < m) (hu : Hid (∀ d, d ∣ a → d ∣ m → 0 < d → d = 1)) (w : World) :
    Calls Tryd.prog 56 #[.int .i64 a, .int .i64 m] w (InvOut a m w) := by
  have hc := Lib.hid (chk_ok (by omega) h2 ha0 ha ha0 ha)
  go_enter Tryd.func56, Tryd.ntmps56
  go_wp2_with (go_at_call 63; refine (check_any _ _ _ _).mono ?_; rintro e w' ⟨rfl, rfl⟩; rw [hc.out])
  refine (euclid_any a m (by omega) h2 ha0 ha _).mono ?_
  rintro e w' ⟨d, x, k, rfl, hx0, hx1, hd1, hd2, hd0, hd, hk, n, rfl⟩
  obtain rfl : d = 1 := hu.out d hd1 hd2 hd0
  have HX : Hid (x * a % m = 1) := Lib.hid (by rw [hk, Int.add_mul_emod_self_left]; exact emod_one_of h1)
  clear hk hd1 hd2 hd0 hd
  go_wp2
  go_ret2
  exact ⟨x, rfl, hx0, hx1, HX.out, n, rfl⟩

/-- what group.Inverse answers for an element. -/
def GInvOut (a P : Int) (w : World) (e : Ending) (w' : World) : Prop :=
  ∃ x : Int, e = .returned (.tuple #[.int .i64 x, .int .i64 0]) ∧ 0 ≤ x ∧ x < P ∧ x * a % P = 1 ∧ Below w.heap.size w w'

set_option maxHeartbeats 1600000 in
theorem ginv_ok (P Q G a : Int) (hr : Hid (chkG P Q G [a] = 0)) (hQ : Q < 9223372036854775808) (w : World) (hv : Hid (Vars w)) :
    Calls Tryd.prog 29 #[gv P Q G, .int .i64 a] w (GInvOut a P w) := by
  obtain ⟨hval, hall⟩ := chkG_zero hr.out
  obtain ⟨hp2, hp, hq3, hqp⟩ := validG_P hval
  simp only [List.all_cons, List.all_nil, Bool.and_true] at hall
  have la := memG_lo hall
  have ha := memG_hi hall
  have hu : Hid (∀ d, d ∣ a → d ∣ P → 0 < d → d = 1) := Lib.hid (fun d h1 h2 h3 => unit_of_mem hp2 (by omega) hall h1 h2 h3)
  clear hall hval
  have HV1 := Lib.hid (hv.out.below (below_two (w := w) (o1 := gObj P Q G) (o2 := .cells #[.int .i64 a] 3) (Below.refl _ _)))
  have HC := Lib.hid (cells1' w (gObj P Q G) 3 a)
  have HB0 := Lib.hid ((gbox_alloc w P Q G).below (below_box0 (w.alloc (gObj P Q G)) (.cells #[.int .i64 a] 3)))
  go_enter Tryd.func29, Tryd.ntmps29
  go_wp2_with fail
  refine (gcheck_any P Q G _ [a] 1 1 (Lib.hid rfl) (by decide) 0 hr (by omega) _ HV1 HC).mono ?_
  rintro e w1 ⟨rfl, hb0⟩
  have hb1 := below_two hb0
  obtain ⟨c0, c1, c2⟩ := HB0.out.below hb0
  clear hb0
  go_wp2_with fail
  refine (winv_ok a P hp2 hp (by omega) ha hu _).mono ?_
  rintro e w2 ⟨x, rfl, hx0, hx1, hx, n, rfl⟩
  have HX := Lib.hid hx
  clear hx
  go_wp2
  go_ret2
  exact ⟨x, rfl, hx0, hx1, HX.out, below_drawN hb1 _⟩

/-- the error of account.Message, and its message. -/
def msgE (P Q G A B H key : Int) : Int := if validB P Q G A B H = true then (if okB P Q key = true then (if key * B % P = 1 then 10 else 0) else 2) else 1
def msgV (P Q G A B H key : Int) : Int := if msgE P Q G A B H key = 0 then key * B % P else 0

theorem validB_parts {P Q G A B H : Int} (h : validB P Q G A B H = true) : validG P Q G = true ∧ memG P Q A = true ∧ memG P Q B = true ∧ memG P Q H = true ∧ A ≠ 1 ∧ B ≠ 1 ∧ H ≠ 1 := by
  simp [validB, okB] at h
  exact ⟨h.1, h.2.1.2, h.2.2.1.2, h.2.2.2.2, h.2.1.1, h.2.2.1.1, h.2.2.2.1⟩

theorem below_bbox {w w1 : World} {o : Obj} (h : Below (w.alloc o).heap.size (w.alloc o) w1) : Below w.heap.size w w1 := below_ext (below_box0 _ _) h

set_option maxHeartbeats 1600000 in
theorem message_any (P Q G A B H key v r : Int) (hv0 : Hid (msgV P Q G A B H key = v)) (hr0 : Hid (msgE P Q G A B H key = r)) (hQ : Q < 9223372036854775808) (w : World) (hv : Hid (Vars w)) :
    Calls Tryd.prog 9 #[bv P Q G A B H, .int .i64 key] w fun e' w' => e' = .returned (.tuple #[.int .i64 v, .int .i64 r]) ∧ Below w.heap.size w w' := by
  have HV0 := Lib.hid (hv.out.below (below_box0 w (bObj P Q G A B H)))
  have HB0 := Lib.hid (bbox_alloc w P Q G A B H)
  cases hval : validB P Q G A B H with
  | false =>
    obtain rfl : r = 1 := by rw [← hr0.out, msgE, hval]; rfl
    obtain rfl : v = 0 := by rw [← hv0.out, msgV, hr0.out]; rfl
    have HV : Hid (validB P Q G A B H = false) := hval
    clear hval hv0 hr0
    go_enter Tryd.func9, Tryd.ntmps9
    go_wp2_with fail
    refine (bvalid_any P Q G A B H false HV hQ _ HV0).mono ?_
    rintro e w1 ⟨rfl, hb0⟩
    have hb1 := below_bbox hb0
    clear hb0
    go_wp2
    go_ret2
    exact ⟨rfl, hb1⟩
  | true =>
    obtain ⟨hg, hA, hB, hH, nA, nB, nH⟩ := validB_parts hval
    have HV : Hid (validB P Q G A B H = true) := hval
    cases h1 : key == 1 with
    | true =>
      have h1' : key = 1 := by simpa using h1
      obtain rfl : r = 2 := by rw [← hr0.out, msgE, if_pos hval, h1']; rfl
      obtain rfl : v = 0 := by rw [← hv0.out, msgV, hr0.out]; rfl
      clear h1' hval hv0 hr0 hg hA hB hH nA nB nH
      go_enter Tryd.func9, Tryd.ntmps9
      go_wp2_with fail
      refine (bvalid_any P Q G A B H true HV hQ _ HV0).mono ?_
      rintro e w1 ⟨rfl, hb0⟩
      have hb1 := below_bbox hb0
      obtain ⟨⟨c0, c1, c2⟩, c3, c4, c5⟩ := HB0.out.below hb0
      clear hb0
      go_wp2
      go_ret2
      exact ⟨rfl, hb1⟩
    | false =>
      have hko := Lib.hid (okB_con (G := G) hg h1)
      cases hk : okB P Q key with
      | false =>
        obtain rfl : r = 2 := by rw [← hr0.out, msgE, if_pos hval, hk]; rfl
        obtain rfl : v = 0 := by rw [← hv0.out, msgV, hr0.out]; rfl
        have HK : Hid (conG P Q G key = false) := Lib.hid (hko.out.trans hk)
        clear hk hval hv0 hr0 hg hA hB hH nA nB nH
        go_enter Tryd.func9, Tryd.ntmps9
        go_wp2_with fail
        refine (bvalid_any P Q G A B H true HV hQ _ HV0).mono ?_
        rintro e w1 ⟨rfl, hb0⟩
        have hb1 := below_bbox hb0
        have HV1 := Lib.hid (HV0.out.below hb0)
        obtain ⟨⟨c0, c1, c2⟩, c3, c4, c5⟩ := HB0.out.below hb0
        clear hb0
        go_wp2_with fail
        refine (contains_any P Q G key false HK hQ _ HV1).mono ?_
        rintro e w2 ⟨rfl, hb0⟩
        have hb2 := below_ext hb1 hb0
        clear hb0
        go_wp2
        go_ret2
        exact ⟨rfl, hb2⟩
      | true =>
        have HK : Hid (conG P Q G key = true) := Lib.hid (hko.out.trans hk)
        have hkm : memG P Q key = true := by simp [okB] at hk; exact hk.2
        have HCK : Hid (chkG P Q G [key, B] = 0) := Lib.hid (chkG_ok hg (by simp [hkm, hB]))
        obtain ⟨m, hm⟩ : ∃ m, key * B % P = m := ⟨_, rfl⟩
        have HM := Lib.hid hm
        cases h10 : m == 1 with
        | true =>
          have h10' : m = 1 := by simpa using h10
          obtain rfl : r = 10 := by rw [← hr0.out, msgE, if_pos hval, hk, hm, h10']; rfl
          obtain rfl : v = 0 := by rw [← hv0.out, msgV, hr0.out]; rfl
          clear hkm h10' hm hk hval hv0 hr0 hg hA hB hH nA nB nH
          go_enter Tryd.func9, Tryd.ntmps9
          go_wp2_with fail
          refine (bvalid_any P Q G A B H true HV hQ _ HV0).mono ?_
          rintro e w1 ⟨rfl, hb0⟩
          have hb1 := below_bbox hb0
          have HV1 := Lib.hid (HV0.out.below hb0)
          have HX1 := Lib.hid (HB0.out.below hb0)
          obtain ⟨⟨c0, c1, c2⟩, c3, c4, c5⟩ := HX1.out
          clear hb0
          go_wp2_with fail
          refine (contains_any P Q G key true HK hQ _ HV1).mono ?_
          rintro e w2 ⟨rfl, hb0⟩
          have hb2 := below_ext hb1 hb0
          have HV2 := Lib.hid (HV1.out.below hb0)
          clear c0 c1 c2 c3 c4 c5
          obtain ⟨⟨c0, c1, c2⟩, c3, c4, c5⟩ := HX1.out.below hb0
          clear hb0
          go_wp2_with fail
          refine (gmul_ok P Q G key B m HCK HM hQ _ HV2).mono ?_
          rintro e w3 ⟨rfl, hb0⟩
          have hb3 := below_ext hb2 hb0
          clear hb0
          go_wp2
          go_ret2
          exact ⟨rfl, hb3⟩
        | false =>
          have h10' : m ≠ 1 := by simpa using h10
          obtain rfl : r = 0 := by rw [← hr0.out, msgE, if_pos hval, hk, hm, if_pos rfl, if_neg h10']
          obtain rfl : v = m := by rw [← hv0.out, msgV, hr0.out, if_pos rfl, hm]
          clear hkm h10' hm hk hval hv0 hr0 hg hA hB hH nA nB nH
          go_enter Tryd.func9, Tryd.ntmps9
          go_wp2_with fail
          refine (bvalid_any P Q G A B H true HV hQ _ HV0).mono ?_
          rintro e w1 ⟨rfl, hb0⟩
          have hb1 := below_bbox hb0
          have HV1 := Lib.hid (HV0.out.below hb0)
          have HX1 := Lib.hid (HB0.out.below hb0)
          obtain ⟨⟨c0, c1, c2⟩, c3, c4, c5⟩ := HX1.out
          clear hb0
          go_wp2_with fail
          refine (contains_any P Q G key true HK hQ _ HV1).mono ?_
          rintro e w2 ⟨rfl, hb0⟩
          have hb2 := below_ext hb1 hb0
          have HV2 := Lib.hid (HV1.out.below hb0)
          clear c0 c1 c2 c3 c4 c5
          obtain ⟨⟨c0, c1, c2⟩, c3, c4, c5⟩ := HX1.out.below hb0
          clear hb0
          go_wp2_with fail
          refine (gmul_ok P Q G key B v HCK HM hQ _ HV2).mono ?_
          rintro e w3 ⟨rfl, hb0⟩
          have hb3 := below_ext hb2 hb0
          clear hb0
          go_wp2
          go_ret2
          exact ⟨rfl, hb3⟩
end Go.Proofs.YtaoodeenbedmhaaDoor
