/- The contracts of packages knowledge and specieref16: responses. -/
import Derived.Test.YtohjfnhgibedpaaDoorKnA
namespace Go.Proofs.YtohjfnhgibedpaaDoor
open Go.RowKit SpM
set_option linter.unusedVariables false

/-- the error of a response, and the response. -/
def resE (P Q G k c x : Int) : Int := if validG P Q G = true then (if expB Q k = true then (if expB Q c = true then (if expB Q x = true then 0 else 2) else 2) else 2) else 1
def resV (P Q G k c x : Int) : Int := if resE P Q G k c x = 0 then (c * x % Q + k) % Q else 0

set_option maxHeartbeats 1600000 in
theorem response_ok (P Q G k c x v : Int) (hv0 : Hid ((c * x % Q + k) % Q = v)) (hQ1 : 1 ≤ Q) (hQ : Q < 2305843009213693952) (k0 : 0 ≤ k) (k1 : k < Q) (c0 : 0 ≤ c) (c1 : c < Q) (x0 : 0 ≤ x) (x1 : x < Q) (w : World) :
    Calls Tryd.prog 91 #[gv P Q G, .int .i64 k, .int .i64 c, .int .i64 x] w fun e' w' => e' = .returned (.int .i64 v) ∧ Below w.heap.size w w' := by
  have m0 : 0 ≤ c * x % Q := Int.emod_nonneg _ (by omega)
  have m1 : c * x % Q < Q := Int.emod_lt_of_pos _ (by omega)
  obtain ⟨m, hm⟩ : ∃ m, c * x % Q = m := ⟨_, rfl⟩
  rw [hm] at m0 m1 hv0
  have HM := Lib.hid hm
  clear hm
  go_enter Tryd.func91, Tryd.ntmps91
  go_wp2_with fail
  refine (wmul_ok c x Q hQ c0 c1 x0 x1 _).mono ?_
  rintro e w1 ⟨rfl, n, rfl⟩
  rw [HM.out]
  go_wp2_with fail
  refine (add_ok m k Q hQ m0 m1 k0 k1 _).mono ?_
  rintro e w2 ⟨rfl, rfl⟩
  rw [hv0.out]
  go_wp2
  go_ret
  exact ⟨rfl, below_box _ _ _⟩

set_option maxHeartbeats 1600000 in
theorem respond_any (P Q G k c x v r : Int) (hv0 : Hid (resV P Q G k c x = v)) (hr0 : Hid (resE P Q G k c x = r)) (hQ : Q < 9223372036854775808) (w : World) (hv : Hid (Vars w)) :
    Calls Tryd.prog 67 #[gv P Q G, .int .i64 k, .int .i64 c, .int .i64 x] w fun e' w' => e' = .returned (.tuple #[.int .i64 v, .int .i64 r]) ∧ Below w.heap.size w w' := by
  have HV0 := Lib.hid (hv.out.below (below_box0 w (gObj P Q G)))
  have HX0 := Lib.hid (gbox_alloc w P Q G)
  cases hval : validG P Q G with
  | false =>
    obtain rfl : r = 1 := by rw [← hr0.out, resE, hval]; rfl
    obtain rfl : v = 0 := by rw [← hv0.out, resV, hr0.out]; rfl
    have HV : Hid (validG P Q G = false) := hval
    clear hval hr0 hv0
    go_enter Tryd.func67, Tryd.ntmps67
    go_wp2_with fail
    refine (valid_any P Q G false HV hQ _ HV0).mono ?_
    rintro e w1 ⟨rfl, hb0⟩
    have hb1 := below_ext (below_box0 _ _) hb0
    clear hb0
    go_wp2
    go_ret2
    exact ⟨rfl, hb1⟩
  | true =>
    obtain ⟨hp2, hp, hq3, hqp⟩ := validG_P hval
    have HV : Hid (validG P Q G = true) := hval
    cases hk : expB Q k with
    | false =>
      obtain rfl : r = 2 := by rw [← hr0.out, resE, hval, hk]; rfl
      obtain rfl : v = 0 := by rw [← hv0.out, resV, hr0.out]; rfl
      have Hk : Hid (expB Q k = false) := hk
      clear hval hr0 hv0 hk
      go_enter Tryd.func67, Tryd.ntmps67
      go_wp2_with fail
      refine (valid_any P Q G true HV hQ _ HV0).mono ?_
      rintro e w1 ⟨rfl, hb0⟩
      have hb1 := below_ext (below_box0 _ _) hb0
      have HV1 := Lib.hid (HV0.out.below hb0)
      have HX1 := Lib.hid (HX0.out.below hb0)
      clear hb0
      obtain ⟨c0, c1, c2⟩ := HX1.out
      go_wp2_with fail
      refine (kexp_any P Q G k false Hk _).mono ?_
      rintro e w2 ⟨rfl, hb0⟩
      have hb2 := below_ext hb1 hb0
      clear hb0
      go_wp2
      go_ret2
      exact ⟨rfl, hb2⟩
    | true =>
      have Hk : Hid (expB Q k = true) := hk
      have k0 := expB_lo hk
      have k1 := expB_hi hk
      cases hc : expB Q c with
      | false =>
        obtain rfl : r = 2 := by rw [← hr0.out, resE, hval, hk, hc]; rfl
        obtain rfl : v = 0 := by rw [← hv0.out, resV, hr0.out]; rfl
        have Hc : Hid (expB Q c = false) := hc
        clear hval hr0 hv0 hk hc
        go_enter Tryd.func67, Tryd.ntmps67
        go_wp2_with fail
        refine (valid_any P Q G true HV hQ _ HV0).mono ?_
        rintro e w1 ⟨rfl, hb0⟩
        have hb1 := below_ext (below_box0 _ _) hb0
        have HV1 := Lib.hid (HV0.out.below hb0)
        have HX1 := Lib.hid (HX0.out.below hb0)
        clear hb0
        obtain ⟨c0, c1, c2⟩ := HX1.out
        go_wp2_with fail
        refine (kexp_any P Q G k true Hk _).mono ?_
        rintro e w2 ⟨rfl, hb0⟩
        have hb2 := below_ext hb1 hb0
        have HV2 := Lib.hid (HV1.out.below hb0)
        have HX2 := Lib.hid (HX1.out.below hb0)
        clear c0 c1 c2 hb0
        obtain ⟨c0, c1, c2⟩ := HX2.out
        go_wp2_with fail
        refine (kexp_any P Q G c false Hc _).mono ?_
        rintro e w3 ⟨rfl, hb0⟩
        have hb3 := below_ext hb2 hb0
        clear hb0
        go_wp2
        go_ret2
        exact ⟨rfl, hb3⟩
      | true =>
        have Hc : Hid (expB Q c = true) := hc
        have c0 := expB_lo hc
        have c1 := expB_hi hc
        cases hx : expB Q x with
        | false =>
          obtain rfl : r = 2 := by rw [← hr0.out, resE, hval, hk, hc, hx]; rfl
          obtain rfl : v = 0 := by rw [← hv0.out, resV, hr0.out]; rfl
          have Hx : Hid (expB Q x = false) := hx
          clear hval hr0 hv0 hk hc hx c0 c1
          go_enter Tryd.func67, Tryd.ntmps67
          go_wp2_with fail
          refine (valid_any P Q G true HV hQ _ HV0).mono ?_
          rintro e w1 ⟨rfl, hb0⟩
          have hb1 := below_ext (below_box0 _ _) hb0
          have HV1 := Lib.hid (HV0.out.below hb0)
          have HX1 := Lib.hid (HX0.out.below hb0)
          clear hb0
          obtain ⟨c0, c1, c2⟩ := HX1.out
          go_wp2_with fail
          refine (kexp_any P Q G k true Hk _).mono ?_
          rintro e w2 ⟨rfl, hb0⟩
          have hb2 := below_ext hb1 hb0
          have HV2 := Lib.hid (HV1.out.below hb0)
          have HX2 := Lib.hid (HX1.out.below hb0)
          clear c0 c1 c2 hb0
          obtain ⟨c0, c1, c2⟩ := HX2.out
          go_wp2_with fail
          refine (kexp_any P Q G c true Hc _).mono ?_
          rintro e w3 ⟨rfl, hb0⟩
          have hb3 := below_ext hb2 hb0
          have HV3 := Lib.hid (HV2.out.below hb0)
          have HX3 := Lib.hid (HX2.out.below hb0)
          clear c0 c1 c2 hb0
          obtain ⟨c0, c1, c2⟩ := HX3.out
          go_wp2_with fail
          refine (kexp_any P Q G x false Hx _).mono ?_
          rintro e w4 ⟨rfl, hb0⟩
          have hb4 := below_ext hb3 hb0
          clear hb0
          go_wp2
          go_ret2
          exact ⟨rfl, hb4⟩
        | true =>
          have Hx : Hid (expB Q x = true) := hx
          have x0 := expB_lo hx
          have x1 := expB_hi hx
          obtain rfl : r = 0 := by rw [← hr0.out, resE, hval, hk, hc, hx]; rfl
          have HW0 : (c * x % Q + k) % Q = v := by rw [← hv0.out, resV, hr0.out]; rfl
          have HW := Lib.hid HW0
          obtain ⟨ch0, ch1⟩ : 0 ≤ c ∧ c < Q := ⟨c0, c1⟩
          clear hval hr0 hv0 hk hc hx HW0 c0 c1
          go_enter Tryd.func67, Tryd.ntmps67
          go_wp2_with fail
          refine (valid_any P Q G true HV hQ _ HV0).mono ?_
          rintro e w1 ⟨rfl, hb0⟩
          have hb1 := below_ext (below_box0 _ _) hb0
          have HV1 := Lib.hid (HV0.out.below hb0)
          have HX1 := Lib.hid (HX0.out.below hb0)
          clear hb0
          obtain ⟨c0, c1, c2⟩ := HX1.out
          go_wp2_with fail
          refine (kexp_any P Q G k true Hk _).mono ?_
          rintro e w2 ⟨rfl, hb0⟩
          have hb2 := below_ext hb1 hb0
          have HV2 := Lib.hid (HV1.out.below hb0)
          have HX2 := Lib.hid (HX1.out.below hb0)
          clear c0 c1 c2 hb0
          obtain ⟨c0, c1, c2⟩ := HX2.out
          go_wp2_with fail
          refine (kexp_any P Q G c true Hc _).mono ?_
          rintro e w3 ⟨rfl, hb0⟩
          have hb3 := below_ext hb2 hb0
          have HV3 := Lib.hid (HV2.out.below hb0)
          have HX3 := Lib.hid (HX2.out.below hb0)
          clear c0 c1 c2 hb0
          obtain ⟨c0, c1, c2⟩ := HX3.out
          go_wp2_with fail
          refine (kexp_any P Q G x true Hx _).mono ?_
          rintro e w4 ⟨rfl, hb0⟩
          have hb4 := below_ext hb3 hb0
          have HV4 := Lib.hid (HV3.out.below hb0)
          have HX4 := Lib.hid (HX3.out.below hb0)
          clear c0 c1 c2 hb0
          obtain ⟨c0, c1, c2⟩ := HX4.out
          go_wp2_with fail
          refine (response_ok P Q G k c x v HW (by omega) (by omega) k0 k1 ch0 ch1 x0 x1 _).mono ?_
          rintro e w5 ⟨rfl, hb0⟩
          have hb5 := below_ext hb4 hb0
          clear hb0
          go_wp2
          go_ret2
          exact ⟨rfl, hb5⟩

end Go.Proofs.YtohjfnhgibedpaaDoor
