/- Contracts and lemmas: KnA, KnB, KnC, KnF, KnG, KcV. -/
import Derived.Deep.RegionHeld3
import Derived.Test.YtdlhodbiaoafiaaDoorKc3
namespace Go.Proofs.YtdlhodbiaoafiaaDoor
open Go.RowKit SpM
set_option linter.unusedVariables false
/-- exponents. -/
def expB (Q n : Int) : Bool := decide (0 ≤ n ∧ n < Q)
theorem expB_lo {Q n : Int} (h : expB Q n = true) : 0 ≤ n := by simp [expB] at h; exact h.1
theorem expB_hi {Q n : Int} (h : expB Q n = true) : n < Q := by simp [expB] at h; exact h.2
theorem kexp_any (P Q G n : Int) (b : Bool) (hb : Hid (expB Q n = b)) (w : World) :
    Calls Tryd.prog 89 #[gv P Q G, .int .i64 n] w fun e' w' => e' = .returned (.bool b) ∧ Below w.heap.size w w' := by
  by_cases h0 : 0 ≤ n
  · by_cases h1 : n < Q
    · obtain rfl : b = true := by rw [← hb.out]; simp [expB]; omega
      go_enter Tryd.func89, Tryd.ntmps89
      go_wp2
      go_ret
      exact ⟨rfl, below_box0 _ _⟩
    · obtain rfl : b = false := by rw [← hb.out]; simp [expB]; omega
      have d2 : decide (n < Q) = false := by simp; omega
      go_enter Tryd.func89, Tryd.ntmps89
      go_wp2
      go_ret
      exact ⟨rfl, below_box0 _ _⟩
  · obtain rfl : b = false := by rw [← hb.out]; simp [expB]; omega
    have d2 : decide (0 ≤ n) = false := by simp; omega
    go_enter Tryd.func89, Tryd.ntmps89
    go_wp2
    go_ret
    exact ⟨rfl, below_box0 _ _⟩
theorem rexp_any (P Q G n : Int) (b : Bool) (hb : Hid (expB Q n = b)) (w : World) :
    Calls Tryd.prog 37 #[gv P Q G, .int .i64 n] w fun e' w' => e' = .returned (.bool b) ∧ Below w.heap.size w w' := by
  by_cases h0 : 0 ≤ n
  · by_cases h1 : n < Q
    · obtain rfl : b = true := by rw [← hb.out]; simp [expB]; omega
      go_enter Tryd.func37, Tryd.ntmps37
      go_wp2
      go_ret
      exact ⟨rfl, below_box0 _ _⟩
    · obtain rfl : b = false := by rw [← hb.out]; simp [expB]; omega
      have d2 : decide (n < Q) = false := by simp; omega
      go_enter Tryd.func37, Tryd.ntmps37
      go_wp2
      go_ret
      exact ⟨rfl, below_box0 _ _⟩
  · obtain rfl : b = false := by rw [← hb.out]; simp [expB]; omega
    have d2 : decide (0 ≤ n) = false := by simp; omega
    go_enter Tryd.func37, Tryd.ntmps37
    go_wp2
    go_ret
    exact ⟨rfl, below_box0 _ _⟩
set_option maxHeartbeats 800000 in
theorem kbase_any (P Q G x : Int) (b : Bool) (hval : Hid (validG P Q G = true)) (hb : Hid (okB P Q x = b)) (w : World) (hv : Hid (Vars w)) :
    Calls Tryd.prog 88 #[gv P Q G, .int .i64 x] w fun e' w' => e' = .returned (.bool b) ∧ Below w.heap.size w w' := by
  obtain ⟨hp2, hp, hq3, hqp⟩ := validG_P hval.out
  have HV0 := Lib.hid (hv.out.below (below_box0 w (gObj P Q G)))
  have HX0 := Lib.hid (gbox_alloc w P Q G)
  cases h1 : x == 1 with
  | true =>
    have h2 : (x != 1) = false := by simpa using h1
    obtain rfl : b = false := by rw [← hb.out, okB, h2, Bool.false_and]
    go_enter Tryd.func88, Tryd.ntmps88
    go_wp2
    go_ret
    exact ⟨rfl, below_box0 _ _⟩
  | false =>
    have h2 : (x != 1) = true := by simp at h1 ⊢; exact h1
    have HC : Hid (conG P Q G x = b) := Lib.hid ((okB_con (G := G) hval.out h1).trans hb.out)
    go_enter Tryd.func88, Tryd.ntmps88
    go_wp2_with fail
    refine (contains_any P Q G x b HC (by omega) _ HV0).mono ?_
    rintro e w1 ⟨rfl, hb0⟩
    have hb1 := below_ext (below_box0 _ _) hb0
    clear hb0
    go_wp2
    go_ret
    exact ⟨rfl, hb1⟩
set_option maxHeartbeats 800000 in
theorem rbase_any (P Q G x : Int) (b : Bool) (hval : Hid (validG P Q G = true)) (hb : Hid (okB P Q x = b)) (w : World) :
    Calls Tryd.prog 36 #[gv P Q G, .int .i64 x] w fun e' w' => e' = .returned (.bool b) ∧ Below w.heap.size w w' := by
  obtain ⟨hp2, hp, hq3, hqp⟩ := validG_P hval.out
  cases h1 : x == 1 with
  | true =>
    have h2 : (x != 1) = false := by simpa using h1
    obtain rfl : b = false := by rw [← hb.out, okB, h2, Bool.false_and]
    go_enter Tryd.func36, Tryd.ntmps36
    go_wp2
    go_ret
    exact ⟨rfl, below_box0 _ _⟩
  | false =>
    have h2 : (x != 1) = true := by simp at h1 ⊢; exact h1
    have HC : Hid (memG P Q x = b) := Lib.hid (by rw [← hb.out, okB, h2, Bool.true_and])
    go_enter Tryd.func36, Tryd.ntmps36
    go_wp2_with fail
    refine (rmember_any P Q G x b HC hp (by omega) (by omega) _).mono ?_
    rintro e w1 ⟨rfl, hb0⟩
    have hb1 := below_ext (below_box0 _ _) hb0
    clear hb0
    go_wp2
    go_ret
    exact ⟨rfl, hb1⟩
/-- the error of a group, a base, and an element. -/
def givE (P Q G b y : Int) : Int := if validG P Q G = true then (if okB P Q b = true then (if memG P Q y = true then 0 else 2) else 2) else 1
/-- the error of a commitment, and the commitment. -/
def comE (P Q G b k : Int) : Int := if validG P Q G = true then (if okB P Q b = true then (if expB Q k = true then 0 else 2) else 2) else 1
def comV (P Q G b k : Int) : Int := if comE P Q G b k = 0 then pw b (k % Q) P else 0
theorem givE_one {P Q G b : Int} (h : validG P Q G = true) : givE P Q G b 1 = if okB P Q b = true then 0 else 2 := by
  obtain ⟨hp2, hp, hq3, hqp⟩ := validG_P h
  rw [givE, if_pos h, if_pos (mem_one hp2)]
theorem okB_mem {P Q b : Int} (h : okB P Q b = true) : memG P Q b = true := by simp [okB] at h; exact h.2
set_option maxHeartbeats 1600000 in
theorem commit_any (P Q G b k v r : Int) (hv0 : Hid (comV P Q G b k = v)) (hr0 : Hid (comE P Q G b k = r)) (hQ : Q < 9223372036854775808) (w : World) (hv : Hid (Vars w)) :
    Calls Tryd.prog 39 #[gv P Q G, .int .i64 b, .int .i64 k] w fun e' w' => e' = .returned (.tuple #[.int .i64 v, .int .i64 r]) ∧ Below w.heap.size w w' := by
  have HV0 := Lib.hid (hv.out.below (below_box0 w (gObj P Q G)))
  have HX0 := Lib.hid (gbox_alloc w P Q G)
  cases hval : validG P Q G with
  | false =>
    obtain rfl : r = 1 := by rw [← hr0.out, comE, hval]; rfl
    obtain rfl : v = 0 := by rw [← hv0.out, comV, hr0.out]; rfl
    have HV : Hid (validG P Q G = false) := hval
    have HG : Hid (givE P Q G b 1 = 1) := Lib.hid (by rw [givE, hval]; rfl)
    clear hval hr0 hv0
    go_enter Tryd.func39, Tryd.ntmps39
    go_wp2_with fail
    refine (valid_any P Q G false HV hQ _ HV0).mono ?_
    rintro e w1 ⟨rfl, hb0⟩
    have hb1 := below_ext (below_box0 _ _) hb0
    clear hb0
    go_wp2
    go_ret2
    exact ⟨rfl, hb1⟩
  | true =>
    obtain ⟨hp2, hp, hq3, hqp⟩ := validG_P hval
    have HV : Hid (validG P Q G = true) := hval
    cases hk : okB P Q b with
    | false =>
      obtain rfl : r = 2 := by rw [← hr0.out, comE, hval, hk]; rfl
      obtain rfl : v = 0 := by rw [← hv0.out, comV, hr0.out]; rfl
      have HK : Hid (okB P Q b = false) := hk
      have HG : Hid (givE P Q G b 1 = 2) := Lib.hid (by rw [givE_one hval, hk]; rfl)
      clear hval hr0 hv0 hk
      go_enter Tryd.func39, Tryd.ntmps39
      go_wp2_with fail
      refine (valid_any P Q G true HV hQ _ HV0).mono ?_
      rintro e w1 ⟨rfl, hb0⟩
      have hb1 := below_ext (below_box0 _ _) hb0
      have HV1 := Lib.hid (HV0.out.below hb0)
      have HX1 := Lib.hid (HX0.out.below hb0)
      clear hb0
      obtain ⟨c0, c1, c2⟩ := HX1.out
      go_wp2_with fail
      refine (kbase_any P Q G b false HV HK _ HV1).mono ?_
      rintro e w2 ⟨rfl, hb0⟩
      have hb2 := below_ext hb1 hb0
      clear hb0
      go_wp2
      go_ret2
      exact ⟨rfl, hb2⟩
    | true =>
      have HK : Hid (okB P Q b = true) := hk
      have HG : Hid (givE P Q G b 1 = 0) := Lib.hid (by rw [givE_one hval, hk]; rfl)
      have HCK : Hid (chkG P Q G [b] = 0) := Lib.hid (chkG_ok hval (by simp [okB_mem hk]))
      have hb1 := memG_lo (okB_mem hk)
      have hbP := memG_hi (okB_mem hk)
      cases hx : expB Q k with
      | false =>
        obtain rfl : r = 2 := by rw [← hr0.out, comE, hval, hk, hx]; rfl
        obtain rfl : v = 0 := by rw [← hv0.out, comV, hr0.out]; rfl
        have HE : Hid (expB Q k = false) := hx
        clear hval hr0 hv0 hk hx hb1
        go_enter Tryd.func39, Tryd.ntmps39
        go_wp2_with fail
        refine (valid_any P Q G true HV hQ _ HV0).mono ?_
        rintro e w1 ⟨rfl, hb0⟩
        have hb1 := below_ext (below_box0 _ _) hb0
        have HV1 := Lib.hid (HV0.out.below hb0)
        have HX1 := Lib.hid (HX0.out.below hb0)
        clear hb0
        obtain ⟨c0, c1, c2⟩ := HX1.out
        go_wp2_with fail
        refine (kbase_any P Q G b true HV HK _ HV1).mono ?_
        rintro e w2 ⟨rfl, hb0⟩
        have hb2 := below_ext hb1 hb0
        have HV2 := Lib.hid (HV1.out.below hb0)
        have HX2 := Lib.hid (HX1.out.below hb0)
        clear c0 c1 c2 hb0
        obtain ⟨c0, c1, c2⟩ := HX2.out
        go_wp2_with fail
        refine (kexp_any P Q G k false HE _).mono ?_
        rintro e w3 ⟨rfl, hb0⟩
        have hb3 := below_ext hb2 hb0
        clear hb0
        go_wp2
        go_ret2
        exact ⟨rfl, hb3⟩
      | true =>
        obtain rfl : r = 0 := by rw [← hr0.out, comE, hval, hk, hx]; rfl
        have HW : Hid (pw b (k % Q) P = v) := Lib.hid (by rw [← hv0.out, comV, hr0.out]; rfl)
        have HE : Hid (expB Q k = true) := hx
        have hk0 := expB_lo hx
        have hk1 := expB_hi hx
        have hb2 : 0 ≤ b := by omega
        clear hval hr0 hv0 hk hx hb1
        go_enter Tryd.func39, Tryd.ntmps39
        go_wp2_with fail
        refine (valid_any P Q G true HV hQ _ HV0).mono ?_
        rintro e w1 ⟨rfl, hb0⟩
        have hb1 := below_ext (below_box0 _ _) hb0
        have HV1 := Lib.hid (HV0.out.below hb0)
        have HX1 := Lib.hid (HX0.out.below hb0)
        clear hb0
        obtain ⟨c0, c1, c2⟩ := HX1.out
        go_wp2_with fail
        refine (kbase_any P Q G b true HV HK _ HV1).mono ?_
        rintro e w2 ⟨rfl, hb0⟩
        have hb2 := below_ext hb1 hb0
        have HV2 := Lib.hid (HV1.out.below hb0)
        have HX2 := Lib.hid (HX1.out.below hb0)
        clear c0 c1 c2 hb0
        obtain ⟨c0, c1, c2⟩ := HX2.out
        go_wp2_with fail
        refine (kexp_any P Q G k true HE _).mono ?_
        rintro e w3 ⟨rfl, hb0⟩
        have hb3 := below_ext hb2 hb0
        have HV3 := Lib.hid (HV2.out.below hb0)
        have HX3 := Lib.hid (HX2.out.below hb0)
        clear c0 c1 c2 hb0
        obtain ⟨c0, c1, c2⟩ := HX3.out
        go_wp2_with fail
        refine (gpow_ok P Q G b k v HCK HW (by omega) (by omega) _ HV3).mono ?_
        rintro e w4 ⟨rfl, hb0⟩
        have hb4 := below_ext hb3 hb0
        clear hb0
        go_wp2
        go_ret2
        exact ⟨rfl, hb4⟩
end Go.Proofs.YtdlhodbiaoafiaaDoor
namespace Go.Proofs.YtdlhodbiaoafiaaDoor
open Go.RowKit SpM
set_option linter.unusedVariables false
/-- the error of a response, and the response. -/
def resE (P Q G k c x : Int) : Int := if validG P Q G = true then (if expB Q k = true then (if expB Q c = true then (if expB Q x = true then 0 else 2) else 2) else 2) else 1
def resV (P Q G k c x : Int) : Int := if resE P Q G k c x = 0 then (c * x % Q + k) % Q else 0
set_option maxHeartbeats 1600000 in
theorem response_ok (P Q G k c x v : Int) (hv0 : Hid ((c * x % Q + k) % Q = v)) (hQ1 : 1 ≤ Q) (hQ : Q < 2305843009213693952) (k0 : 0 ≤ k) (k1 : k < Q) (c0 : 0 ≤ c) (c1 : c < Q) (x0 : 0 ≤ x) (x1 : x < Q) (w : World) :
    Calls Tryd.prog 90 #[gv P Q G, .int .i64 k, .int .i64 c, .int .i64 x] w fun e' w' => e' = .returned (.int .i64 v) ∧ Below w.heap.size w w' := by
  have m0 : 0 ≤ c * x % Q := Int.emod_nonneg _ (by omega)
  have m1 : c * x % Q < Q := Int.emod_lt_of_pos _ (by omega)
  obtain ⟨m, hm⟩ : ∃ m, c * x % Q = m := ⟨_, rfl⟩
  rw [hm] at m0 m1 hv0
  have HM := Lib.hid hm
  clear hm
  go_enter Tryd.func90, Tryd.ntmps90
  go_wp2_with fail
  refine (wmul_ok c x Q hQ c0 c1 x0 x1 _).mono ?_
  rintro e w1 ⟨rfl, n, rfl⟩
  rw [HM.out]
  go_wp2_with fail
  refine (add_ok m k Q hQ m0 m1 k0 k1 _).mono ?_
  rintro e w2 ⟨rfl, rfl⟩
  rw [hv0.out]
  go_wp2
  go_ret
  exact ⟨rfl, below_box _ _ _⟩
set_option maxHeartbeats 1600000 in
theorem respond_any (P Q G k c x v r : Int) (hv0 : Hid (resV P Q G k c x = v)) (hr0 : Hid (resE P Q G k c x = r)) (hQ : Q < 9223372036854775808) (w : World) (hv : Hid (Vars w)) :
    Calls Tryd.prog 40 #[gv P Q G, .int .i64 k, .int .i64 c, .int .i64 x] w fun e' w' => e' = .returned (.tuple #[.int .i64 v, .int .i64 r]) ∧ Below w.heap.size w w' := by
  have HV0 := Lib.hid (hv.out.below (below_box0 w (gObj P Q G)))
  have HX0 := Lib.hid (gbox_alloc w P Q G)
  cases hval : validG P Q G with
  | false =>
    obtain rfl : r = 1 := by rw [← hr0.out, resE, hval]; rfl
    obtain rfl : v = 0 := by rw [← hv0.out, resV, hr0.out]; rfl
    have HV : Hid (validG P Q G = false) := hval
    clear hval hr0 hv0
    go_enter Tryd.func40, Tryd.ntmps40
    go_wp2_with fail
    refine (valid_any P Q G false HV hQ _ HV0).mono ?_
    rintro e w1 ⟨rfl, hb0⟩
    have hb1 := below_ext (below_box0 _ _) hb0
    clear hb0
    go_wp2
    go_ret2
    exact ⟨rfl, hb1⟩
  | true =>
    obtain ⟨hp2, hp, hq3, hqp⟩ := validG_P hval
    have HV : Hid (validG P Q G = true) := hval
    cases hk : expB Q k with
    | false =>
      obtain rfl : r = 2 := by rw [← hr0.out, resE, hval, hk]; rfl
      obtain rfl : v = 0 := by rw [← hv0.out, resV, hr0.out]; rfl
      have Hk : Hid (expB Q k = false) := hk
      clear hval hr0 hv0 hk
      go_enter Tryd.func40, Tryd.ntmps40
      go_wp2_with fail
      refine (valid_any P Q G true HV hQ _ HV0).mono ?_
      rintro e w1 ⟨rfl, hb0⟩
      have hb1 := below_ext (below_box0 _ _) hb0
      have HV1 := Lib.hid (HV0.out.below hb0)
      have HX1 := Lib.hid (HX0.out.below hb0)
      clear hb0
      obtain ⟨c0, c1, c2⟩ := HX1.out
      go_wp2_with fail
      refine (kexp_any P Q G k false Hk _).mono ?_
      rintro e w2 ⟨rfl, hb0⟩
      have hb2 := below_ext hb1 hb0
      clear hb0
      go_wp2
      go_ret2
      exact ⟨rfl, hb2⟩
    | true =>
      have Hk : Hid (expB Q k = true) := hk
      have k0 := expB_lo hk
      have k1 := expB_hi hk
      cases hc : expB Q c with
      | false =>
        obtain rfl : r = 2 := by rw [← hr0.out, resE, hval, hk, hc]; rfl
        obtain rfl : v = 0 := by rw [← hv0.out, resV, hr0.out]; rfl
        have Hc : Hid (expB Q c = false) := hc
        clear hval hr0 hv0 hk hc
        go_enter Tryd.func40, Tryd.ntmps40
        go_wp2_with fail
        refine (valid_any P Q G true HV hQ _ HV0).mono ?_
        rintro e w1 ⟨rfl, hb0⟩
        have hb1 := below_ext (below_box0 _ _) hb0
        have HV1 := Lib.hid (HV0.out.below hb0)
        have HX1 := Lib.hid (HX0.out.below hb0)
        clear hb0
        obtain ⟨c0, c1, c2⟩ := HX1.out
        go_wp2_with fail
        refine (kexp_any P Q G k true Hk _).mono ?_
        rintro e w2 ⟨rfl, hb0⟩
        have hb2 := below_ext hb1 hb0
        have HV2 := Lib.hid (HV1.out.below hb0)
        have HX2 := Lib.hid (HX1.out.below hb0)
        clear c0 c1 c2 hb0
        obtain ⟨c0, c1, c2⟩ := HX2.out
        go_wp2_with fail
        refine (kexp_any P Q G c false Hc _).mono ?_
        rintro e w3 ⟨rfl, hb0⟩
        have hb3 := below_ext hb2 hb0
        clear hb0
        go_wp2
        go_ret2
        exact ⟨rfl, hb3⟩
      | true =>
        have Hc : Hid (expB Q c = true) := hc
        have c0 := expB_lo hc
        have c1 := expB_hi hc
        cases hx : expB Q x with
        | false =>
          obtain rfl : r = 2 := by rw [← hr0.out, resE, hval, hk, hc, hx]; rfl
          obtain rfl : v = 0 := by rw [← hv0.out, resV, hr0.out]; rfl
          have Hx : Hid (expB Q x = false) := hx
          clear hval hr0 hv0 hk hc hx c0 c1
          go_enter Tryd.func40, Tryd.ntmps40
          go_wp2_with fail
          refine (valid_any P Q G true HV hQ _ HV0).mono ?_
          rintro e w1 ⟨rfl, hb0⟩
          have hb1 := below_ext (below_box0 _ _) hb0
          have HV1 := Lib.hid (HV0.out.below hb0)
          have HX1 := Lib.hid (HX0.out.below hb0)
          clear hb0
          obtain ⟨c0, c1, c2⟩ := HX1.out
          go_wp2_with fail
          refine (kexp_any P Q G k true Hk _).mono ?_
          rintro e w2 ⟨rfl, hb0⟩
          have hb2 := below_ext hb1 hb0
          have HV2 := Lib.hid (HV1.out.below hb0)
          have HX2 := Lib.hid (HX1.out.below hb0)
          clear c0 c1 c2 hb0
          obtain ⟨c0, c1, c2⟩ := HX2.out
          go_wp2_with fail
          refine (kexp_any P Q G c true Hc _).mono ?_
          rintro e w3 ⟨rfl, hb0⟩
          have hb3 := below_ext hb2 hb0
          have HV3 := Lib.hid (HV2.out.below hb0)
          have HX3 := Lib.hid (HX2.out.below hb0)
          clear c0 c1 c2 hb0
          obtain ⟨c0, c1, c2⟩ := HX3.out
          go_wp2_with fail
          refine (kexp_any P Q G x false Hx _).mono ?_
          rintro e w4 ⟨rfl, hb0⟩
          have hb4 := below_ext hb3 hb0
          clear hb0
          go_wp2
          go_ret2
          exact ⟨rfl, hb4⟩
        | true =>
          have Hx : Hid (expB Q x = true) := hx
          have x0 := expB_lo hx
          have x1 := expB_hi hx
          obtain rfl : r = 0 := by rw [← hr0.out, resE, hval, hk, hc, hx]; rfl
          have HW0 : (c * x % Q + k) % Q = v := by rw [← hv0.out, resV, hr0.out]; rfl
          have HW := Lib.hid HW0
          obtain ⟨ch0, ch1⟩ : 0 ≤ c ∧ c < Q := ⟨c0, c1⟩
          clear hval hr0 hv0 hk hc hx HW0 c0 c1
          go_enter Tryd.func40, Tryd.ntmps40
          go_wp2_with fail
          refine (valid_any P Q G true HV hQ _ HV0).mono ?_
          rintro e w1 ⟨rfl, hb0⟩
          have hb1 := below_ext (below_box0 _ _) hb0
          have HV1 := Lib.hid (HV0.out.below hb0)
          have HX1 := Lib.hid (HX0.out.below hb0)
          clear hb0
          obtain ⟨c0, c1, c2⟩ := HX1.out
          go_wp2_with fail
          refine (kexp_any P Q G k true Hk _).mono ?_
          rintro e w2 ⟨rfl, hb0⟩
          have hb2 := below_ext hb1 hb0
          have HV2 := Lib.hid (HV1.out.below hb0)
          have HX2 := Lib.hid (HX1.out.below hb0)
          clear c0 c1 c2 hb0
          obtain ⟨c0, c1, c2⟩ := HX2.out
          go_wp2_with fail
          refine (kexp_any P Q G c true Hc _).mono ?_
          rintro e w3 ⟨rfl, hb0⟩
          have hb3 := below_ext hb2 hb0
          have HV3 := Lib.hid (HV2.out.below hb0)
          have HX3 := Lib.hid (HX2.out.below hb0)
          clear c0 c1 c2 hb0
          obtain ⟨c0, c1, c2⟩ := HX3.out
          go_wp2_with fail
          refine (kexp_any P Q G x true Hx _).mono ?_
          rintro e w4 ⟨rfl, hb0⟩
          have hb4 := below_ext hb3 hb0
          have HV4 := Lib.hid (HV3.out.below hb0)
          have HX4 := Lib.hid (HX3.out.below hb0)
          clear c0 c1 c2 hb0
          obtain ⟨c0, c1, c2⟩ := HX4.out
          go_wp2_with fail
          refine (response_ok P Q G k c x v HW (by omega) (by omega) k0 k1 ch0 ch1 x0 x1 _).mono ?_
          rintro e w5 ⟨rfl, hb0⟩
          have hb5 := below_ext hb4 hb0
          clear hb0
          go_wp2
          go_ret2
          exact ⟨rfl, hb5⟩
end Go.Proofs.YtdlhodbiaoafiaaDoor
namespace Go.Proofs.YtdlhodbiaoafiaaDoor
open Go.RowKit SpM
set_option linter.unusedVariables false
abbrev pObj : Obj := .cells #[.slice none 0 0, .int .i64 0, .slice none 0 0] 32
/-- a block for a proof that is handed back. -/
def RBlk (w : World) (a : Nat) : Prop := w.heap[a]? = some pObj
theorem RBlk.lt {w : World} {a : Nat} (h : RBlk w a) : a < w.heap.size := by
  unfold RBlk at h
  exact (Array.getElem?_eq_some_iff.1 h).1
theorem RBlk.below {w w' : World} {a : Nat} (h : RBlk w a) (hb : Below w.heap.size w w') : RBlk w' a := (hb.block a h.lt).trans h
end Go.Proofs.YtdlhodbiaoafiaaDoor
namespace Go.Proofs.YtdlhodbiaoafiaaDoor
open Go.RowKit SpM
set_option linter.unusedVariables false
set_option linter.unusedSimpArgs false
/-- a proof as a value, and in a box. -/
abbrev prv (pa : Option Addr) (na ca : Nat) (C : Int) (pz : Option Addr) (nz cz : Nat) : Value := .agg #[.slice pa na ca, .int .i64 C, .slice pz nz cz]
abbrev prObj (pa : Option Addr) (na ca : Nat) (C : Int) (pz : Option Addr) (nz cz : Nat) : Obj := .cells #[.slice pa na ca, .int .i64 C, .slice pz nz cz] 32
def PBox (w : World) (a : Nat) (x y z : Value) : Prop := w.cell? ⟨a, 0, none⟩ = some x ∧ w.cell? ⟨a, 1, none⟩ = some y ∧ w.cell? ⟨a, 2, none⟩ = some z
theorem PBox.below {w w' : World} {a : Nat} {x y z : Value} (h : PBox w a x y z) (hb : Below w.heap.size w w') : PBox w' a x y z :=
  ⟨(hb.cell (World.block_lt_of_cell? _ _ h.1)).trans h.1, (hb.cell (World.block_lt_of_cell? _ _ h.2.1)).trans h.2.1, (hb.cell (World.block_lt_of_cell? _ _ h.2.2)).trans h.2.2⟩
theorem pbox_alloc (w : World) (o : Obj) (T : TypeId) (x y z : Value) : PBox ((w.alloc o).alloc (.cells #[x, y, z] T)) (w.heap.size + 1) x y z := by
  have e : (w.alloc o).heap.size = w.heap.size + 1 := by simp
  rw [← e]
  exact ⟨World.cell?_alloc_at _ _ _ _ rfl, World.cell?_alloc_at _ _ _ _ rfl, World.cell?_alloc_at _ _ _ _ rfl⟩
theorem cell_belowK {w w' : World} {p : Addr} {v : Value} (h : w.cell? p = some v) (hb : Below w.heap.size w w') : w'.cell? p = some v := (hb.cell (World.block_lt_of_cell? _ _ h)).trans h
/-- a slice of one number, if its length is 1. -/
def One (w : World) (p : Option Addr) (n : Nat) (x : Int) : Prop := n = 1 → ∃ b o, p = some ⟨b, o, none⟩ ∧ w.cell? ⟨b, o, none⟩ = some (.int .i64 x)
theorem One.below {w w' : World} {p : Option Addr} {n : Nat} {x : Int} (h : One w p n x) (hb : Below w.heap.size w w') : One w' p n x := fun e => by
  obtain ⟨b, o, h1, h2⟩ := h e
  exact ⟨b, o, h1, cell_belowK h2 hb⟩
/-- well-formed proofs of valid groups. -/
def formB (P Q : Int) (na : Nat) (a0 C : Int) (nz : Nat) (z0 : Int) : Bool := na == 1 && (nz == 1 && (memG P Q a0 && (expB Q C && expB Q z0)))
set_option maxHeartbeats 1600000 in
theorem formed_0 (P Q G : Int) (pa : Option Addr) (na ca : Nat) (a0 C : Int) (pz : Option Addr) (nz cz : Nat) (z0 : Int) (hna : ((na : Int) == 1) = false) (hval : Hid (validG P Q G = true)) (hQ : Q < 9223372036854775808) (w : World) (hv : Hid (Vars w)) :
    Calls Tryd.prog 92 #[gv P Q G, prv pa na ca C pz nz cz] w fun e' w' => e' = .returned (.bool false) ∧ Below w.heap.size w w' := by
  have HP : Hid (PBox ((w.alloc (gObj P Q G)).alloc (prObj pa na ca C pz nz cz)) (w.heap.size + 1) (.slice pa na ca) (.int .i64 C) (.slice pz nz cz)) := Lib.hid (pbox_alloc w _ _ _ _ _)
  go_enter Tryd.func92, Tryd.ntmps92
  go_wp2_with fail
  go_quiet (fail)
  go_wp2
  go_ret
  exact ⟨rfl, below_drawN (below_two (Below.refl _ _)) _⟩
set_option maxHeartbeats 1600000 in
theorem formed_1 (P Q G : Int) (ba oa ca : Nat) (a0 C : Int) (pz : Option Addr) (nz cz : Nat) (z0 : Int) (hA : Hid (conG P Q G a0 = false)) (hval : Hid (validG P Q G = true)) (hQ : Q < 9223372036854775808) (w : World) (hv : Hid (Vars w)) (ha : Hid (w.cell? ⟨ba, oa, none⟩ = some (.int .i64 a0))) :
    Calls Tryd.prog 92 #[gv P Q G, prv (some ⟨ba, oa, none⟩) 1 ca C pz nz cz] w fun e' w' => e' = .returned (.bool false) ∧ Below w.heap.size w w' := by
  obtain ⟨hp2, hp, hq3, hqp⟩ := validG_P hval.out
  obtain ⟨W, hW⟩ : ∃ W, (w.alloc (gObj P Q G)).alloc (prObj (some ⟨ba, oa, none⟩) 1 ca C pz nz cz) = W := ⟨_, rfl⟩
  have HB : Hid (Below w.heap.size w W) := Lib.hid (by rw [← hW]; exact below_two (Below.refl _ _))
  have HX : Hid (GBox W w.heap.size P Q G) := Lib.hid (by rw [← hW]; exact (gbox_alloc w P Q G).below (below_box0 _ _))
  have HP : Hid (PBox W (w.heap.size + 1) (.slice (some ⟨ba, oa, none⟩) 1 ca) (.int .i64 C) (.slice pz nz cz)) := Lib.hid (by rw [← hW]; exact pbox_alloc w _ _ _ _ _)
  have HA : Hid (W.cell? ⟨ba, oa, none⟩ = some (.int .i64 a0)) := Lib.hid (cell_belowK ha.out HB.out)
  have HS : Hid (∀ w1 w2 : World, Hid (Below W.heap.size W w1) → Below w1.heap.size w1 w2 → (w2.cell? ⟨w.heap.size, 0, none⟩ = some (.int .i64 P) ∧ w2.cell? ⟨w.heap.size, 1, none⟩ = some (.int .i64 Q) ∧ w2.cell? ⟨w.heap.size, 2, none⟩ = some (.int .i64 G) ∧ w2.cell? ⟨w.heap.size + 1, 0, none⟩ = some (.slice (some ⟨ba, oa, none⟩) 1 ca) ∧ w2.cell? ⟨w.heap.size + 1, 1, none⟩ = some (.int .i64 C) ∧ w2.cell? ⟨w.heap.size + 1, 2, none⟩ = some (.slice pz nz cz) ∧ w2.cell? ⟨ba, oa, none⟩ = some (.int .i64 a0) ∧ Hid (Below W.heap.size W w2))) :=
    Lib.hid (fun w1 w2 h1 h2 => have h3 := below_ext h1.out h2; ⟨(HX.out.below h3).1, (HX.out.below h3).2.1, (HX.out.below h3).2.2, (HP.out.below h3).1, (HP.out.below h3).2.1, (HP.out.below h3).2.2, cell_belowK HA.out h3, Lib.hid h3⟩)
  have HB0 : Hid (Below W.heap.size W W) := Lib.hid (Below.refl _ _)
  have HV : Hid (Vars W) := Lib.hid (hv.out.below HB.out)
  have HVS : Hid (∀ w1 : World, Hid (Below W.heap.size W w1) → Hid (Vars w1)) := Lib.hid (fun w1 h1 => Lib.hid (HV.out.below h1.out))
  have HW := Lib.hid hW
  clear hW
  go_enter Tryd.func92, Tryd.ntmps92
  go_wp2_with fail
  rw [HW.out]
  refine wp_region_held_drew (S := fun w' => w'.cell? ⟨w.heap.size, 0, none⟩ = some (.int .i64 P) ∧ w'.cell? ⟨w.heap.size, 1, none⟩ = some (.int .i64 Q) ∧ w'.cell? ⟨w.heap.size, 2, none⟩ = some (.int .i64 G) ∧ w'.cell? ⟨w.heap.size + 1, 0, none⟩ = some (.slice (some ⟨ba, oa, none⟩) 1 ca) ∧ w'.cell? ⟨w.heap.size + 1, 1, none⟩ = some (.int .i64 C) ∧ w'.cell? ⟨w.heap.size + 1, 2, none⟩ = some (.slice pz nz cz) ∧ w'.cell? ⟨ba, oa, none⟩ = some (.int .i64 a0) ∧ Hid (Below W.heap.size W w')) (by kernel_rfl) (HS.out _ _ HB0 ((Below.refl W.heap.size W).drew)) (fun hHeld => ?_)
  refine wpAnyH_take (i := 0) (oi := _) (v := ?_) rfl (by kernel_rfl) (by kernel_rfl) (by kernel_rfl) (fun _ _ _ h => h) (Or.inl ⟨by rfl, ?_⟩) (by assumption) ?_
  rotate_left; (intro wS hSw; (try dsimp only at hSw); go_simp <;> with_reducible rfl)
  try simp only [List.getElem_toArray, List.getElem_cons_zero, List.getElem_cons_succ, Act.put, List.setIfInBounds_toArray, List.set_cons_zero, List.set_cons_succ]
  refine wpAnyH_take (i := 1) (oi := _) (v := ?_) rfl (by kernel_rfl) (by kernel_rfl) (by kernel_rfl) (fun _ _ _ h => h) (Or.inl ⟨by rfl, ?_⟩) (by assumption) ?_
  rotate_left; (intro wS hSw; (try dsimp only at hSw); go_simp <;> with_reducible rfl)
  try simp only [List.getElem_toArray, List.getElem_cons_zero, List.getElem_cons_succ, Act.put, List.setIfInBounds_toArray, List.set_cons_zero, List.set_cons_succ]
  refine wpAnyH_take (i := 2) (oi := _) (v := ?_) rfl (by kernel_rfl) (by kernel_rfl) (by kernel_rfl) (fun _ _ _ h => h) (Or.inl ⟨by rfl, ?_⟩) (by assumption) ?_
  rotate_left; (intro wS hSw; (try dsimp only at hSw); go_simp <;> with_reducible rfl)
  try simp only [List.getElem_toArray, List.getElem_cons_zero, List.getElem_cons_succ, Act.put, List.setIfInBounds_toArray, List.set_cons_zero, List.set_cons_succ]
  refine wpAnyH_take (i := 3) (oi := _) (v := ?_) rfl (by kernel_rfl) (by kernel_rfl) (by kernel_rfl) (fun _ _ _ h => h) (Or.inl ⟨by rfl, ?_⟩) (by assumption) ?_
  rotate_left; (intro wS hSw; (try dsimp only at hSw); go_simp <;> with_reducible rfl)
  try simp only [List.getElem_toArray, List.getElem_cons_zero, List.getElem_cons_succ, Act.put, List.setIfInBounds_toArray, List.set_cons_zero, List.set_cons_succ]
  refine wpAnyH_take (i := 4) (oi := _) (v := ?_) rfl (by kernel_rfl) (by kernel_rfl) (by kernel_rfl) (fun _ _ _ h => h) (Or.inl ⟨by rfl, ?_⟩) (by assumption) ?_
  rotate_left; (intro wS hSw; (try dsimp only at hSw); go_simp <;> with_reducible rfl)
  try simp only [List.getElem_toArray, List.getElem_cons_zero, List.getElem_cons_succ, Act.put, List.setIfInBounds_toArray, List.set_cons_zero, List.set_cons_succ]
  refine wpAnyH_take (i := 5) (oi := _) (v := ?_) rfl (by kernel_rfl) (by kernel_rfl) (by kernel_rfl) (fun _ _ _ h => h) (Or.inl ⟨by rfl, ?_⟩) (by assumption) ?_
  rotate_left; (intro wS hSw; (try dsimp only at hSw); go_simp <;> with_reducible rfl)
  try simp only [List.getElem_toArray, List.getElem_cons_zero, List.getElem_cons_succ, Act.put, List.setIfInBounds_toArray, List.set_cons_zero, List.set_cons_succ]
  refine wpAnyH_take (i := 6) (oi := _) (v := ?_) rfl (by kernel_rfl) (by kernel_rfl) (by kernel_rfl) (fun _ _ _ h => h) (Or.inl ⟨by rfl, ?_⟩) (by assumption) ?_
  rotate_left; (intro wS hSw; (try dsimp only at hSw); go_simp <;> with_reducible rfl)
  try simp only [List.getElem_toArray, List.getElem_cons_zero, List.getElem_cons_succ, Act.put, List.setIfInBounds_toArray, List.set_cons_zero, List.set_cons_succ]
  refine wpAnyH_take (i := 7) (oi := _) (v := ?_) rfl (by kernel_rfl) (by kernel_rfl) (by kernel_rfl) (fun _ _ _ h => h) (Or.inl ⟨by rfl, ?_⟩) (by assumption) ?_
  rotate_left; (intro wS hSw; (try dsimp only at hSw); go_simp <;> with_reducible rfl)
  try simp only [List.getElem_toArray, List.getElem_cons_zero, List.getElem_cons_succ, Act.put, List.setIfInBounds_toArray, List.set_cons_zero, List.set_cons_succ]
  refine wpAnyH_take (i := 8) (oi := _) (v := ?_) rfl (by kernel_rfl) (by kernel_rfl) (by kernel_rfl) (fun _ _ _ h => h) (Or.inl ⟨by rfl, ?_⟩) (by assumption) ?_
  rotate_left; (intro wS hSw; (try dsimp only at hSw); go_simp <;> with_reducible rfl)
  try simp only [List.getElem_toArray, List.getElem_cons_zero, List.getElem_cons_succ, Act.put, List.setIfInBounds_toArray, List.set_cons_zero, List.set_cons_succ]
  refine wpAnyH_take (i := 9) (oi := _) (v := ?_) rfl (by kernel_rfl) (by kernel_rfl) (by kernel_rfl) (fun _ _ _ h => h) (Or.inl ⟨by rfl, ?_⟩) (by assumption) ?_
  rotate_left; (intro wS hSw; (try dsimp only at hSw); go_simp <;> with_reducible rfl)
  try simp only [List.getElem_toArray, List.getElem_cons_zero, List.getElem_cons_succ, Act.put, List.setIfInBounds_toArray, List.set_cons_zero, List.set_cons_succ]
  refine wpAnyH_ready (rs := [10]) (by kernel_rfl) (by simp) ?_
  refine AllReadyH.cons rfl (fun K hK => ?_) AllReadyH.nil
  go_simp
  (go_at_call 91; (refine (contains_any P Q G a0 false hA hQ _ ?_).mono ?_); rotate_left; rintro e wA ⟨rfl, hbA⟩; rotate_left; (go_split_ands; exact HVS.out _ (by assumption)))
  refine hK.out _ _ ?_ (fun hHeld => ?_)
  · (go_split_ands; exact HS.out _ _ (by assumption) hbA)
  clear hK K
  try simp only [List.getElem_toArray, List.getElem_cons_zero, List.getElem_cons_succ, Act.put, List.setIfInBounds_toArray, List.set_cons_zero, List.set_cons_succ]
  refine wpAnyH_take (i := 11) (oi := _) (v := ?_) rfl (by kernel_rfl) (by kernel_rfl) (by kernel_rfl) (fun _ _ _ h => h) (Or.inl ⟨by rfl, ?_⟩) (by assumption) ?_
  rotate_left; (intro wS hSw; (try dsimp only at hSw); go_simp <;> with_reducible rfl)
  try simp only [List.getElem_toArray, List.getElem_cons_zero, List.getElem_cons_succ, Act.put, List.setIfInBounds_toArray, List.set_cons_zero, List.set_cons_succ]
  refine wpAnyH_take (i := 12) (oi := _) (v := ?_) rfl (by kernel_rfl) (by kernel_rfl) (by kernel_rfl) (fun _ _ _ h => h) (Or.inl ⟨by rfl, ?_⟩) (by assumption) ?_
  rotate_left; (intro wS hSw; (try dsimp only at hSw); go_simp <;> with_reducible rfl)
  try simp only [List.getElem_toArray, List.getElem_cons_zero, List.getElem_cons_succ, Act.put, List.setIfInBounds_toArray, List.set_cons_zero, List.set_cons_succ]
  refine wpAnyH_take (i := 13) (oi := _) (v := undef) rfl (by kernel_rfl) (by kernel_rfl) (by kernel_rfl) (fun _ _ _ h => h) (Or.inr ⟨by rfl, rfl⟩) (by assumption) ?_
  try simp only [List.getElem_toArray, List.getElem_cons_zero, List.getElem_cons_succ, Act.put, List.setIfInBounds_toArray, List.set_cons_zero, List.set_cons_succ]
  refine wpAnyH_take (i := 14) (oi := _) (v := undef) rfl (by kernel_rfl) (by kernel_rfl) (by kernel_rfl) (fun _ _ _ h => h) (Or.inr ⟨by rfl, rfl⟩) (by assumption) ?_
  try simp only [List.getElem_toArray, List.getElem_cons_zero, List.getElem_cons_succ, Act.put, List.setIfInBounds_toArray, List.set_cons_zero, List.set_cons_succ]
  refine wpAnyH_take (i := 15) (oi := _) (v := undef) rfl (by kernel_rfl) (by kernel_rfl) (by kernel_rfl) (fun _ _ _ h => h) (Or.inr ⟨by rfl, rfl⟩) (by assumption) ?_
  try simp only [List.getElem_toArray, List.getElem_cons_zero, List.getElem_cons_succ, Act.put, List.setIfInBounds_toArray, List.set_cons_zero, List.set_cons_succ]
  refine wpAnyH_take (i := 16) (oi := _) (v := undef) rfl (by kernel_rfl) (by kernel_rfl) (by kernel_rfl) (fun _ _ _ h => h) (Or.inr ⟨by rfl, rfl⟩) (by assumption) ?_
  try simp only [List.getElem_toArray, List.getElem_cons_zero, List.getElem_cons_succ, Act.put, List.setIfInBounds_toArray, List.set_cons_zero, List.set_cons_succ]
  refine wpAnyH_take (i := 17) (oi := _) (v := ?_) rfl (by kernel_rfl) (by kernel_rfl) (by kernel_rfl) (fun _ _ _ h => h) (Or.inl ⟨by rfl, ?_⟩) (by assumption) ?_
  rotate_left; (intro wS hSw; (try dsimp only at hSw); go_simp <;> with_reducible rfl)
  try simp only [List.getElem_toArray, List.getElem_cons_zero, List.getElem_cons_succ, Act.put, List.setIfInBounds_toArray, List.set_cons_zero, List.set_cons_succ]
  refine wpAnyH_take (i := 18) (oi := _) (v := ?_) rfl (by kernel_rfl) (by kernel_rfl) (by kernel_rfl) (fun _ _ _ h => h) (Or.inl ⟨by rfl, ?_⟩) (by assumption) ?_
  rotate_left; (intro wS hSw; (try dsimp only at hSw); go_simp <;> with_reducible rfl)
  try simp only [List.getElem_toArray, List.getElem_cons_zero, List.getElem_cons_succ, Act.put, List.setIfInBounds_toArray, List.set_cons_zero, List.set_cons_succ]
  refine wpAnyH_take (i := 19) (oi := _) (v := undef) rfl (by kernel_rfl) (by kernel_rfl) (by kernel_rfl) (fun _ _ _ h => h) (Or.inr ⟨by rfl, rfl⟩) (by assumption) ?_
  try simp only [List.getElem_toArray, List.getElem_cons_zero, List.getElem_cons_succ, Act.put, List.setIfInBounds_toArray, List.set_cons_zero, List.set_cons_succ]
  refine wpAnyH_take (i := 20) (oi := _) (v := undef) rfl (by kernel_rfl) (by kernel_rfl) (by kernel_rfl) (fun _ _ _ h => h) (Or.inr ⟨by rfl, rfl⟩) (by assumption) ?_
  try simp only [List.getElem_toArray, List.getElem_cons_zero, List.getElem_cons_succ, Act.put, List.setIfInBounds_toArray, List.set_cons_zero, List.set_cons_succ]
  refine wpAnyH_take (i := 21) (oi := _) (v := undef) rfl (by kernel_rfl) (by kernel_rfl) (by kernel_rfl) (fun _ _ _ h => h) (Or.inr ⟨by rfl, rfl⟩) (by assumption) ?_
  try simp only [List.getElem_toArray, List.getElem_cons_zero, List.getElem_cons_succ, Act.put, List.setIfInBounds_toArray, List.set_cons_zero, List.set_cons_succ]
  refine wpAnyH_take (i := 22) (oi := _) (v := undef) rfl (by kernel_rfl) (by kernel_rfl) (by kernel_rfl) (fun _ _ _ h => h) (Or.inr ⟨by rfl, rfl⟩) (by assumption) ?_
  try simp only [List.getElem_toArray, List.getElem_cons_zero, List.getElem_cons_succ, Act.put, List.setIfInBounds_toArray, List.set_cons_zero, List.set_cons_succ]
  refine wpAnyH_take (i := 23) (oi := _) (v := ?_) rfl (by kernel_rfl) (by kernel_rfl) (by kernel_rfl) (fun _ _ _ h => h) (Or.inl ⟨by rfl, ?_⟩) (by assumption) ?_
  rotate_left; (intro wS hSw; (try dsimp only at hSw); go_simp <;> with_reducible rfl)
  try simp only [List.getElem_toArray, List.getElem_cons_zero, List.getElem_cons_succ, Act.put, List.setIfInBounds_toArray, List.set_cons_zero, List.set_cons_succ]
  refine wpAnyH_take (i := 24) (oi := _) (v := ?_) rfl (by kernel_rfl) (by kernel_rfl) (by kernel_rfl) (fun _ _ _ h => h) (Or.inl ⟨by rfl, ?_⟩) (by assumption) ?_
  rotate_left; (intro wS hSw; (try dsimp only at hSw); go_simp <;> with_reducible rfl)
  try simp only [List.getElem_toArray, List.getElem_cons_zero, List.getElem_cons_succ, Act.put, List.setIfInBounds_toArray, List.set_cons_zero, List.set_cons_succ]
  refine wpAnyH_take (i := 25) (oi := _) (v := undef) rfl (by kernel_rfl) (by kernel_rfl) (by kernel_rfl) (fun _ _ _ h => h) (Or.inr ⟨by rfl, rfl⟩) (by assumption) ?_
  try simp only [List.getElem_toArray, List.getElem_cons_zero, List.getElem_cons_succ, Act.put, List.setIfInBounds_toArray, List.set_cons_zero, List.set_cons_succ]
  refine wpAnyH_take (i := 26) (oi := _) (v := undef) rfl (by kernel_rfl) (by kernel_rfl) (by kernel_rfl) (fun _ _ _ h => h) (Or.inr ⟨by rfl, rfl⟩) (by assumption) ?_
  try simp only [List.getElem_toArray, List.getElem_cons_zero, List.getElem_cons_succ, Act.put, List.setIfInBounds_toArray, List.set_cons_zero, List.set_cons_succ]
  refine wpAnyH_take (i := 27) (oi := _) (v := undef) rfl (by kernel_rfl) (by kernel_rfl) (by kernel_rfl) (fun _ _ _ h => h) (Or.inr ⟨by rfl, rfl⟩) (by assumption) ?_
  try simp only [List.getElem_toArray, List.getElem_cons_zero, List.getElem_cons_succ, Act.put, List.setIfInBounds_toArray, List.set_cons_zero, List.set_cons_succ]
  refine wpAnyH_take (i := 28) (oi := _) (v := undef) rfl (by kernel_rfl) (by kernel_rfl) (by kernel_rfl) (fun _ _ _ h => h) (Or.inr ⟨by rfl, rfl⟩) (by assumption) ?_
  try simp only [List.getElem_toArray, List.getElem_cons_zero, List.getElem_cons_succ, Act.put, List.setIfInBounds_toArray, List.set_cons_zero, List.set_cons_succ]
  refine wpAnyH_take (i := 29) (oi := _) (v := undef) rfl (by kernel_rfl) (by kernel_rfl) (by kernel_rfl) (fun _ _ _ h => h) (Or.inr ⟨by rfl, rfl⟩) (by assumption) ?_
  try simp only [List.getElem_toArray, List.getElem_cons_zero, List.getElem_cons_succ, Act.put, List.setIfInBounds_toArray, List.set_cons_zero, List.set_cons_succ]
  refine wpAnyH_take (i := 30) (oi := _) (v := undef) rfl (by kernel_rfl) (by kernel_rfl) (by kernel_rfl) (fun _ _ _ h => h) (Or.inr ⟨by rfl, rfl⟩) (by assumption) ?_
  try simp only [List.getElem_toArray, List.getElem_cons_zero, List.getElem_cons_succ, Act.put, List.setIfInBounds_toArray, List.set_cons_zero, List.set_cons_succ]
  refine wpAnyH_take (i := 31) (oi := _) (v := ?_) rfl (by kernel_rfl) (by kernel_rfl) (by kernel_rfl) (fun _ _ _ h => h) (Or.inl ⟨by rfl, ?_⟩) (by assumption) ?_
  rotate_left; (intro wS hSw; (try dsimp only at hSw); go_simp <;> with_reducible rfl)
  try simp only [List.getElem_toArray, List.getElem_cons_zero, List.getElem_cons_succ, Act.put, List.setIfInBounds_toArray, List.set_cons_zero, List.set_cons_succ]
  refine wpAnyH_take (i := 32) (oi := _) (v := ?_) rfl (by kernel_rfl) (by kernel_rfl) (by kernel_rfl) (fun _ _ _ h => h) (Or.inl ⟨by rfl, ?_⟩) (by assumption) ?_
  rotate_left; (intro wS hSw; (try dsimp only at hSw); go_simp <;> with_reducible rfl)
  try simp only [List.getElem_toArray, List.getElem_cons_zero, List.getElem_cons_succ, Act.put, List.setIfInBounds_toArray, List.set_cons_zero, List.set_cons_succ]
  refine wpAnyH_done (by kernel_rfl) ?_ _
  obtain ⟨e0, e1, e2, e3, e4, e5, e6, HBA⟩ := hHeld
  have hbf := below_ext HB.out HBA.out
  go_wp2
  go_ret
  exact ⟨rfl, hbf⟩
set_option maxHeartbeats 1600000 in
theorem formed_2 (P Q G : Int) (ba oa ca : Nat) (a0 C : Int) (pz : Option Addr) (nz cz : Nat) (z0 : Int) (hA : Hid (conG P Q G a0 = true)) (hC : Hid (expB Q C = false)) (hval : Hid (validG P Q G = true)) (hQ : Q < 9223372036854775808) (w : World) (hv : Hid (Vars w)) (ha : Hid (w.cell? ⟨ba, oa, none⟩ = some (.int .i64 a0))) :
    Calls Tryd.prog 92 #[gv P Q G, prv (some ⟨ba, oa, none⟩) 1 ca C pz nz cz] w fun e' w' => e' = .returned (.bool false) ∧ Below w.heap.size w w' := by
  obtain ⟨hp2, hp, hq3, hqp⟩ := validG_P hval.out
  obtain ⟨W, hW⟩ : ∃ W, (w.alloc (gObj P Q G)).alloc (prObj (some ⟨ba, oa, none⟩) 1 ca C pz nz cz) = W := ⟨_, rfl⟩
  have HB : Hid (Below w.heap.size w W) := Lib.hid (by rw [← hW]; exact below_two (Below.refl _ _))
  have HX : Hid (GBox W w.heap.size P Q G) := Lib.hid (by rw [← hW]; exact (gbox_alloc w P Q G).below (below_box0 _ _))
  have HP : Hid (PBox W (w.heap.size + 1) (.slice (some ⟨ba, oa, none⟩) 1 ca) (.int .i64 C) (.slice pz nz cz)) := Lib.hid (by rw [← hW]; exact pbox_alloc w _ _ _ _ _)
  have HA : Hid (W.cell? ⟨ba, oa, none⟩ = some (.int .i64 a0)) := Lib.hid (cell_belowK ha.out HB.out)
  have HS : Hid (∀ w1 w2 : World, Hid (Below W.heap.size W w1) → Below w1.heap.size w1 w2 → (w2.cell? ⟨w.heap.size, 0, none⟩ = some (.int .i64 P) ∧ w2.cell? ⟨w.heap.size, 1, none⟩ = some (.int .i64 Q) ∧ w2.cell? ⟨w.heap.size, 2, none⟩ = some (.int .i64 G) ∧ w2.cell? ⟨w.heap.size + 1, 0, none⟩ = some (.slice (some ⟨ba, oa, none⟩) 1 ca) ∧ w2.cell? ⟨w.heap.size + 1, 1, none⟩ = some (.int .i64 C) ∧ w2.cell? ⟨w.heap.size + 1, 2, none⟩ = some (.slice pz nz cz) ∧ w2.cell? ⟨ba, oa, none⟩ = some (.int .i64 a0) ∧ Hid (Below W.heap.size W w2))) :=
    Lib.hid (fun w1 w2 h1 h2 => have h3 := below_ext h1.out h2; ⟨(HX.out.below h3).1, (HX.out.below h3).2.1, (HX.out.below h3).2.2, (HP.out.below h3).1, (HP.out.below h3).2.1, (HP.out.below h3).2.2, cell_belowK HA.out h3, Lib.hid h3⟩)
  have HB0 : Hid (Below W.heap.size W W) := Lib.hid (Below.refl _ _)
  have HV : Hid (Vars W) := Lib.hid (hv.out.below HB.out)
  have HVS : Hid (∀ w1 : World, Hid (Below W.heap.size W w1) → Hid (Vars w1)) := Lib.hid (fun w1 h1 => Lib.hid (HV.out.below h1.out))
  have HW := Lib.hid hW
  clear hW
  go_enter Tryd.func92, Tryd.ntmps92
  go_wp2_with fail
  rw [HW.out]
  refine wp_region_held_drew (S := fun w' => w'.cell? ⟨w.heap.size, 0, none⟩ = some (.int .i64 P) ∧ w'.cell? ⟨w.heap.size, 1, none⟩ = some (.int .i64 Q) ∧ w'.cell? ⟨w.heap.size, 2, none⟩ = some (.int .i64 G) ∧ w'.cell? ⟨w.heap.size + 1, 0, none⟩ = some (.slice (some ⟨ba, oa, none⟩) 1 ca) ∧ w'.cell? ⟨w.heap.size + 1, 1, none⟩ = some (.int .i64 C) ∧ w'.cell? ⟨w.heap.size + 1, 2, none⟩ = some (.slice pz nz cz) ∧ w'.cell? ⟨ba, oa, none⟩ = some (.int .i64 a0) ∧ Hid (Below W.heap.size W w')) (by kernel_rfl) (HS.out _ _ HB0 ((Below.refl W.heap.size W).drew)) (fun hHeld => ?_)
  refine wpAnyH_take (i := 0) (oi := _) (v := ?_) rfl (by kernel_rfl) (by kernel_rfl) (by kernel_rfl) (fun _ _ _ h => h) (Or.inl ⟨by rfl, ?_⟩) (by assumption) ?_
  rotate_left; (intro wS hSw; (try dsimp only at hSw); go_simp <;> with_reducible rfl)
  try simp only [List.getElem_toArray, List.getElem_cons_zero, List.getElem_cons_succ, Act.put, List.setIfInBounds_toArray, List.set_cons_zero, List.set_cons_succ]
  refine wpAnyH_take (i := 1) (oi := _) (v := ?_) rfl (by kernel_rfl) (by kernel_rfl) (by kernel_rfl) (fun _ _ _ h => h) (Or.inl ⟨by rfl, ?_⟩) (by assumption) ?_
  rotate_left; (intro wS hSw; (try dsimp only at hSw); go_simp <;> with_reducible rfl)
  try simp only [List.getElem_toArray, List.getElem_cons_zero, List.getElem_cons_succ, Act.put, List.setIfInBounds_toArray, List.set_cons_zero, List.set_cons_succ]
  refine wpAnyH_take (i := 2) (oi := _) (v := ?_) rfl (by kernel_rfl) (by kernel_rfl) (by kernel_rfl) (fun _ _ _ h => h) (Or.inl ⟨by rfl, ?_⟩) (by assumption) ?_
  rotate_left; (intro wS hSw; (try dsimp only at hSw); go_simp <;> with_reducible rfl)
  try simp only [List.getElem_toArray, List.getElem_cons_zero, List.getElem_cons_succ, Act.put, List.setIfInBounds_toArray, List.set_cons_zero, List.set_cons_succ]
  refine wpAnyH_take (i := 3) (oi := _) (v := ?_) rfl (by kernel_rfl) (by kernel_rfl) (by kernel_rfl) (fun _ _ _ h => h) (Or.inl ⟨by rfl, ?_⟩) (by assumption) ?_
  rotate_left; (intro wS hSw; (try dsimp only at hSw); go_simp <;> with_reducible rfl)
  try simp only [List.getElem_toArray, List.getElem_cons_zero, List.getElem_cons_succ, Act.put, List.setIfInBounds_toArray, List.set_cons_zero, List.set_cons_succ]
  refine wpAnyH_take (i := 4) (oi := _) (v := ?_) rfl (by kernel_rfl) (by kernel_rfl) (by kernel_rfl) (fun _ _ _ h => h) (Or.inl ⟨by rfl, ?_⟩) (by assumption) ?_
  rotate_left; (intro wS hSw; (try dsimp only at hSw); go_simp <;> with_reducible rfl)
  try simp only [List.getElem_toArray, List.getElem_cons_zero, List.getElem_cons_succ, Act.put, List.setIfInBounds_toArray, List.set_cons_zero, List.set_cons_succ]
  refine wpAnyH_take (i := 5) (oi := _) (v := ?_) rfl (by kernel_rfl) (by kernel_rfl) (by kernel_rfl) (fun _ _ _ h => h) (Or.inl ⟨by rfl, ?_⟩) (by assumption) ?_
  rotate_left; (intro wS hSw; (try dsimp only at hSw); go_simp <;> with_reducible rfl)
  try simp only [List.getElem_toArray, List.getElem_cons_zero, List.getElem_cons_succ, Act.put, List.setIfInBounds_toArray, List.set_cons_zero, List.set_cons_succ]
  refine wpAnyH_take (i := 6) (oi := _) (v := ?_) rfl (by kernel_rfl) (by kernel_rfl) (by kernel_rfl) (fun _ _ _ h => h) (Or.inl ⟨by rfl, ?_⟩) (by assumption) ?_
  rotate_left; (intro wS hSw; (try dsimp only at hSw); go_simp <;> with_reducible rfl)
  try simp only [List.getElem_toArray, List.getElem_cons_zero, List.getElem_cons_succ, Act.put, List.setIfInBounds_toArray, List.set_cons_zero, List.set_cons_succ]
  refine wpAnyH_take (i := 7) (oi := _) (v := ?_) rfl (by kernel_rfl) (by kernel_rfl) (by kernel_rfl) (fun _ _ _ h => h) (Or.inl ⟨by rfl, ?_⟩) (by assumption) ?_
  rotate_left; (intro wS hSw; (try dsimp only at hSw); go_simp <;> with_reducible rfl)
  try simp only [List.getElem_toArray, List.getElem_cons_zero, List.getElem_cons_succ, Act.put, List.setIfInBounds_toArray, List.set_cons_zero, List.set_cons_succ]
  refine wpAnyH_take (i := 8) (oi := _) (v := ?_) rfl (by kernel_rfl) (by kernel_rfl) (by kernel_rfl) (fun _ _ _ h => h) (Or.inl ⟨by rfl, ?_⟩) (by assumption) ?_
  rotate_left; (intro wS hSw; (try dsimp only at hSw); go_simp <;> with_reducible rfl)
  try simp only [List.getElem_toArray, List.getElem_cons_zero, List.getElem_cons_succ, Act.put, List.setIfInBounds_toArray, List.set_cons_zero, List.set_cons_succ]
  refine wpAnyH_take (i := 9) (oi := _) (v := ?_) rfl (by kernel_rfl) (by kernel_rfl) (by kernel_rfl) (fun _ _ _ h => h) (Or.inl ⟨by rfl, ?_⟩) (by assumption) ?_
  rotate_left; (intro wS hSw; (try dsimp only at hSw); go_simp <;> with_reducible rfl)
  try simp only [List.getElem_toArray, List.getElem_cons_zero, List.getElem_cons_succ, Act.put, List.setIfInBounds_toArray, List.set_cons_zero, List.set_cons_succ]
  refine wpAnyH_ready (rs := [10]) (by kernel_rfl) (by simp) ?_
  refine AllReadyH.cons rfl (fun K hK => ?_) AllReadyH.nil
  go_simp
  (go_at_call 91; (refine (contains_any P Q G a0 true hA hQ _ ?_).mono ?_); rotate_left; rintro e wA ⟨rfl, hbA⟩; rotate_left; (go_split_ands; exact HVS.out _ (by assumption)))
  refine hK.out _ _ ?_ (fun hHeld => ?_)
  · (go_split_ands; exact HS.out _ _ (by assumption) hbA)
  clear hK K
  try simp only [List.getElem_toArray, List.getElem_cons_zero, List.getElem_cons_succ, Act.put, List.setIfInBounds_toArray, List.set_cons_zero, List.set_cons_succ]
  refine wpAnyH_take (i := 11) (oi := _) (v := ?_) rfl (by kernel_rfl) (by kernel_rfl) (by kernel_rfl) (fun _ _ _ h => h) (Or.inl ⟨by rfl, ?_⟩) (by assumption) ?_
  rotate_left; (intro wS hSw; (try dsimp only at hSw); go_simp <;> with_reducible rfl)
  try simp only [List.getElem_toArray, List.getElem_cons_zero, List.getElem_cons_succ, Act.put, List.setIfInBounds_toArray, List.set_cons_zero, List.set_cons_succ]
  refine wpAnyH_take (i := 12) (oi := _) (v := ?_) rfl (by kernel_rfl) (by kernel_rfl) (by kernel_rfl) (fun _ _ _ h => h) (Or.inl ⟨by rfl, ?_⟩) (by assumption) ?_
  rotate_left; (intro wS hSw; (try dsimp only at hSw); go_simp <;> with_reducible rfl)
  try simp only [List.getElem_toArray, List.getElem_cons_zero, List.getElem_cons_succ, Act.put, List.setIfInBounds_toArray, List.set_cons_zero, List.set_cons_succ]
  refine wpAnyH_take (i := 13) (oi := _) (v := ?_) rfl (by kernel_rfl) (by kernel_rfl) (by kernel_rfl) (fun _ _ _ h => h) (Or.inl ⟨by rfl, ?_⟩) (by assumption) ?_
  rotate_left; (intro wS hSw; (try dsimp only at hSw); go_simp <;> with_reducible rfl)
  try simp only [List.getElem_toArray, List.getElem_cons_zero, List.getElem_cons_succ, Act.put, List.setIfInBounds_toArray, List.set_cons_zero, List.set_cons_succ]
  refine wpAnyH_take (i := 14) (oi := _) (v := ?_) rfl (by kernel_rfl) (by kernel_rfl) (by kernel_rfl) (fun _ _ _ h => h) (Or.inl ⟨by rfl, ?_⟩) (by assumption) ?_
  rotate_left; (intro wS hSw; (try dsimp only at hSw); go_simp <;> with_reducible rfl)
  try simp only [List.getElem_toArray, List.getElem_cons_zero, List.getElem_cons_succ, Act.put, List.setIfInBounds_toArray, List.set_cons_zero, List.set_cons_succ]
  refine wpAnyH_take (i := 15) (oi := _) (v := ?_) rfl (by kernel_rfl) (by kernel_rfl) (by kernel_rfl) (fun _ _ _ h => h) (Or.inl ⟨by rfl, ?_⟩) (by assumption) ?_
  rotate_left; (intro wS hSw; (try dsimp only at hSw); go_simp <;> with_reducible rfl)
  try simp only [List.getElem_toArray, List.getElem_cons_zero, List.getElem_cons_succ, Act.put, List.setIfInBounds_toArray, List.set_cons_zero, List.set_cons_succ]
  refine wpAnyH_ready (rs := [16]) (by kernel_rfl) (by simp) ?_
  refine AllReadyH.cons rfl (fun K hK => ?_) AllReadyH.nil
  go_simp
  (go_at_call 89; (with_reducible refine (kexp_any P Q G C false hC _).mono ?_); rintro e wA ⟨rfl, hbA⟩)
  refine hK.out _ _ ?_ (fun hHeld => ?_)
  · (go_split_ands; exact HS.out _ _ (by assumption) hbA)
  clear hK K
  try simp only [List.getElem_toArray, List.getElem_cons_zero, List.getElem_cons_succ, Act.put, List.setIfInBounds_toArray, List.set_cons_zero, List.set_cons_succ]
  refine wpAnyH_take (i := 17) (oi := _) (v := ?_) rfl (by kernel_rfl) (by kernel_rfl) (by kernel_rfl) (fun _ _ _ h => h) (Or.inl ⟨by rfl, ?_⟩) (by assumption) ?_
  rotate_left; (intro wS hSw; (try dsimp only at hSw); go_simp <;> with_reducible rfl)
  try simp only [List.getElem_toArray, List.getElem_cons_zero, List.getElem_cons_succ, Act.put, List.setIfInBounds_toArray, List.set_cons_zero, List.set_cons_succ]
  refine wpAnyH_take (i := 18) (oi := _) (v := ?_) rfl (by kernel_rfl) (by kernel_rfl) (by kernel_rfl) (fun _ _ _ h => h) (Or.inl ⟨by rfl, ?_⟩) (by assumption) ?_
  rotate_left; (intro wS hSw; (try dsimp only at hSw); go_simp <;> with_reducible rfl)
  try simp only [List.getElem_toArray, List.getElem_cons_zero, List.getElem_cons_succ, Act.put, List.setIfInBounds_toArray, List.set_cons_zero, List.set_cons_succ]
  refine wpAnyH_take (i := 19) (oi := _) (v := undef) rfl (by kernel_rfl) (by kernel_rfl) (by kernel_rfl) (fun _ _ _ h => h) (Or.inr ⟨by rfl, rfl⟩) (by assumption) ?_
  try simp only [List.getElem_toArray, List.getElem_cons_zero, List.getElem_cons_succ, Act.put, List.setIfInBounds_toArray, List.set_cons_zero, List.set_cons_succ]
  refine wpAnyH_take (i := 20) (oi := _) (v := undef) rfl (by kernel_rfl) (by kernel_rfl) (by kernel_rfl) (fun _ _ _ h => h) (Or.inr ⟨by rfl, rfl⟩) (by assumption) ?_
  try simp only [List.getElem_toArray, List.getElem_cons_zero, List.getElem_cons_succ, Act.put, List.setIfInBounds_toArray, List.set_cons_zero, List.set_cons_succ]
  refine wpAnyH_take (i := 21) (oi := _) (v := undef) rfl (by kernel_rfl) (by kernel_rfl) (by kernel_rfl) (fun _ _ _ h => h) (Or.inr ⟨by rfl, rfl⟩) (by assumption) ?_
  try simp only [List.getElem_toArray, List.getElem_cons_zero, List.getElem_cons_succ, Act.put, List.setIfInBounds_toArray, List.set_cons_zero, List.set_cons_succ]
  refine wpAnyH_take (i := 22) (oi := _) (v := undef) rfl (by kernel_rfl) (by kernel_rfl) (by kernel_rfl) (fun _ _ _ h => h) (Or.inr ⟨by rfl, rfl⟩) (by assumption) ?_
  try simp only [List.getElem_toArray, List.getElem_cons_zero, List.getElem_cons_succ, Act.put, List.setIfInBounds_toArray, List.set_cons_zero, List.set_cons_succ]
  refine wpAnyH_take (i := 23) (oi := _) (v := ?_) rfl (by kernel_rfl) (by kernel_rfl) (by kernel_rfl) (fun _ _ _ h => h) (Or.inl ⟨by rfl, ?_⟩) (by assumption) ?_
  rotate_left; (intro wS hSw; (try dsimp only at hSw); go_simp <;> with_reducible rfl)
  try simp only [List.getElem_toArray, List.getElem_cons_zero, List.getElem_cons_succ, Act.put, List.setIfInBounds_toArray, List.set_cons_zero, List.set_cons_succ]
  refine wpAnyH_take (i := 24) (oi := _) (v := ?_) rfl (by kernel_rfl) (by kernel_rfl) (by kernel_rfl) (fun _ _ _ h => h) (Or.inl ⟨by rfl, ?_⟩) (by assumption) ?_
  rotate_left; (intro wS hSw; (try dsimp only at hSw); go_simp <;> with_reducible rfl)
  try simp only [List.getElem_toArray, List.getElem_cons_zero, List.getElem_cons_succ, Act.put, List.setIfInBounds_toArray, List.set_cons_zero, List.set_cons_succ]
  refine wpAnyH_take (i := 25) (oi := _) (v := undef) rfl (by kernel_rfl) (by kernel_rfl) (by kernel_rfl) (fun _ _ _ h => h) (Or.inr ⟨by rfl, rfl⟩) (by assumption) ?_
  try simp only [List.getElem_toArray, List.getElem_cons_zero, List.getElem_cons_succ, Act.put, List.setIfInBounds_toArray, List.set_cons_zero, List.set_cons_succ]
  refine wpAnyH_take (i := 26) (oi := _) (v := undef) rfl (by kernel_rfl) (by kernel_rfl) (by kernel_rfl) (fun _ _ _ h => h) (Or.inr ⟨by rfl, rfl⟩) (by assumption) ?_
  try simp only [List.getElem_toArray, List.getElem_cons_zero, List.getElem_cons_succ, Act.put, List.setIfInBounds_toArray, List.set_cons_zero, List.set_cons_succ]
  refine wpAnyH_take (i := 27) (oi := _) (v := undef) rfl (by kernel_rfl) (by kernel_rfl) (by kernel_rfl) (fun _ _ _ h => h) (Or.inr ⟨by rfl, rfl⟩) (by assumption) ?_
  try simp only [List.getElem_toArray, List.getElem_cons_zero, List.getElem_cons_succ, Act.put, List.setIfInBounds_toArray, List.set_cons_zero, List.set_cons_succ]
  refine wpAnyH_take (i := 28) (oi := _) (v := undef) rfl (by kernel_rfl) (by kernel_rfl) (by kernel_rfl) (fun _ _ _ h => h) (Or.inr ⟨by rfl, rfl⟩) (by assumption) ?_
  try simp only [List.getElem_toArray, List.getElem_cons_zero, List.getElem_cons_succ, Act.put, List.setIfInBounds_toArray, List.set_cons_zero, List.set_cons_succ]
  refine wpAnyH_take (i := 29) (oi := _) (v := undef) rfl (by kernel_rfl) (by kernel_rfl) (by kernel_rfl) (fun _ _ _ h => h) (Or.inr ⟨by rfl, rfl⟩) (by assumption) ?_
  try simp only [List.getElem_toArray, List.getElem_cons_zero, List.getElem_cons_succ, Act.put, List.setIfInBounds_toArray, List.set_cons_zero, List.set_cons_succ]
  refine wpAnyH_take (i := 30) (oi := _) (v := undef) rfl (by kernel_rfl) (by kernel_rfl) (by kernel_rfl) (fun _ _ _ h => h) (Or.inr ⟨by rfl, rfl⟩) (by assumption) ?_
  try simp only [List.getElem_toArray, List.getElem_cons_zero, List.getElem_cons_succ, Act.put, List.setIfInBounds_toArray, List.set_cons_zero, List.set_cons_succ]
  refine wpAnyH_take (i := 31) (oi := _) (v := ?_) rfl (by kernel_rfl) (by kernel_rfl) (by kernel_rfl) (fun _ _ _ h => h) (Or.inl ⟨by rfl, ?_⟩) (by assumption) ?_
  rotate_left; (intro wS hSw; (try dsimp only at hSw); go_simp <;> with_reducible rfl)
  try simp only [List.getElem_toArray, List.getElem_cons_zero, List.getElem_cons_succ, Act.put, List.setIfInBounds_toArray, List.set_cons_zero, List.set_cons_succ]
  refine wpAnyH_take (i := 32) (oi := _) (v := ?_) rfl (by kernel_rfl) (by kernel_rfl) (by kernel_rfl) (fun _ _ _ h => h) (Or.inl ⟨by rfl, ?_⟩) (by assumption) ?_
  rotate_left; (intro wS hSw; (try dsimp only at hSw); go_simp <;> with_reducible rfl)
  try simp only [List.getElem_toArray, List.getElem_cons_zero, List.getElem_cons_succ, Act.put, List.setIfInBounds_toArray, List.set_cons_zero, List.set_cons_succ]
  refine wpAnyH_done (by kernel_rfl) ?_ _
  obtain ⟨e0, e1, e2, e3, e4, e5, e6, HBA⟩ := hHeld
  have hbf := below_ext HB.out HBA.out
  go_wp2
  go_ret
  exact ⟨rfl, hbf⟩
set_option maxHeartbeats 1600000 in
theorem formed_3 (P Q G : Int) (ba oa ca : Nat) (a0 C : Int) (pz : Option Addr) (nz cz : Nat) (z0 : Int) (hnz : ((nz : Int) == 1) = false) (hA : Hid (conG P Q G a0 = true)) (hC : Hid (expB Q C = true)) (hval : Hid (validG P Q G = true)) (hQ : Q < 9223372036854775808) (w : World) (hv : Hid (Vars w)) (ha : Hid (w.cell? ⟨ba, oa, none⟩ = some (.int .i64 a0))) :
    Calls Tryd.prog 92 #[gv P Q G, prv (some ⟨ba, oa, none⟩) 1 ca C pz nz cz] w fun e' w' => e' = .returned (.bool false) ∧ Below w.heap.size w w' := by
  obtain ⟨hp2, hp, hq3, hqp⟩ := validG_P hval.out
  obtain ⟨W, hW⟩ : ∃ W, (w.alloc (gObj P Q G)).alloc (prObj (some ⟨ba, oa, none⟩) 1 ca C pz nz cz) = W := ⟨_, rfl⟩
  have HB : Hid (Below w.heap.size w W) := Lib.hid (by rw [← hW]; exact below_two (Below.refl _ _))
  have HX : Hid (GBox W w.heap.size P Q G) := Lib.hid (by rw [← hW]; exact (gbox_alloc w P Q G).below (below_box0 _ _))
  have HP : Hid (PBox W (w.heap.size + 1) (.slice (some ⟨ba, oa, none⟩) 1 ca) (.int .i64 C) (.slice pz nz cz)) := Lib.hid (by rw [← hW]; exact pbox_alloc w _ _ _ _ _)
  have HA : Hid (W.cell? ⟨ba, oa, none⟩ = some (.int .i64 a0)) := Lib.hid (cell_belowK ha.out HB.out)
  have HS : Hid (∀ w1 w2 : World, Hid (Below W.heap.size W w1) → Below w1.heap.size w1 w2 → (w2.cell? ⟨w.heap.size, 0, none⟩ = some (.int .i64 P) ∧ w2.cell? ⟨w.heap.size, 1, none⟩ = some (.int .i64 Q) ∧ w2.cell? ⟨w.heap.size, 2, none⟩ = some (.int .i64 G) ∧ w2.cell? ⟨w.heap.size + 1, 0, none⟩ = some (.slice (some ⟨ba, oa, none⟩) 1 ca) ∧ w2.cell? ⟨w.heap.size + 1, 1, none⟩ = some (.int .i64 C) ∧ w2.cell? ⟨w.heap.size + 1, 2, none⟩ = some (.slice pz nz cz) ∧ w2.cell? ⟨ba, oa, none⟩ = some (.int .i64 a0) ∧ Hid (Below W.heap.size W w2))) :=
    Lib.hid (fun w1 w2 h1 h2 => have h3 := below_ext h1.out h2; ⟨(HX.out.below h3).1, (HX.out.below h3).2.1, (HX.out.below h3).2.2, (HP.out.below h3).1, (HP.out.below h3).2.1, (HP.out.below h3).2.2, cell_belowK HA.out h3, Lib.hid h3⟩)
  have HB0 : Hid (Below W.heap.size W W) := Lib.hid (Below.refl _ _)
  have HV : Hid (Vars W) := Lib.hid (hv.out.below HB.out)
  have HVS : Hid (∀ w1 : World, Hid (Below W.heap.size W w1) → Hid (Vars w1)) := Lib.hid (fun w1 h1 => Lib.hid (HV.out.below h1.out))
  have HW := Lib.hid hW
  clear hW
  go_enter Tryd.func92, Tryd.ntmps92
  go_wp2_with fail
  rw [HW.out]
  refine wp_region_held_drew (S := fun w' => w'.cell? ⟨w.heap.size, 0, none⟩ = some (.int .i64 P) ∧ w'.cell? ⟨w.heap.size, 1, none⟩ = some (.int .i64 Q) ∧ w'.cell? ⟨w.heap.size, 2, none⟩ = some (.int .i64 G) ∧ w'.cell? ⟨w.heap.size + 1, 0, none⟩ = some (.slice (some ⟨ba, oa, none⟩) 1 ca) ∧ w'.cell? ⟨w.heap.size + 1, 1, none⟩ = some (.int .i64 C) ∧ w'.cell? ⟨w.heap.size + 1, 2, none⟩ = some (.slice pz nz cz) ∧ w'.cell? ⟨ba, oa, none⟩ = some (.int .i64 a0) ∧ Hid (Below W.heap.size W w')) (by kernel_rfl) (HS.out _ _ HB0 ((Below.refl W.heap.size W).drew)) (fun hHeld => ?_)
  refine wpAnyH_take (i := 0) (oi := _) (v := ?_) rfl (by kernel_rfl) (by kernel_rfl) (by kernel_rfl) (fun _ _ _ h => h) (Or.inl ⟨by rfl, ?_⟩) (by assumption) ?_
  rotate_left; (intro wS hSw; (try dsimp only at hSw); go_simp <;> with_reducible rfl)
  try simp only [List.getElem_toArray, List.getElem_cons_zero, List.getElem_cons_succ, Act.put, List.setIfInBounds_toArray, List.set_cons_zero, List.set_cons_succ]
  refine wpAnyH_take (i := 1) (oi := _) (v := ?_) rfl (by kernel_rfl) (by kernel_rfl) (by kernel_rfl) (fun _ _ _ h => h) (Or.inl ⟨by rfl, ?_⟩) (by assumption) ?_
  rotate_left; (intro wS hSw; (try dsimp only at hSw); go_simp <;> with_reducible rfl)
  try simp only [List.getElem_toArray, List.getElem_cons_zero, List.getElem_cons_succ, Act.put, List.setIfInBounds_toArray, List.set_cons_zero, List.set_cons_succ]
  refine wpAnyH_take (i := 2) (oi := _) (v := ?_) rfl (by kernel_rfl) (by kernel_rfl) (by kernel_rfl) (fun _ _ _ h => h) (Or.inl ⟨by rfl, ?_⟩) (by assumption) ?_
  rotate_left; (intro wS hSw; (try dsimp only at hSw); go_simp <;> with_reducible rfl)
  try simp only [List.getElem_toArray, List.getElem_cons_zero, List.getElem_cons_succ, Act.put, List.setIfInBounds_toArray, List.set_cons_zero, List.set_cons_succ]
  refine wpAnyH_take (i := 3) (oi := _) (v := ?_) rfl (by kernel_rfl) (by kernel_rfl) (by kernel_rfl) (fun _ _ _ h => h) (Or.inl ⟨by rfl, ?_⟩) (by assumption) ?_
  rotate_left; (intro wS hSw; (try dsimp only at hSw); go_simp <;> with_reducible rfl)
  try simp only [List.getElem_toArray, List.getElem_cons_zero, List.getElem_cons_succ, Act.put, List.setIfInBounds_toArray, List.set_cons_zero, List.set_cons_succ]
  refine wpAnyH_take (i := 4) (oi := _) (v := ?_) rfl (by kernel_rfl) (by kernel_rfl) (by kernel_rfl) (fun _ _ _ h => h) (Or.inl ⟨by rfl, ?_⟩) (by assumption) ?_
  rotate_left; (intro wS hSw; (try dsimp only at hSw); go_simp <;> with_reducible rfl)
  try simp only [List.getElem_toArray, List.getElem_cons_zero, List.getElem_cons_succ, Act.put, List.setIfInBounds_toArray, List.set_cons_zero, List.set_cons_succ]
  refine wpAnyH_take (i := 5) (oi := _) (v := ?_) rfl (by kernel_rfl) (by kernel_rfl) (by kernel_rfl) (fun _ _ _ h => h) (Or.inl ⟨by rfl, ?_⟩) (by assumption) ?_
  rotate_left; (intro wS hSw; (try dsimp only at hSw); go_simp <;> with_reducible rfl)
  try simp only [List.getElem_toArray, List.getElem_cons_zero, List.getElem_cons_succ, Act.put, List.setIfInBounds_toArray, List.set_cons_zero, List.set_cons_succ]
  refine wpAnyH_take (i := 6) (oi := _) (v := ?_) rfl (by kernel_rfl) (by kernel_rfl) (by kernel_rfl) (fun _ _ _ h => h) (Or.inl ⟨by rfl, ?_⟩) (by assumption) ?_
  rotate_left; (intro wS hSw; (try dsimp only at hSw); go_simp <;> with_reducible rfl)
  try simp only [List.getElem_toArray, List.getElem_cons_zero, List.getElem_cons_succ, Act.put, List.setIfInBounds_toArray, List.set_cons_zero, List.set_cons_succ]
  refine wpAnyH_take (i := 7) (oi := _) (v := ?_) rfl (by kernel_rfl) (by kernel_rfl) (by kernel_rfl) (fun _ _ _ h => h) (Or.inl ⟨by rfl, ?_⟩) (by assumption) ?_
  rotate_left; (intro wS hSw; (try dsimp only at hSw); go_simp <;> with_reducible rfl)
  try simp only [List.getElem_toArray, List.getElem_cons_zero, List.getElem_cons_succ, Act.put, List.setIfInBounds_toArray, List.set_cons_zero, List.set_cons_succ]
  refine wpAnyH_take (i := 8) (oi := _) (v := ?_) rfl (by kernel_rfl) (by kernel_rfl) (by kernel_rfl) (fun _ _ _ h => h) (Or.inl ⟨by rfl, ?_⟩) (by assumption) ?_
  rotate_left; (intro wS hSw; (try dsimp only at hSw); go_simp <;> with_reducible rfl)
  try simp only [List.getElem_toArray, List.getElem_cons_zero, List.getElem_cons_succ, Act.put, List.setIfInBounds_toArray, List.set_cons_zero, List.set_cons_succ]
  refine wpAnyH_take (i := 9) (oi := _) (v := ?_) rfl (by kernel_rfl) (by kernel_rfl) (by kernel_rfl) (fun _ _ _ h => h) (Or.inl ⟨by rfl, ?_⟩) (by assumption) ?_
  rotate_left; (intro wS hSw; (try dsimp only at hSw); go_simp <;> with_reducible rfl)
  try simp only [List.getElem_toArray, List.getElem_cons_zero, List.getElem_cons_succ, Act.put, List.setIfInBounds_toArray, List.set_cons_zero, List.set_cons_succ]
  refine wpAnyH_ready (rs := [10]) (by kernel_rfl) (by simp) ?_
  refine AllReadyH.cons rfl (fun K hK => ?_) AllReadyH.nil
  go_simp
  (go_at_call 91; (refine (contains_any P Q G a0 true hA hQ _ ?_).mono ?_); rotate_left; rintro e wA ⟨rfl, hbA⟩; rotate_left; (go_split_ands; exact HVS.out _ (by assumption)))
  refine hK.out _ _ ?_ (fun hHeld => ?_)
  · (go_split_ands; exact HS.out _ _ (by assumption) hbA)
  clear hK K
  try simp only [List.getElem_toArray, List.getElem_cons_zero, List.getElem_cons_succ, Act.put, List.setIfInBounds_toArray, List.set_cons_zero, List.set_cons_succ]
  refine wpAnyH_take (i := 11) (oi := _) (v := ?_) rfl (by kernel_rfl) (by kernel_rfl) (by kernel_rfl) (fun _ _ _ h => h) (Or.inl ⟨by rfl, ?_⟩) (by assumption) ?_
  rotate_left; (intro wS hSw; (try dsimp only at hSw); go_simp <;> with_reducible rfl)
  try simp only [List.getElem_toArray, List.getElem_cons_zero, List.getElem_cons_succ, Act.put, List.setIfInBounds_toArray, List.set_cons_zero, List.set_cons_succ]
  refine wpAnyH_take (i := 12) (oi := _) (v := ?_) rfl (by kernel_rfl) (by kernel_rfl) (by kernel_rfl) (fun _ _ _ h => h) (Or.inl ⟨by rfl, ?_⟩) (by assumption) ?_
  rotate_left; (intro wS hSw; (try dsimp only at hSw); go_simp <;> with_reducible rfl)
  try simp only [List.getElem_toArray, List.getElem_cons_zero, List.getElem_cons_succ, Act.put, List.setIfInBounds_toArray, List.set_cons_zero, List.set_cons_succ]
  refine wpAnyH_take (i := 13) (oi := _) (v := ?_) rfl (by kernel_rfl) (by kernel_rfl) (by kernel_rfl) (fun _ _ _ h => h) (Or.inl ⟨by rfl, ?_⟩) (by assumption) ?_
  rotate_left; (intro wS hSw; (try dsimp only at hSw); go_simp <;> with_reducible rfl)
  try simp only [List.getElem_toArray, List.getElem_cons_zero, List.getElem_cons_succ, Act.put, List.setIfInBounds_toArray, List.set_cons_zero, List.set_cons_succ]
  refine wpAnyH_take (i := 14) (oi := _) (v := ?_) rfl (by kernel_rfl) (by kernel_rfl) (by kernel_rfl) (fun _ _ _ h => h) (Or.inl ⟨by rfl, ?_⟩) (by assumption) ?_
  rotate_left; (intro wS hSw; (try dsimp only at hSw); go_simp <;> with_reducible rfl)
  try simp only [List.getElem_toArray, List.getElem_cons_zero, List.getElem_cons_succ, Act.put, List.setIfInBounds_toArray, List.set_cons_zero, List.set_cons_succ]
  refine wpAnyH_take (i := 15) (oi := _) (v := ?_) rfl (by kernel_rfl) (by kernel_rfl) (by kernel_rfl) (fun _ _ _ h => h) (Or.inl ⟨by rfl, ?_⟩) (by assumption) ?_
  rotate_left; (intro wS hSw; (try dsimp only at hSw); go_simp <;> with_reducible rfl)
  try simp only [List.getElem_toArray, List.getElem_cons_zero, List.getElem_cons_succ, Act.put, List.setIfInBounds_toArray, List.set_cons_zero, List.set_cons_succ]
  refine wpAnyH_ready (rs := [16]) (by kernel_rfl) (by simp) ?_
  refine AllReadyH.cons rfl (fun K hK => ?_) AllReadyH.nil
  go_simp
  (go_at_call 89; (with_reducible refine (kexp_any P Q G C true hC _).mono ?_); rintro e wA ⟨rfl, hbA⟩)
  refine hK.out _ _ ?_ (fun hHeld => ?_)
  · (go_split_ands; exact HS.out _ _ (by assumption) hbA)
  clear hK K
  try simp only [List.getElem_toArray, List.getElem_cons_zero, List.getElem_cons_succ, Act.put, List.setIfInBounds_toArray, List.set_cons_zero, List.set_cons_succ]
  refine wpAnyH_take (i := 17) (oi := _) (v := ?_) rfl (by kernel_rfl) (by kernel_rfl) (by kernel_rfl) (fun _ _ _ h => h) (Or.inl ⟨by rfl, ?_⟩) (by assumption) ?_
  rotate_left; (intro wS hSw; (try dsimp only at hSw); go_simp <;> with_reducible rfl)
  try simp only [List.getElem_toArray, List.getElem_cons_zero, List.getElem_cons_succ, Act.put, List.setIfInBounds_toArray, List.set_cons_zero, List.set_cons_succ]
  refine wpAnyH_take (i := 18) (oi := _) (v := ?_) rfl (by kernel_rfl) (by kernel_rfl) (by kernel_rfl) (fun _ _ _ h => h) (Or.inl ⟨by rfl, ?_⟩) (by assumption) ?_
  rotate_left; (intro wS hSw; (try dsimp only at hSw); go_simp <;> with_reducible rfl)
  try simp only [List.getElem_toArray, List.getElem_cons_zero, List.getElem_cons_succ, Act.put, List.setIfInBounds_toArray, List.set_cons_zero, List.set_cons_succ]
  refine wpAnyH_take (i := 19) (oi := _) (v := ?_) rfl (by kernel_rfl) (by kernel_rfl) (by kernel_rfl) (fun _ _ _ h => h) (Or.inl ⟨by rfl, ?_⟩) (by assumption) ?_
  rotate_left; (intro wS hSw; (try dsimp only at hSw); go_simp <;> with_reducible rfl)
  try simp only [List.getElem_toArray, List.getElem_cons_zero, List.getElem_cons_succ, Act.put, List.setIfInBounds_toArray, List.set_cons_zero, List.set_cons_succ]
  refine wpAnyH_take (i := 20) (oi := _) (v := ?_) rfl (by kernel_rfl) (by kernel_rfl) (by kernel_rfl) (fun _ _ _ h => h) (Or.inl ⟨by rfl, ?_⟩) (by assumption) ?_
  rotate_left; (intro wS hSw; (try dsimp only at hSw); go_simp <;> with_reducible rfl)
  try simp only [List.getElem_toArray, List.getElem_cons_zero, List.getElem_cons_succ, Act.put, List.setIfInBounds_toArray, List.set_cons_zero, List.set_cons_succ]
  refine wpAnyH_take (i := 21) (oi := _) (v := ?_) rfl (by kernel_rfl) (by kernel_rfl) (by kernel_rfl) (fun _ _ _ h => h) (Or.inl ⟨by rfl, ?_⟩) (by assumption) ?_
  rotate_left; (intro wS hSw; (try dsimp only at hSw); go_simp <;> with_reducible rfl)
  try simp only [List.getElem_toArray, List.getElem_cons_zero, List.getElem_cons_succ, Act.put, List.setIfInBounds_toArray, List.set_cons_zero, List.set_cons_succ]
  refine wpAnyH_take (i := 22) (oi := _) (v := ?_) rfl (by kernel_rfl) (by kernel_rfl) (by kernel_rfl) (fun _ _ _ h => h) (Or.inl ⟨by rfl, ?_⟩) (by assumption) ?_
  rotate_left; (intro wS hSw; (try dsimp only at hSw); go_simp <;> with_reducible rfl)
  try simp only [List.getElem_toArray, List.getElem_cons_zero, List.getElem_cons_succ, Act.put, List.setIfInBounds_toArray, List.set_cons_zero, List.set_cons_succ]
  refine wpAnyH_take (i := 23) (oi := _) (v := ?_) rfl (by kernel_rfl) (by kernel_rfl) (by kernel_rfl) (fun _ _ _ h => h) (Or.inl ⟨by rfl, ?_⟩) (by assumption) ?_
  rotate_left; (intro wS hSw; (try dsimp only at hSw); go_simp <;> with_reducible rfl)
  try simp only [List.getElem_toArray, List.getElem_cons_zero, List.getElem_cons_succ, Act.put, List.setIfInBounds_toArray, List.set_cons_zero, List.set_cons_succ]
  refine wpAnyH_take (i := 24) (oi := _) (v := ?_) rfl (by kernel_rfl) (by kernel_rfl) (by kernel_rfl) (fun _ _ _ h => h) (Or.inl ⟨by rfl, ?_⟩) (by assumption) ?_
  rotate_left; (intro wS hSw; (try dsimp only at hSw); go_simp <;> with_reducible rfl)
  try simp only [List.getElem_toArray, List.getElem_cons_zero, List.getElem_cons_succ, Act.put, List.setIfInBounds_toArray, List.set_cons_zero, List.set_cons_succ]
  refine wpAnyH_take (i := 25) (oi := _) (v := undef) rfl (by kernel_rfl) (by kernel_rfl) (by kernel_rfl) (fun _ _ _ h => h) (Or.inr ⟨by rfl, rfl⟩) (by assumption) ?_
  try simp only [List.getElem_toArray, List.getElem_cons_zero, List.getElem_cons_succ, Act.put, List.setIfInBounds_toArray, List.set_cons_zero, List.set_cons_succ]
  refine wpAnyH_take (i := 26) (oi := _) (v := undef) rfl (by kernel_rfl) (by kernel_rfl) (by kernel_rfl) (fun _ _ _ h => h) (Or.inr ⟨by rfl, rfl⟩) (by assumption) ?_
  try simp only [List.getElem_toArray, List.getElem_cons_zero, List.getElem_cons_succ, Act.put, List.setIfInBounds_toArray, List.set_cons_zero, List.set_cons_succ]
  refine wpAnyH_take (i := 27) (oi := _) (v := undef) rfl (by kernel_rfl) (by kernel_rfl) (by kernel_rfl) (fun _ _ _ h => h) (Or.inr ⟨by rfl, rfl⟩) (by assumption) ?_
  try simp only [List.getElem_toArray, List.getElem_cons_zero, List.getElem_cons_succ, Act.put, List.setIfInBounds_toArray, List.set_cons_zero, List.set_cons_succ]
  refine wpAnyH_take (i := 28) (oi := _) (v := undef) rfl (by kernel_rfl) (by kernel_rfl) (by kernel_rfl) (fun _ _ _ h => h) (Or.inr ⟨by rfl, rfl⟩) (by assumption) ?_
  try simp only [List.getElem_toArray, List.getElem_cons_zero, List.getElem_cons_succ, Act.put, List.setIfInBounds_toArray, List.set_cons_zero, List.set_cons_succ]
  refine wpAnyH_take (i := 29) (oi := _) (v := undef) rfl (by kernel_rfl) (by kernel_rfl) (by kernel_rfl) (fun _ _ _ h => h) (Or.inr ⟨by rfl, rfl⟩) (by assumption) ?_
  try simp only [List.getElem_toArray, List.getElem_cons_zero, List.getElem_cons_succ, Act.put, List.setIfInBounds_toArray, List.set_cons_zero, List.set_cons_succ]
  refine wpAnyH_take (i := 30) (oi := _) (v := undef) rfl (by kernel_rfl) (by kernel_rfl) (by kernel_rfl) (fun _ _ _ h => h) (Or.inr ⟨by rfl, rfl⟩) (by assumption) ?_
  try simp only [List.getElem_toArray, List.getElem_cons_zero, List.getElem_cons_succ, Act.put, List.setIfInBounds_toArray, List.set_cons_zero, List.set_cons_succ]
  refine wpAnyH_take (i := 31) (oi := _) (v := ?_) rfl (by kernel_rfl) (by kernel_rfl) (by kernel_rfl) (fun _ _ _ h => h) (Or.inl ⟨by rfl, ?_⟩) (by assumption) ?_
  rotate_left; (intro wS hSw; (try dsimp only at hSw); go_simp <;> with_reducible rfl)
  try simp only [List.getElem_toArray, List.getElem_cons_zero, List.getElem_cons_succ, Act.put, List.setIfInBounds_toArray, List.set_cons_zero, List.set_cons_succ]
  refine wpAnyH_take (i := 32) (oi := _) (v := ?_) rfl (by kernel_rfl) (by kernel_rfl) (by kernel_rfl) (fun _ _ _ h => h) (Or.inl ⟨by rfl, ?_⟩) (by assumption) ?_
  rotate_left; (intro wS hSw; (try dsimp only at hSw); go_simp <;> with_reducible rfl)
  try simp only [List.getElem_toArray, List.getElem_cons_zero, List.getElem_cons_succ, Act.put, List.setIfInBounds_toArray, List.set_cons_zero, List.set_cons_succ]
  refine wpAnyH_done (by kernel_rfl) ?_ _
  obtain ⟨e0, e1, e2, e3, e4, e5, e6, HBA⟩ := hHeld
  have hbf := below_ext HB.out HBA.out
  go_wp2
  go_ret
  exact ⟨rfl, hbf⟩
set_option maxHeartbeats 1600000 in
theorem formed_4 (P Q G : Int) (ba oa ca : Nat) (a0 C : Int) (bz oz cz : Nat) (z0 : Int) (hA : Hid (conG P Q G a0 = true)) (hC : Hid (expB Q C = true)) (hZ : Hid (expB Q z0 = false)) (hval : Hid (validG P Q G = true)) (hQ : Q < 9223372036854775808) (w : World) (hv : Hid (Vars w)) (ha : Hid (w.cell? ⟨ba, oa, none⟩ = some (.int .i64 a0))) (hz : Hid (w.cell? ⟨bz, oz, none⟩ = some (.int .i64 z0))) :
    Calls Tryd.prog 92 #[gv P Q G, prv (some ⟨ba, oa, none⟩) 1 ca C (some ⟨bz, oz, none⟩) 1 cz] w fun e' w' => e' = .returned (.bool false) ∧ Below w.heap.size w w' := by
  obtain ⟨hp2, hp, hq3, hqp⟩ := validG_P hval.out
  obtain ⟨W, hW⟩ : ∃ W, (w.alloc (gObj P Q G)).alloc (prObj (some ⟨ba, oa, none⟩) 1 ca C (some ⟨bz, oz, none⟩) 1 cz) = W := ⟨_, rfl⟩
  have HB : Hid (Below w.heap.size w W) := Lib.hid (by rw [← hW]; exact below_two (Below.refl _ _))
  have HX : Hid (GBox W w.heap.size P Q G) := Lib.hid (by rw [← hW]; exact (gbox_alloc w P Q G).below (below_box0 _ _))
  have HP : Hid (PBox W (w.heap.size + 1) (.slice (some ⟨ba, oa, none⟩) 1 ca) (.int .i64 C) (.slice (some ⟨bz, oz, none⟩) 1 cz)) := Lib.hid (by rw [← hW]; exact pbox_alloc w _ _ _ _ _)
  have HA : Hid (W.cell? ⟨ba, oa, none⟩ = some (.int .i64 a0)) := Lib.hid (cell_belowK ha.out HB.out)
  have HZ : Hid (W.cell? ⟨bz, oz, none⟩ = some (.int .i64 z0)) := Lib.hid (cell_belowK hz.out HB.out)
  have HS : Hid (∀ w1 w2 : World, Hid (Below W.heap.size W w1) → Below w1.heap.size w1 w2 → (w2.cell? ⟨w.heap.size, 0, none⟩ = some (.int .i64 P) ∧ w2.cell? ⟨w.heap.size, 1, none⟩ = some (.int .i64 Q) ∧ w2.cell? ⟨w.heap.size, 2, none⟩ = some (.int .i64 G) ∧ w2.cell? ⟨w.heap.size + 1, 0, none⟩ = some (.slice (some ⟨ba, oa, none⟩) 1 ca) ∧ w2.cell? ⟨w.heap.size + 1, 1, none⟩ = some (.int .i64 C) ∧ w2.cell? ⟨w.heap.size + 1, 2, none⟩ = some (.slice (some ⟨bz, oz, none⟩) 1 cz) ∧ w2.cell? ⟨ba, oa, none⟩ = some (.int .i64 a0) ∧ w2.cell? ⟨bz, oz, none⟩ = some (.int .i64 z0) ∧ Hid (Below W.heap.size W w2))) :=
    Lib.hid (fun w1 w2 h1 h2 => have h3 := below_ext h1.out h2; ⟨(HX.out.below h3).1, (HX.out.below h3).2.1, (HX.out.below h3).2.2, (HP.out.below h3).1, (HP.out.below h3).2.1, (HP.out.below h3).2.2, cell_belowK HA.out h3, cell_belowK HZ.out h3, Lib.hid h3⟩)
  have HB0 : Hid (Below W.heap.size W W) := Lib.hid (Below.refl _ _)
  have HV : Hid (Vars W) := Lib.hid (hv.out.below HB.out)
  have HVS : Hid (∀ w1 : World, Hid (Below W.heap.size W w1) → Hid (Vars w1)) := Lib.hid (fun w1 h1 => Lib.hid (HV.out.below h1.out))
  have HW := Lib.hid hW
  clear hW
  go_enter Tryd.func92, Tryd.ntmps92
  go_wp2_with fail
  rw [HW.out]
  go_region_held3 (fun w' => w'.cell? ⟨w.heap.size, 0, none⟩ = some (.int .i64 P) ∧ w'.cell? ⟨w.heap.size, 1, none⟩ = some (.int .i64 Q) ∧ w'.cell? ⟨w.heap.size, 2, none⟩ = some (.int .i64 G) ∧ w'.cell? ⟨w.heap.size + 1, 0, none⟩ = some (.slice (some ⟨ba, oa, none⟩) 1 ca) ∧ w'.cell? ⟨w.heap.size + 1, 1, none⟩ = some (.int .i64 C) ∧ w'.cell? ⟨w.heap.size + 1, 2, none⟩ = some (.slice (some ⟨bz, oz, none⟩) 1 cz) ∧ w'.cell? ⟨ba, oa, none⟩ = some (.int .i64 a0) ∧ w'.cell? ⟨bz, oz, none⟩ = some (.int .i64 z0) ∧ Hid (Below W.heap.size W w'))
    (first | exact HS.out _ _ HB0 ((Below.refl W.heap.size W).drew) | (go_split_ands; exact HS.out _ _ (by assumption) hbA) | go_keep)
    (first
      | (go_at_call 91; (refine (contains_any P Q G a0 true hA hQ _ ?_).mono ?_); rotate_left; rintro e wA ⟨rfl, hbA⟩; rotate_left; (go_split_ands; exact HVS.out _ (by assumption)))
      | (go_at_call 89; (with_reducible refine (kexp_any P Q G C true hC _).mono ?_); rintro e wA ⟨rfl, hbA⟩)
      | (go_at_call 89; (with_reducible refine (kexp_any P Q G z0 false hZ _).mono ?_); rintro e wA ⟨rfl, hbA⟩))
  rename_i hHeld
  obtain ⟨e0, e1, e2, e3, e4, e5, e6, e7, HBA⟩ := hHeld
  have hbf := below_ext HB.out HBA.out
  go_wp2
  go_ret
  exact ⟨rfl, hbf⟩
set_option maxHeartbeats 1600000 in
theorem formed_5 (P Q G : Int) (ba oa ca : Nat) (a0 C : Int) (bz oz cz : Nat) (z0 : Int) (hA : Hid (conG P Q G a0 = true)) (hC : Hid (expB Q C = true)) (hZ : Hid (expB Q z0 = true)) (hval : Hid (validG P Q G = true)) (hQ : Q < 9223372036854775808) (w : World) (hv : Hid (Vars w)) (ha : Hid (w.cell? ⟨ba, oa, none⟩ = some (.int .i64 a0))) (hz : Hid (w.cell? ⟨bz, oz, none⟩ = some (.int .i64 z0))) :
    Calls Tryd.prog 92 #[gv P Q G, prv (some ⟨ba, oa, none⟩) 1 ca C (some ⟨bz, oz, none⟩) 1 cz] w fun e' w' => e' = .returned (.bool true) ∧ Below w.heap.size w w' := by
  obtain ⟨hp2, hp, hq3, hqp⟩ := validG_P hval.out
  obtain ⟨W, hW⟩ : ∃ W, (w.alloc (gObj P Q G)).alloc (prObj (some ⟨ba, oa, none⟩) 1 ca C (some ⟨bz, oz, none⟩) 1 cz) = W := ⟨_, rfl⟩
  have HB : Hid (Below w.heap.size w W) := Lib.hid (by rw [← hW]; exact below_two (Below.refl _ _))
  have HX : Hid (GBox W w.heap.size P Q G) := Lib.hid (by rw [← hW]; exact (gbox_alloc w P Q G).below (below_box0 _ _))
  have HP : Hid (PBox W (w.heap.size + 1) (.slice (some ⟨ba, oa, none⟩) 1 ca) (.int .i64 C) (.slice (some ⟨bz, oz, none⟩) 1 cz)) := Lib.hid (by rw [← hW]; exact pbox_alloc w _ _ _ _ _)
  have HA : Hid (W.cell? ⟨ba, oa, none⟩ = some (.int .i64 a0)) := Lib.hid (cell_belowK ha.out HB.out)
  have HZ : Hid (W.cell? ⟨bz, oz, none⟩ = some (.int .i64 z0)) := Lib.hid (cell_belowK hz.out HB.out)
  have HS : Hid (∀ w1 w2 : World, Hid (Below W.heap.size W w1) → Below w1.heap.size w1 w2 → (w2.cell? ⟨w.heap.size, 0, none⟩ = some (.int .i64 P) ∧ w2.cell? ⟨w.heap.size, 1, none⟩ = some (.int .i64 Q) ∧ w2.cell? ⟨w.heap.size, 2, none⟩ = some (.int .i64 G) ∧ w2.cell? ⟨w.heap.size + 1, 0, none⟩ = some (.slice (some ⟨ba, oa, none⟩) 1 ca) ∧ w2.cell? ⟨w.heap.size + 1, 1, none⟩ = some (.int .i64 C) ∧ w2.cell? ⟨w.heap.size + 1, 2, none⟩ = some (.slice (some ⟨bz, oz, none⟩) 1 cz) ∧ w2.cell? ⟨ba, oa, none⟩ = some (.int .i64 a0) ∧ w2.cell? ⟨bz, oz, none⟩ = some (.int .i64 z0) ∧ Hid (Below W.heap.size W w2))) :=
    Lib.hid (fun w1 w2 h1 h2 => have h3 := below_ext h1.out h2; ⟨(HX.out.below h3).1, (HX.out.below h3).2.1, (HX.out.below h3).2.2, (HP.out.below h3).1, (HP.out.below h3).2.1, (HP.out.below h3).2.2, cell_belowK HA.out h3, cell_belowK HZ.out h3, Lib.hid h3⟩)
  have HB0 : Hid (Below W.heap.size W W) := Lib.hid (Below.refl _ _)
  have HV : Hid (Vars W) := Lib.hid (hv.out.below HB.out)
  have HVS : Hid (∀ w1 : World, Hid (Below W.heap.size W w1) → Hid (Vars w1)) := Lib.hid (fun w1 h1 => Lib.hid (HV.out.below h1.out))
  have HW := Lib.hid hW
  clear hW
  go_enter Tryd.func92, Tryd.ntmps92
  go_wp2_with fail
  rw [HW.out]
  go_region_held3 (fun w' => w'.cell? ⟨w.heap.size, 0, none⟩ = some (.int .i64 P) ∧ w'.cell? ⟨w.heap.size, 1, none⟩ = some (.int .i64 Q) ∧ w'.cell? ⟨w.heap.size, 2, none⟩ = some (.int .i64 G) ∧ w'.cell? ⟨w.heap.size + 1, 0, none⟩ = some (.slice (some ⟨ba, oa, none⟩) 1 ca) ∧ w'.cell? ⟨w.heap.size + 1, 1, none⟩ = some (.int .i64 C) ∧ w'.cell? ⟨w.heap.size + 1, 2, none⟩ = some (.slice (some ⟨bz, oz, none⟩) 1 cz) ∧ w'.cell? ⟨ba, oa, none⟩ = some (.int .i64 a0) ∧ w'.cell? ⟨bz, oz, none⟩ = some (.int .i64 z0) ∧ Hid (Below W.heap.size W w'))
    (first | exact HS.out _ _ HB0 ((Below.refl W.heap.size W).drew) | (go_split_ands; exact HS.out _ _ (by assumption) hbA) | go_keep)
    (first
      | (go_at_call 91; (refine (contains_any P Q G a0 true hA hQ _ ?_).mono ?_); rotate_left; rintro e wA ⟨rfl, hbA⟩; rotate_left; (go_split_ands; exact HVS.out _ (by assumption)))
      | (go_at_call 89; (with_reducible refine (kexp_any P Q G C true hC _).mono ?_); rintro e wA ⟨rfl, hbA⟩)
      | (go_at_call 89; (with_reducible refine (kexp_any P Q G z0 true hZ _).mono ?_); rintro e wA ⟨rfl, hbA⟩))
  rename_i hHeld
  obtain ⟨e0, e1, e2, e3, e4, e5, e6, e7, HBA⟩ := hHeld
  have hbf := below_ext HB.out HBA.out
  go_wp2
  go_ret
  exact ⟨rfl, hbf⟩
/-- THE CONTRACT. -/
theorem formed_any (P Q G : Int) (pa : Option Addr) (na ca : Nat) (a0 C : Int) (pz : Option Addr) (nz cz : Nat) (z0 : Int) (b : Bool) (hb : Hid (formB P Q na a0 C nz z0 = b)) (hval : Hid (validG P Q G = true)) (hQ : Q < 9223372036854775808) (w : World) (hv : Hid (Vars w))
    (hA : Hid (One w pa na a0)) (hZ : Hid (One w pz nz z0)) :
    Calls Tryd.prog 92 #[gv P Q G, prv pa na ca C pz nz cz] w fun e' w' => e' = .returned (.bool b) ∧ Below w.heap.size w w' := by
  have hb' := hb.out
  by_cases h1 : na = 1
  · obtain ⟨ba, oa, rfl, ha⟩ := hA.out h1
    subst h1
    cases h2 : memG P Q a0 with
    | false =>
      obtain rfl : b = false := by rw [← hb', formB, h2]; simp
      exact formed_1 P Q G ba oa ca a0 C pz nz cz z0 (Lib.hid (by rw [conG, hval.out, h2]; rfl)) hval hQ w hv (Lib.hid ha)
    | true =>
      have HA : Hid (conG P Q G a0 = true) := Lib.hid (by rw [conG, hval.out, h2]; rfl)
      cases h3 : expB Q C with
      | false =>
        obtain rfl : b = false := by rw [← hb', formB, h3]; simp
        exact formed_2 P Q G ba oa ca a0 C pz nz cz z0 HA (Lib.hid h3) hval hQ w hv (Lib.hid ha)
      | true =>
        by_cases h4 : nz = 1
        · obtain ⟨bz, oz, rfl, hz⟩ := hZ.out h4
          subst h4
          cases h5 : expB Q z0 with
          | false =>
            obtain rfl : b = false := by rw [← hb', formB, h5]; simp
            exact formed_4 P Q G ba oa ca a0 C bz oz cz z0 HA (Lib.hid h3) (Lib.hid h5) hval hQ w hv (Lib.hid ha) (Lib.hid hz)
          | true =>
            obtain rfl : b = true := by rw [← hb', formB, h2, h3, h5]; rfl
            exact formed_5 P Q G ba oa ca a0 C bz oz cz z0 HA (Lib.hid h3) (Lib.hid h5) hval hQ w hv (Lib.hid ha) (Lib.hid hz)
        · obtain rfl : b = false := by rw [← hb', formB]; simp [h4]
          exact formed_3 P Q G ba oa ca a0 C pz nz cz z0 (by simp; omega) HA (Lib.hid h3) hval hQ w hv (Lib.hid ha)
  · obtain rfl : b = false := by rw [← hb', formB]; simp [h1]
    exact formed_0 P Q G pa na ca a0 C pz nz cz z0 (by simp; omega) hval hQ w hv
end Go.Proofs.YtdlhodbiaoafiaaDoor
namespace Go.Proofs.YtdlhodbiaoafiaaDoor
open Go.RowKit SpM
set_option linter.unusedVariables false
/-- which proofs are right. -/
def chkB (P Q G b y : Int) (na : Nat) (a0 C : Int) (nz : Nat) (z0 : Int) : Bool := validG P Q G && (okB P Q b && (memG P Q y && (formB P Q na a0 C nz z0 && (pw b (z0 % Q) P == a0 * pw y (C % Q) P % P))))
theorem formB_parts {P Q : Int} {na : Nat} {a0 C : Int} {nz : Nat} {z0 : Int} (h : formB P Q na a0 C nz z0 = true) : na = 1 ∧ nz = 1 ∧ memG P Q a0 = true ∧ expB Q C = true ∧ expB Q z0 = true := by
  simp [formB] at h
  exact ⟨h.1, h.2.1, h.2.2.1, h.2.2.2.1, h.2.2.2.2⟩
set_option maxHeartbeats 6400000 in
theorem check_any16 (P Q G b y : Int) (pa : Option Addr) (na ca : Nat) (a0 C : Int) (pz : Option Addr) (nz cz : Nat) (z0 : Int) (r : Bool) (hr : Hid (chkB P Q G b y na a0 C nz z0 = r)) (hQ : Q < 9223372036854775808) (w : World) (hv : Hid (Vars w))
    (hA : Hid (One w pa na a0)) (hZ : Hid (One w pz nz z0)) :
    Calls Tryd.prog 41 #[gv P Q G, .int .i64 b, .int .i64 y, prv pa na ca C pz nz cz] w fun e' w' => e' = .returned (.bool r) ∧ Below w.heap.size w w' := by
  obtain ⟨w0, hW⟩ : ∃ W, (w.alloc (gObj P Q G)).alloc (prObj pa na ca C pz nz cz) = W := ⟨_, rfl⟩
  have HB : Hid (Below w.heap.size w w0) := Lib.hid (by rw [← hW]; exact below_two (Below.refl _ _))
  have HX0 : Hid (GBox w0 w.heap.size P Q G) := Lib.hid (by rw [← hW]; exact (gbox_alloc w P Q G).below (below_box0 _ _))
  have HP0 : Hid (PBox w0 (w.heap.size + 1) (.slice pa na ca) (.int .i64 C) (.slice pz nz cz)) := Lib.hid (by rw [← hW]; exact pbox_alloc w _ _ _ _ _)
  have HA0 : Hid (One w0 pa na a0) := Lib.hid (hA.out.below HB.out)
  have HZ0 : Hid (One w0 pz nz z0) := Lib.hid (hZ.out.below HB.out)
  have HV0 : Hid (Vars w0) := Lib.hid (hv.out.below HB.out)
  have HW := Lib.hid hW
  clear hW
  have hr' := hr.out
  cases hval : validG P Q G with
  | false =>
    obtain rfl : r = false := by rw [← hr', chkB, hval]; simp
    have HVL : Hid (validG P Q G = false) := hval
    clear hr' hr hval
    go_enter Tryd.func41, Tryd.ntmps41
    go_wp2_with fail
    rw [HW.out]
    go_wp2_with fail
    refine (valid_any P Q G false HVL hQ _ HV0).mono ?_
    rintro e w1 ⟨rfl, hb0⟩
    have hb1 := below_ext (HB.out) hb0
    clear hb0
    go_wp2
    go_ret
    exact ⟨rfl, hb1⟩
  | true =>
    have HVL : Hid (validG P Q G = true) := hval
    obtain ⟨hp2, hp, hq3, hqp⟩ := validG_P hval
    cases hk : okB P Q b with
    | false =>
      obtain rfl : r = false := by rw [← hr', chkB, hk]; simp
      have HK : Hid (okB P Q b = false) := hk
      clear hr' hr hval hk
      go_enter Tryd.func41, Tryd.ntmps41
      go_wp2_with fail
      rw [HW.out]
      go_wp2_with fail
      refine (valid_any P Q G true HVL hQ _ HV0).mono ?_
      rintro e w1 ⟨rfl, hb0⟩
      have hb1 := below_ext (HB.out) hb0
      have HV1 := Lib.hid (HV0.out.below hb0)
      have HX1 := Lib.hid (HX0.out.below hb0)
      have HP1 := Lib.hid (HP0.out.below hb0)
      have HA1 := Lib.hid (HA0.out.below hb0)
      have HZ1 := Lib.hid (HZ0.out.below hb0)
      clear hb0
      obtain ⟨c0, c1, c2⟩ := HX1.out
      obtain ⟨d0, d1, d2⟩ := HP1.out
      go_wp2_with fail
      refine (kbase_any P Q G b false HVL HK _ HV1).mono ?_
      rintro e w2 ⟨rfl, hb0⟩
      have hb2 := below_ext hb1 hb0
      clear hb0
      go_wp2
      go_ret
      exact ⟨rfl, hb2⟩
    | true =>
      have HK : Hid (okB P Q b = true) := hk
      cases hm : memG P Q y with
      | false =>
        obtain rfl : r = false := by rw [← hr', chkB, hm]; simp
        have HM : Hid (memG P Q y = false) := hm
        have HC : Hid (conG P Q G y = false) := Lib.hid (by rw [conG, hval, hm]; rfl)
        clear hr' hr hval hk hm
        go_enter Tryd.func41, Tryd.ntmps41
        go_wp2_with fail
        rw [HW.out]
        go_wp2_with fail
        refine (valid_any P Q G true HVL hQ _ HV0).mono ?_
        rintro e w1 ⟨rfl, hb0⟩
        have hb1 := below_ext (HB.out) hb0
        have HV1 := Lib.hid (HV0.out.below hb0)
        have HX1 := Lib.hid (HX0.out.below hb0)
        have HP1 := Lib.hid (HP0.out.below hb0)
        have HA1 := Lib.hid (HA0.out.below hb0)
        have HZ1 := Lib.hid (HZ0.out.below hb0)
        clear hb0
        obtain ⟨c0, c1, c2⟩ := HX1.out
        obtain ⟨d0, d1, d2⟩ := HP1.out
        go_wp2_with fail
        refine (kbase_any P Q G b true HVL HK _ HV1).mono ?_
        rintro e w2 ⟨rfl, hb0⟩
        have hb2 := below_ext hb1 hb0
        have HV2 := Lib.hid (HV1.out.below hb0)
        have HX2 := Lib.hid (HX1.out.below hb0)
        have HP2 := Lib.hid (HP1.out.below hb0)
        have HA2 := Lib.hid (HA1.out.below hb0)
        have HZ2 := Lib.hid (HZ1.out.below hb0)
        clear c0 c1 c2 d0 d1 d2 hb0
        obtain ⟨c0, c1, c2⟩ := HX2.out
        obtain ⟨d0, d1, d2⟩ := HP2.out
        go_wp2_with fail
        refine (contains_any P Q G y false HC hQ _ HV2).mono ?_
        rintro e w3 ⟨rfl, hb0⟩
        have hb3 := below_ext hb2 hb0
        clear hb0
        go_wp2
        go_ret
        exact ⟨rfl, hb3⟩
      | true =>
        have HM : Hid (memG P Q y = true) := hm
        have HC : Hid (conG P Q G y = true) := Lib.hid (by rw [conG, hval, hm]; rfl)
        cases hf : formB P Q na a0 C nz z0 with
        | false =>
          obtain rfl : r = false := by rw [← hr', chkB, hf]; simp
          have HF : Hid (formB P Q na a0 C nz z0 = false) := hf
          clear hr' hr hval hk hm hf
          go_enter Tryd.func41, Tryd.ntmps41
          go_wp2_with fail
          rw [HW.out]
          go_wp2_with fail
          refine (valid_any P Q G true HVL hQ _ HV0).mono ?_
          rintro e w1 ⟨rfl, hb0⟩
          have hb1 := below_ext (HB.out) hb0
          have HV1 := Lib.hid (HV0.out.below hb0)
          have HX1 := Lib.hid (HX0.out.below hb0)
          have HP1 := Lib.hid (HP0.out.below hb0)
          have HA1 := Lib.hid (HA0.out.below hb0)
          have HZ1 := Lib.hid (HZ0.out.below hb0)
          clear hb0
          obtain ⟨c0, c1, c2⟩ := HX1.out
          obtain ⟨d0, d1, d2⟩ := HP1.out
          go_wp2_with fail
          refine (kbase_any P Q G b true HVL HK _ HV1).mono ?_
          rintro e w2 ⟨rfl, hb0⟩
          have hb2 := below_ext hb1 hb0
          have HV2 := Lib.hid (HV1.out.below hb0)
          have HX2 := Lib.hid (HX1.out.below hb0)
          have HP2 := Lib.hid (HP1.out.below hb0)
          have HA2 := Lib.hid (HA1.out.below hb0)
          have HZ2 := Lib.hid (HZ1.out.below hb0)
          clear c0 c1 c2 d0 d1 d2 hb0
          obtain ⟨c0, c1, c2⟩ := HX2.out
          obtain ⟨d0, d1, d2⟩ := HP2.out
          go_wp2_with fail
          refine (contains_any P Q G y true HC hQ _ HV2).mono ?_
          rintro e w3 ⟨rfl, hb0⟩
          have hb3 := below_ext hb2 hb0
          have HV3 := Lib.hid (HV2.out.below hb0)
          have HX3 := Lib.hid (HX2.out.below hb0)
          have HP3 := Lib.hid (HP2.out.below hb0)
          have HA3 := Lib.hid (HA2.out.below hb0)
          have HZ3 := Lib.hid (HZ2.out.below hb0)
          clear c0 c1 c2 d0 d1 d2 hb0
          obtain ⟨c0, c1, c2⟩ := HX3.out
          obtain ⟨d0, d1, d2⟩ := HP3.out
          go_wp2_with fail
          refine (formed_any P Q G pa na ca a0 C pz nz cz z0 false HF HVL hQ _ HV3 HA3 HZ3).mono ?_
          rintro e w4 ⟨rfl, hb0⟩
          have hb4 := below_ext hb3 hb0
          clear hb0
          go_wp2
          go_ret
          exact ⟨rfl, hb4⟩
        | true =>
          have HF : Hid (formB P Q na a0 C nz z0 = true) := hf
          obtain ⟨rfl, rfl, hma, hC, hZ0⟩ := formB_parts hf
          obtain ⟨ba, oa, rfl, hca⟩ := hA.out rfl
          obtain ⟨bz, oz, rfl, hcz⟩ := hZ.out rfl
          have hbm := okB_mem hk
          have Cl := expB_lo hC
          have Cu := expB_hi hC
          have Zl := expB_lo hZ0
          have Zu := expB_hi hZ0
          obtain ⟨p1, hp1⟩ : ∃ p1, pw b (z0 % Q) P = p1 := ⟨_, rfl⟩
          obtain ⟨p2, hp2'⟩ : ∃ p2, pw y (C % Q) P = p2 := ⟨_, rfl⟩
          obtain ⟨p3, hp3⟩ : ∃ p3, a0 * p2 % P = p3 := ⟨_, rfl⟩
          have m2 : memG P Q p2 = true := by rw [← hp2']; exact mem_pw hp2 (by omega) (Int.emod_nonneg _ (by omega)) hm
          have HCb : Hid (chkG P Q G [b] = 0) := Lib.hid (chkG_ok hval (by simp [hbm]))
          have HCy : Hid (chkG P Q G [y] = 0) := Lib.hid (chkG_ok hval (by simp [hm]))
          have HCm : Hid (chkG P Q G [a0, p2] = 0) := Lib.hid (chkG_ok hval (by simp [hma, m2]))
          have HG : Hid (givE P Q G b y = 0) := Lib.hid (by rw [givE, hval, hk, hm]; rfl)
          have heq : ((p1 : Int) == p3) = r := by rw [← hr', chkB, hval, hk, hm, hf, hp1, hp2', hp3]; rfl
          have H1 := Lib.hid hp1
          have H2 := Lib.hid hp2'
          have H3 := Lib.hid hp3
          have bl := memG_lo hbm
          have bu := memG_hi hbm
          have yl := memG_lo hm
          have yu := memG_hi hm
          have al := memG_lo hma
          have au := memG_hi hma
          have l2 := memG_lo m2
          have u2 := memG_hi m2
          have HCA : Hid (w.cell? ⟨ba, oa, none⟩ = some (.int .i64 a0)) := Lib.hid hca
          have HCZ : Hid (w.cell? ⟨bz, oz, none⟩ = some (.int .i64 z0)) := Lib.hid hcz
          clear hr' hr hval hk hm hf hma hC hZ0 hca hcz hbm hp1 hp2' hp3 m2
          go_enter Tryd.func41, Tryd.ntmps41
          go_wp2_with fail
          rw [HW.out]
          go_wp2_with fail
          refine (valid_any P Q G true HVL hQ _ HV0).mono ?_
          rintro e w1 ⟨rfl, hb0⟩
          have hb1 := below_ext (HB.out) hb0
          have HV1 := Lib.hid (HV0.out.below hb0)
          have HX1 := Lib.hid (HX0.out.below hb0)
          have HP1 := Lib.hid (HP0.out.below hb0)
          have HA1 := Lib.hid (HA0.out.below hb0)
          have HZ1 := Lib.hid (HZ0.out.below hb0)
          clear hb0
          obtain ⟨c0, c1, c2⟩ := HX1.out
          obtain ⟨d0, d1, d2⟩ := HP1.out
          go_wp2_with fail
          refine (kbase_any P Q G b true HVL HK _ HV1).mono ?_
          rintro e w2 ⟨rfl, hb0⟩
          have hb2 := below_ext hb1 hb0
          have HV2 := Lib.hid (HV1.out.below hb0)
          have HX2 := Lib.hid (HX1.out.below hb0)
          have HP2 := Lib.hid (HP1.out.below hb0)
          have HA2 := Lib.hid (HA1.out.below hb0)
          have HZ2 := Lib.hid (HZ1.out.below hb0)
          clear c0 c1 c2 d0 d1 d2 hb0
          obtain ⟨c0, c1, c2⟩ := HX2.out
          obtain ⟨d0, d1, d2⟩ := HP2.out
          go_wp2_with fail
          refine (contains_any P Q G y true HC hQ _ HV2).mono ?_
          rintro e w3 ⟨rfl, hb0⟩
          have hb3 := below_ext hb2 hb0
          have HV3 := Lib.hid (HV2.out.below hb0)
          have HX3 := Lib.hid (HX2.out.below hb0)
          have HP3 := Lib.hid (HP2.out.below hb0)
          have HA3 := Lib.hid (HA2.out.below hb0)
          have HZ3 := Lib.hid (HZ2.out.below hb0)
          clear c0 c1 c2 d0 d1 d2 hb0
          obtain ⟨c0, c1, c2⟩ := HX3.out
          obtain ⟨d0, d1, d2⟩ := HP3.out
          go_wp2_with fail
          refine (formed_any P Q G (some ⟨ba, oa, none⟩) 1 ca a0 C (some ⟨bz, oz, none⟩) 1 cz z0 true HF HVL hQ _ HV3 HA3 HZ3).mono ?_
          rintro e w4 ⟨rfl, hb0⟩
          have hb4 := below_ext hb3 hb0
          have HV4 := Lib.hid (HV3.out.below hb0)
          have HX4 := Lib.hid (HX3.out.below hb0)
          have HP4 := Lib.hid (HP3.out.below hb0)
          have HA4 := Lib.hid (HA3.out.below hb0)
          have HZ4 := Lib.hid (HZ3.out.below hb0)
          clear c0 c1 c2 d0 d1 d2 hb0
          obtain ⟨c0, c1, c2⟩ := HX4.out
          obtain ⟨d0, d1, d2⟩ := HP4.out
          clear c0 c1 c2 d0 d1 d2
          have HA4a : Hid (w4.cell? ⟨ba, oa, none⟩ = some (.int .i64 a0)) := Lib.hid (cell_belowK HCA.out hb4)
          have HZ4a : Hid (w4.cell? ⟨bz, oz, none⟩ = some (.int .i64 z0)) := Lib.hid (cell_belowK HCZ.out hb4)
          clear HA4 HZ4
          have HA4 := HA4a
          have HZ4 := HZ4a
          have hSa := Lib.hid (show ∀ v1 v2 : World, Hid (Below w4.heap.size w4 v1) → Below v1.heap.size v1 v2 → (v2.cell? ⟨w.heap.size, 0, none⟩ = some (.int .i64 P) ∧ v2.cell? ⟨w.heap.size, 1, none⟩ = some (.int .i64 Q) ∧ v2.cell? ⟨w.heap.size, 2, none⟩ = some (.int .i64 G) ∧ v2.cell? ⟨w.heap.size + 1, 0, none⟩ = some (.slice (some ⟨ba, oa, none⟩) 1 ca) ∧ v2.cell? ⟨w.heap.size + 1, 1, none⟩ = some (.int .i64 C) ∧ v2.cell? ⟨w.heap.size + 1, 2, none⟩ = some (.slice (some ⟨bz, oz, none⟩) 1 cz) ∧ v2.cell? ⟨ba, oa, none⟩ = some (.int .i64 a0) ∧ v2.cell? ⟨bz, oz, none⟩ = some (.int .i64 z0) ∧ Hid (Below w4.heap.size w4 v2)) from fun v1 v2 h1 h2 => have h3 := below_ext h1.out h2; ⟨(HX4.out.below h3).1, (HX4.out.below h3).2.1, (HX4.out.below h3).2.2, (HP4.out.below h3).1, (HP4.out.below h3).2.1, (HP4.out.below h3).2.2, cell_belowK HA4.out h3, cell_belowK HZ4.out h3, Lib.hid h3⟩)
          have hRa : Hid (Below w4.heap.size w4 w4) := Lib.hid (Below.refl _ _)
          have hVa := Lib.hid (show ∀ v1 : World, Hid (Below w4.heap.size w4 v1) → Hid (Vars v1) from fun v1 h1 => Lib.hid (HV4.out.below h1.out))
          go_wp2_with fail
          go_region_held3 (fun w' => w'.cell? ⟨w.heap.size, 0, none⟩ = some (.int .i64 P) ∧ w'.cell? ⟨w.heap.size, 1, none⟩ = some (.int .i64 Q) ∧ w'.cell? ⟨w.heap.size, 2, none⟩ = some (.int .i64 G) ∧ w'.cell? ⟨w.heap.size + 1, 0, none⟩ = some (.slice (some ⟨ba, oa, none⟩) 1 ca) ∧ w'.cell? ⟨w.heap.size + 1, 1, none⟩ = some (.int .i64 C) ∧ w'.cell? ⟨w.heap.size + 1, 2, none⟩ = some (.slice (some ⟨bz, oz, none⟩) 1 cz) ∧ w'.cell? ⟨ba, oa, none⟩ = some (.int .i64 a0) ∧ w'.cell? ⟨bz, oz, none⟩ = some (.int .i64 z0) ∧ Hid (Below w4.heap.size w4 w'))
            (first | exact hSa.out _ _ hRa ((Below.refl w4.heap.size w4).drew) | (go_split_ands; exact hSa.out _ _ (by assumption) hbA) | go_keep)
            (first
              | (go_at_call 38; (refine (gpow_ok P Q G b z0 p1 HCb H1 (by omega) (by omega) _ ?_).mono ?_); rotate_left; rintro e wA ⟨rfl, hbA⟩; rotate_left; (go_split_ands; exact hVa.out _ (by assumption))))
          rename_i hHeld
          obtain ⟨e0, e1, e2, e3, e4, e5, e6, e7, hbQ⟩ := hHeld
          have hb5 := below_ext hb4 hbQ.out
          have HV5 := Lib.hid (HV4.out.below hbQ.out)
          have HX5 := Lib.hid (HX4.out.below hbQ.out)
          have HP5 := Lib.hid (HP4.out.below hbQ.out)
          have HA5 := Lib.hid (cell_belowK HA4.out hbQ.out)
          have HZ5 := Lib.hid (cell_belowK HZ4.out hbQ.out)
          obtain ⟨w5, hw5⟩ : ∃ w5, wA = w5 := ⟨_, rfl⟩
          subst hw5
          obtain ⟨c0, c1, c2⟩ := HX5.out
          obtain ⟨d0, d1, d2⟩ := HP5.out
          clear e0 e1 e2 e3 e4 e5 e6 e7
          go_wp2_with fail
          refine (gpow_ok P Q G y C p2 HCy H2 (by omega) (by omega) _ HV5).mono ?_
          rintro e w6 ⟨rfl, hb0⟩
          have hb6 := below_ext hb5 hb0
          have HV6 := Lib.hid (HV5.out.below hb0)
          have HX6 := Lib.hid (HX5.out.below hb0)
          have HP6 := Lib.hid (HP5.out.below hb0)
          have HA6 := Lib.hid (cell_belowK HA5.out hb0)
          have HZ6 := Lib.hid (cell_belowK HZ5.out hb0)
          clear hb0 c0 c1 c2 d0 d1 d2
          have hSb := Lib.hid (show ∀ v1 v2 : World, Hid (Below w6.heap.size w6 v1) → Below v1.heap.size v1 v2 → (v2.cell? ⟨w.heap.size, 0, none⟩ = some (.int .i64 P) ∧ v2.cell? ⟨w.heap.size, 1, none⟩ = some (.int .i64 Q) ∧ v2.cell? ⟨w.heap.size, 2, none⟩ = some (.int .i64 G) ∧ v2.cell? ⟨w.heap.size + 1, 0, none⟩ = some (.slice (some ⟨ba, oa, none⟩) 1 ca) ∧ v2.cell? ⟨w.heap.size + 1, 1, none⟩ = some (.int .i64 C) ∧ v2.cell? ⟨w.heap.size + 1, 2, none⟩ = some (.slice (some ⟨bz, oz, none⟩) 1 cz) ∧ v2.cell? ⟨ba, oa, none⟩ = some (.int .i64 a0) ∧ v2.cell? ⟨bz, oz, none⟩ = some (.int .i64 z0) ∧ Hid (Below w6.heap.size w6 v2)) from fun v1 v2 h1 h2 => have h3 := below_ext h1.out h2; ⟨(HX6.out.below h3).1, (HX6.out.below h3).2.1, (HX6.out.below h3).2.2, (HP6.out.below h3).1, (HP6.out.below h3).2.1, (HP6.out.below h3).2.2, cell_belowK HA6.out h3, cell_belowK HZ6.out h3, Lib.hid h3⟩)
          have hRb : Hid (Below w6.heap.size w6 w6) := Lib.hid (Below.refl _ _)
          have hVb := Lib.hid (show ∀ v1 : World, Hid (Below w6.heap.size w6 v1) → Hid (Vars v1) from fun v1 h1 => Lib.hid (HV6.out.below h1.out))
          go_wp2_with fail
          go_region_held3 (fun w' => w'.cell? ⟨w.heap.size, 0, none⟩ = some (.int .i64 P) ∧ w'.cell? ⟨w.heap.size, 1, none⟩ = some (.int .i64 Q) ∧ w'.cell? ⟨w.heap.size, 2, none⟩ = some (.int .i64 G) ∧ w'.cell? ⟨w.heap.size + 1, 0, none⟩ = some (.slice (some ⟨ba, oa, none⟩) 1 ca) ∧ w'.cell? ⟨w.heap.size + 1, 1, none⟩ = some (.int .i64 C) ∧ w'.cell? ⟨w.heap.size + 1, 2, none⟩ = some (.slice (some ⟨bz, oz, none⟩) 1 cz) ∧ w'.cell? ⟨ba, oa, none⟩ = some (.int .i64 a0) ∧ w'.cell? ⟨bz, oz, none⟩ = some (.int .i64 z0) ∧ Hid (Below w6.heap.size w6 w'))
            (first | exact hSb.out _ _ hRb ((Below.refl w6.heap.size w6).drew) | (go_split_ands; exact hSb.out _ _ (by assumption) hbA) | go_keep)
            (first
              | (go_at_call 93; (refine (gmul_ok P Q G a0 p2 p3 HCm H3 hQ _ ?_).mono ?_); rotate_left; rintro e wA ⟨rfl, hbA⟩; rotate_left; (go_split_ands; exact hVb.out _ (by assumption))))
          rename_i hHeld
          obtain ⟨e0, e1, e2, e3, e4, e5, e6, e7, hbQ⟩ := hHeld
          have hb7 := below_ext hb6 hbQ.out
          have HV7 := Lib.hid (HV6.out.below hbQ.out)
          have HX7 := Lib.hid (HX6.out.below hbQ.out)
          have HP7 := Lib.hid (HP6.out.below hbQ.out)
          have HA7 := Lib.hid (cell_belowK HA6.out hbQ.out)
          have HZ7 := Lib.hid (cell_belowK HZ6.out hbQ.out)
          obtain ⟨w7, hw7⟩ : ∃ w7, wA = w7 := ⟨_, rfl⟩
          subst hw7
          go_wp2
          go_ret
          exact ⟨rfl, hb7⟩
end Go.Proofs.YtdlhodbiaoafiaaDoor
namespace Go.Proofs.YtdlhodbiaoafiaaDoor
open Go.RowKit SpM
set_option linter.unusedVariables false
set_option linter.unusedSimpArgs false
set_option maxRecDepth 100000
theorem one_of_sl {w : World} {A : Option Addr} {al : List Int} {na : Nat} (h : Sl w A al) (hn : al.length = na) : One w A na (al.getD 0 0) := fun e => by
  obtain ⟨b, o, e1, h1⟩ := h 0 (by omega)
  exact ⟨b, o, e1, by simpa using h1⟩
/-- which proofs are verified. -/
def verK (P Q G b y C : Int) (lb al zs : List Int) : Bool :=
  chkB P Q G b y al.length (al.getD 0 0) C zs.length (zs.getD 0 0) && (labB lb && (chalK P Q G b y (al.getD 0 0) lb == C))
set_option maxHeartbeats 6400000 in
theorem kchal_bad (P Q G b y a0 : Int) (s : ByteArray) (hs : s.size ≤ 1000) (hr : Hid (labB (bys s) = false)) (w : World) :
    Calls Tryd.prog 96 #[gv P Q G, .int .i64 b, .int .i64 y, .int .i64 a0, .string s] w fun e w' =>  e = .returned (.tuple #[.int .i64 0, .int .i64 1]) ∧ Below w.heap.size w w' := by
  obtain ⟨W, hW⟩ : ∃ W, w.alloc (gObj P Q G) = W := ⟨_, rfl⟩
  have HBX : Hid (Below w.heap.size w W) := Lib.hid (by rw [← hW]; exact below_box0 _ _)
  have HW := Lib.hid hW
  clear hW
  go_enter Tryd.func96, Tryd.ntmps96
  go_upto_region 1 with (fail)
  rw [HW.out]
  clear HW
  go_wp2_with fail
  refine (tnew_bad s hs hr _).mono ?_
  rintro e w1 ⟨rfl, hb1⟩
  have HB1 := Lib.hid (below_ext HBX.out hb1)
  clear hb1
  rw [show TrE (zer 32) 0 1 = .tuple #[.agg (tcs (zer 32) 0), .int .i64 1] from rfl]
  go_upto_region 2 with ((with_reducible show wpList _ _ _ (⟨none, _, _, _, _, _⟩ :: _) _ _); refine wpList_store_row rfl 125 _ _ rfl w1.heap.size (tcs (zer 32) 0) rfl rfl _ _ (heap_alloc_new _ _) (tr_info rfl) (tcs_sz (h := zer 32) (c := 0) rfl rfl) (tcs_one _ _) ?_)
  rw [World.setRow_alloc_new]
  try simp only [Act.put]
  have hBF := below_ext HB1.out (below_box0 w1 (.cells (tcs (zer 32) 0) 125))
  go_wp2
  go_ret2
  exact ⟨rfl, hBF⟩
set_option maxHeartbeats 6400000 in
theorem kver_f (P Q G b y : Int) (A : Option Addr) (al : List Int) (na ca : Nat) (C : Int) (Z : Option Addr) (zs : List Int) (nz cz : Nat) (han : Hid (al.length = na)) (hzn : Hid (zs.length = nz)) (hQ : Q < 9223372036854775808) (s : ByteArray) (hs : s.size ≤ 1000) (HC : Hid (chkB P Q G b y na (al.getD 0 0) C nz (zs.getD 0 0) = false)) (w : World) (hv : Hid (Vars w)) (hd : Hid (VarsD w)) (hA : Hid (Sl w A al)) (hZ : Hid (Sl w Z zs)) :
    Calls Tryd.prog 45 #[gv P Q G, .int .i64 b, .int .i64 y, .string s, prvL A na ca C Z nz cz] w fun e' w' => e' = .returned (.bool false) ∧ Below w.heap.size w w' := by
  obtain ⟨w0, hW⟩ : ∃ W, ((w.alloc (gObj P Q G)).alloc (prObjL A na ca C Z nz cz)) = W := ⟨_, rfl⟩
  have HBw : Hid (Below w.heap.size w w0) := Lib.hid (by rw [← hW]; exact below_two (Below.refl _ _))
  have hc : w0.cell? ⟨w.heap.size, 0, none⟩ = some (.int .i64 P) ∧ w0.cell? ⟨w.heap.size, 1, none⟩ = some (.int .i64 Q) ∧ w0.cell? ⟨w.heap.size, 2, none⟩ = some (.int .i64 G) ∧ w0.cell? ⟨w.heap.size + 1, 0, none⟩ = some (.slice A na ca) ∧ w0.cell? ⟨w.heap.size + 1, 1, none⟩ = some (.int .i64 C) ∧ w0.cell? ⟨w.heap.size + 1, 2, none⟩ = some (.slice Z nz cz) := by rw [← hW]; exact ⟨cell_below (allocs_cell (by simp) (by rfl)) (below_box0 _ _), cell_below (allocs_cell (by simp) (by rfl)) (below_box0 _ _), cell_below (allocs_cell (by simp) (by rfl)) (below_box0 _ _), allocs_cell (by simp) (by rfl), allocs_cell (by simp) (by rfl), allocs_cell (by simp) (by rfl)⟩
  have kC := Lib.hid (show ∀ u : World, Hid (Below w0.heap.size w0 u) → u.cell? ⟨w.heap.size, 0, none⟩ = some (.int .i64 P) ∧ u.cell? ⟨w.heap.size, 1, none⟩ = some (.int .i64 Q) ∧ u.cell? ⟨w.heap.size, 2, none⟩ = some (.int .i64 G) ∧ u.cell? ⟨w.heap.size + 1, 0, none⟩ = some (.slice A na ca) ∧ u.cell? ⟨w.heap.size + 1, 1, none⟩ = some (.int .i64 C) ∧ u.cell? ⟨w.heap.size + 1, 2, none⟩ = some (.slice Z nz cz) from fun u h => ⟨cell_below hc.1 h.out, cell_below hc.2.1 h.out, cell_below hc.2.2.1 h.out, cell_below hc.2.2.2.1 h.out, cell_below hc.2.2.2.2.1 h.out, cell_below hc.2.2.2.2.2 h.out⟩)
  have kV := Lib.hid (show ∀ u : World, Hid (Below w0.heap.size w0 u) → Hid (Vars u) from fun u h => Lib.hid ((hv.out.below) (below_ext HBw.out h.out)))
  have kO := Lib.hid (show ∀ u : World, Hid (Below w0.heap.size w0 u) → Hid (One u A na (al.getD 0 0)) from fun u h => Lib.hid (((fun hb => one_of_sl (hA.out.below hb) han.out)) (below_ext HBw.out h.out)))
  have kP := Lib.hid (show ∀ u : World, Hid (Below w0.heap.size w0 u) → Hid (One u Z nz (zs.getD 0 0)) from fun u h => Lib.hid (((fun hb => one_of_sl (hZ.out.below hb) hzn.out)) (below_ext HBw.out h.out)))
  have HB_0 : Hid (Below w0.heap.size w0 w0) := Lib.hid (Below.refl _ _)
  have HW := Lib.hid hW
  clear hW hc hv hA hZ
  go_enter Tryd.func45, Tryd.ntmps45
  go_wp2_with fail
  rw [HW.out]
  obtain ⟨zc0, zc1, zc2, zc3, zc4, zc5⟩ := kC.out _ HB_0
  go_wp2_with fail
  refine (check_any16 P Q G b y A na ca (al.getD 0 0) C Z nz cz (zs.getD 0 0) false HC hQ _ (kV.out _ HB_0) (kO.out _ HB_0) (kP.out _ HB_0)).mono ?_
  rintro e w1 ⟨rfl, hb0⟩
  have HB_1 := Lib.hid (below_ext HB_0.out hb0)
  clear zc0 zc1 zc2 zc3 zc4 zc5
  clear hb0
  obtain ⟨zc0, zc1, zc2, zc3, zc4, zc5⟩ := kC.out _ HB_1
  have hbF := below_ext HBw.out HB_1.out
  go_wp2
  go_ret
  exact ⟨rfl, hbF⟩
set_option maxHeartbeats 6400000 in
theorem kver_l (P Q G b y : Int) (A : Option Addr) (al : List Int) (na ca : Nat) (C : Int) (Z : Option Addr) (zs : List Int) (nz cz : Nat) (han : Hid (al.length = na)) (hzn : Hid (zs.length = nz)) (hQ : Q < 9223372036854775808) (s : ByteArray) (hs : s.size ≤ 1000) (h1a : na = 1) (HC : Hid (chkB P Q G b y na (al.getD 0 0) C nz (zs.getD 0 0) = true)) (hr : Hid (labB (bys s) = false)) (w : World) (hv : Hid (Vars w)) (hd : Hid (VarsD w)) (hA : Hid (Sl w A al)) (hZ : Hid (Sl w Z zs)) :
    Calls Tryd.prog 45 #[gv P Q G, .int .i64 b, .int .i64 y, .string s, prvL A na ca C Z nz cz] w fun e' w' => e' = .returned (.bool false) ∧ Below w.heap.size w w' := by
  obtain ⟨ba, oa, hAe, hA0⟩ := hA.out 0 (by rw [han.out]; omega)
  rw [Nat.add_zero] at hA0
  obtain ⟨a0, ha0⟩ : ∃ x, al.getD 0 0 = x := ⟨_, rfl⟩
  subst hAe
  rw [ha0] at hA0 HC 
  have HA0 := Lib.hid hA0
  have HO : Hid (One w (some ⟨ba, oa, none⟩) 1 a0) := Lib.hid (by rw [← ha0, ← h1a]; exact one_of_sl hA.out han.out)
  clear hA0 ha0
  subst h1a
  obtain ⟨w0, hW⟩ : ∃ W, ((w.alloc (gObj P Q G)).alloc (prObjL (some ⟨ba, oa, none⟩) 1 ca C Z nz cz)) = W := ⟨_, rfl⟩
  have HBw : Hid (Below w.heap.size w w0) := Lib.hid (by rw [← hW]; exact below_two (Below.refl _ _))
  have hc : w0.cell? ⟨w.heap.size, 0, none⟩ = some (.int .i64 P) ∧ w0.cell? ⟨w.heap.size, 1, none⟩ = some (.int .i64 Q) ∧ w0.cell? ⟨w.heap.size, 2, none⟩ = some (.int .i64 G) ∧ w0.cell? ⟨w.heap.size + 1, 0, none⟩ = some (.slice (some ⟨ba, oa, none⟩) 1 ca) ∧ w0.cell? ⟨w.heap.size + 1, 1, none⟩ = some (.int .i64 C) ∧ w0.cell? ⟨w.heap.size + 1, 2, none⟩ = some (.slice Z nz cz) := by rw [← hW]; exact ⟨cell_below (allocs_cell (by simp) (by rfl)) (below_box0 _ _), cell_below (allocs_cell (by simp) (by rfl)) (below_box0 _ _), cell_below (allocs_cell (by simp) (by rfl)) (below_box0 _ _), allocs_cell (by simp) (by rfl), allocs_cell (by simp) (by rfl), allocs_cell (by simp) (by rfl)⟩
  have kC := Lib.hid (show ∀ u : World, Hid (Below w0.heap.size w0 u) → u.cell? ⟨w.heap.size, 0, none⟩ = some (.int .i64 P) ∧ u.cell? ⟨w.heap.size, 1, none⟩ = some (.int .i64 Q) ∧ u.cell? ⟨w.heap.size, 2, none⟩ = some (.int .i64 G) ∧ u.cell? ⟨w.heap.size + 1, 0, none⟩ = some (.slice (some ⟨ba, oa, none⟩) 1 ca) ∧ u.cell? ⟨w.heap.size + 1, 1, none⟩ = some (.int .i64 C) ∧ u.cell? ⟨w.heap.size + 1, 2, none⟩ = some (.slice Z nz cz) from fun u h => ⟨cell_below hc.1 h.out, cell_below hc.2.1 h.out, cell_below hc.2.2.1 h.out, cell_below hc.2.2.2.1 h.out, cell_below hc.2.2.2.2.1 h.out, cell_below hc.2.2.2.2.2 h.out⟩)
  have kV := Lib.hid (show ∀ u : World, Hid (Below w0.heap.size w0 u) → Hid (Vars u) from fun u h => Lib.hid ((hv.out.below) (below_ext HBw.out h.out)))
  have kD := Lib.hid (show ∀ u : World, Hid (Below w0.heap.size w0 u) → Hid (VarsD u) from fun u h => Lib.hid ((hd.out.below) (below_ext HBw.out h.out)))
  have kO := Lib.hid (show ∀ u : World, Hid (Below w0.heap.size w0 u) → Hid (One u (some ⟨ba, oa, none⟩) 1 a0) from fun u h => Lib.hid ((HO.out.below) (below_ext HBw.out h.out)))
  have kP := Lib.hid (show ∀ u : World, Hid (Below w0.heap.size w0 u) → Hid (One u Z nz (zs.getD 0 0)) from fun u h => Lib.hid (((fun hb => one_of_sl (hZ.out.below hb) hzn.out)) (below_ext HBw.out h.out)))
  have k0x := Lib.hid (show ∀ u : World, Hid (Below w0.heap.size w0 u) → Hid (u.cell? ⟨ba, oa, none⟩ = some (.int .i64 a0)) from fun u h => Lib.hid ((cell_below HA0.out) (below_ext HBw.out h.out)))
  have HB_0 : Hid (Below w0.heap.size w0 w0) := Lib.hid (Below.refl _ _)
  have HW := Lib.hid hW
  clear hW hc hv hd hA hZ HA0 HO
  have k0 := Lib.hid (show ∀ u : World, Hid (Below w0.heap.size w0 u) → u.cell? ⟨ba, oa, none⟩ = some (.int .i64 a0) from fun u h => (k0x.out _ h).out)
  go_enter Tryd.func45, Tryd.ntmps45
  go_wp2_with fail
  rw [HW.out]
  obtain ⟨zc0, zc1, zc2, zc3, zc4, zc5⟩ := kC.out _ HB_0
  go_wp2_with fail
  refine (check_any16 P Q G b y (some ⟨ba, oa, none⟩) 1 ca a0 C Z nz cz (zs.getD 0 0) true HC hQ _ (kV.out _ HB_0) (kO.out _ HB_0) (kP.out _ HB_0)).mono ?_
  rintro e w1 ⟨rfl, hb0⟩
  have HB_1 := Lib.hid (below_ext HB_0.out hb0)
  clear zc0 zc1 zc2 zc3 zc4 zc5
  clear hb0
  obtain ⟨zc0, zc1, zc2, zc3, zc4, zc5⟩ := kC.out _ HB_1
  go_wp2_with fail
  clear zc0 zc1 zc2 zc3 zc4 zc5
  have hS := Lib.hid (show ∀ u1 u2 : World, Hid (Below w0.heap.size w0 u1) → Below u1.heap.size u1 u2 → (u2.cell? ⟨w.heap.size, 0, none⟩ = some (.int .i64 P) ∧ u2.cell? ⟨w.heap.size, 1, none⟩ = some (.int .i64 Q) ∧ u2.cell? ⟨w.heap.size, 2, none⟩ = some (.int .i64 G) ∧ u2.cell? ⟨w.heap.size + 1, 0, none⟩ = some (.slice (some ⟨ba, oa, none⟩) 1 ca) ∧ u2.cell? ⟨w.heap.size + 1, 1, none⟩ = some (.int .i64 C) ∧ u2.cell? ⟨w.heap.size + 1, 2, none⟩ = some (.slice Z nz cz) ∧ u2.cell? ⟨ba, oa, none⟩ = some (.int .i64 a0) ∧ Hid (Below w0.heap.size w0 u2)) from fun u1 u2 h1 h2 => by
    have h3 := Lib.hid (below_ext h1.out h2)
    obtain ⟨y0, y1, y2, y3, y4, y5⟩ := kC.out _ h3
    exact ⟨y0, y1, y2, y3, y4, y5, k0.out _ h3, h3⟩)
  refine wp_region_T (S := fun w' => w'.cell? ⟨w.heap.size, 0, none⟩ = some (.int .i64 P) ∧ w'.cell? ⟨w.heap.size, 1, none⟩ = some (.int .i64 Q) ∧ w'.cell? ⟨w.heap.size, 2, none⟩ = some (.int .i64 G) ∧ w'.cell? ⟨w.heap.size + 1, 0, none⟩ = some (.slice (some ⟨ba, oa, none⟩) 1 ca) ∧ w'.cell? ⟨w.heap.size + 1, 1, none⟩ = some (.int .i64 C) ∧ w'.cell? ⟨w.heap.size + 1, 2, none⟩ = some (.slice Z nz cz) ∧ w'.cell? ⟨ba, oa, none⟩ = some (.int .i64 a0) ∧ Hid (Below w0.heap.size w0 w')) (E := []) (by kernel_rfl) (hS.out _ _ HB_1 ((Below.refl _ _).drew)) (fun hHeld => ?_)
  refine wpT_take (i := 0) (oi := _) (v := ?_) rfl (by kernel_rfl) (by kernel_rfl) (by kernel_rfl) (by kernel_rfl) (fun _ _ _ h => h) (Or.inl ⟨by rfl, ?_⟩) (by assumption) ?_
  rotate_left; (intro wS hSw; (try dsimp only at hSw); go_simp <;> with_reducible rfl)
  try simp only [List.getElem_toArray, List.getElem_cons_zero, List.getElem_cons_succ, Act.put, List.setIfInBounds_toArray, List.set_cons_zero, List.set_cons_succ]
  refine wpT_take (i := 1) (oi := _) (v := ?_) rfl (by kernel_rfl) (by kernel_rfl) (by kernel_rfl) (by kernel_rfl) (fun _ _ _ h => h) (Or.inl ⟨by rfl, ?_⟩) (by assumption) ?_
  rotate_left; (intro wS hSw; (try dsimp only at hSw); go_simp <;> with_reducible rfl)
  try simp only [List.getElem_toArray, List.getElem_cons_zero, List.getElem_cons_succ, Act.put, List.setIfInBounds_toArray, List.set_cons_zero, List.set_cons_succ]
  refine wpT_take (i := 2) (oi := _) (v := ?_) rfl (by kernel_rfl) (by kernel_rfl) (by kernel_rfl) (by kernel_rfl) (fun _ _ _ h => h) (Or.inl ⟨by rfl, ?_⟩) (by assumption) ?_
  rotate_left; (intro wS hSw; (try dsimp only at hSw); go_simp <;> with_reducible rfl)
  try simp only [List.getElem_toArray, List.getElem_cons_zero, List.getElem_cons_succ, Act.put, List.setIfInBounds_toArray, List.set_cons_zero, List.set_cons_succ]
  refine wpT_take (i := 3) (oi := _) (v := ?_) rfl (by kernel_rfl) (by kernel_rfl) (by kernel_rfl) (by kernel_rfl) (fun _ _ _ h => h) (Or.inl ⟨by rfl, ?_⟩) (by assumption) ?_
  rotate_left; (intro wS hSw; (try dsimp only at hSw); go_simp <;> with_reducible rfl)
  try simp only [List.getElem_toArray, List.getElem_cons_zero, List.getElem_cons_succ, Act.put, List.setIfInBounds_toArray, List.set_cons_zero, List.set_cons_succ]
  refine wpT_take (i := 4) (oi := _) (v := ?_) rfl (by kernel_rfl) (by kernel_rfl) (by kernel_rfl) (by kernel_rfl) (fun _ _ _ h => h) (Or.inl ⟨by rfl, ?_⟩) (by assumption) ?_
  rotate_left; (intro wS hSw; (try dsimp only at hSw); go_simp <;> with_reducible rfl)
  try simp only [List.getElem_toArray, List.getElem_cons_zero, List.getElem_cons_succ, Act.put, List.setIfInBounds_toArray, List.set_cons_zero, List.set_cons_succ]
  refine wpT_take (i := 5) (oi := _) (v := ?_) rfl (by kernel_rfl) (by kernel_rfl) (by kernel_rfl) (by kernel_rfl) (fun _ _ _ h => h) (Or.inl ⟨by rfl, ?_⟩) (by assumption) ?_
  rotate_left; (intro wS hSw; (try dsimp only at hSw); go_simp <;> with_reducible rfl)
  try simp only [List.getElem_toArray, List.getElem_cons_zero, List.getElem_cons_succ, Act.put, List.setIfInBounds_toArray, List.set_cons_zero, List.set_cons_succ]
  refine wpT_take (i := 6) (oi := _) (v := ?_) rfl (by kernel_rfl) (by kernel_rfl) (by kernel_rfl) (by kernel_rfl) (fun _ _ _ h => h) (Or.inl ⟨by rfl, ?_⟩) (by assumption) ?_
  rotate_left; (intro wS hSw; (try dsimp only at hSw); go_simp <;> with_reducible rfl)
  try simp only [List.getElem_toArray, List.getElem_cons_zero, List.getElem_cons_succ, Act.put, List.setIfInBounds_toArray, List.set_cons_zero, List.set_cons_succ]
  refine wpT_take (i := 7) (oi := _) (v := ?_) rfl (by kernel_rfl) (by kernel_rfl) (by kernel_rfl) (by kernel_rfl) (fun _ _ _ h => h) (Or.inl ⟨by rfl, ?_⟩) (by assumption) ?_
  rotate_left; (intro wS hSw; (try dsimp only at hSw); go_simp <;> with_reducible rfl)
  try simp only [List.getElem_toArray, List.getElem_cons_zero, List.getElem_cons_succ, Act.put, List.setIfInBounds_toArray, List.set_cons_zero, List.set_cons_succ]
  refine wpT_one (i := 8) (by kernel_rfl) rfl (fun K hK => ?_)
  go_simp
  (with_reducible refine (kchal_bad P Q G b y a0 s hs hr _).mono ?_); rintro e wA ⟨rfl, hbA⟩
  refine hK.out _ _ ?_ (fun hHeld => ?_)
  · (go_split_ands; exact hS.out _ _ (by assumption) hbA)
  clear hK K
  try simp only [List.getElem_toArray, List.getElem_cons_zero, List.getElem_cons_succ, Act.put, List.setIfInBounds_toArray, List.set_cons_zero, List.set_cons_succ]
  refine wpT_take (i := 9) (oi := _) (v := ?_) rfl (by kernel_rfl) (by kernel_rfl) (by kernel_rfl) (by kernel_rfl) (fun _ _ _ h => h) (Or.inl ⟨by rfl, ?_⟩) (by assumption) ?_
  rotate_left; (intro wS hSw; (try dsimp only at hSw); go_simp <;> with_reducible rfl)
  try simp only [List.getElem_toArray, List.getElem_cons_zero, List.getElem_cons_succ, Act.put, List.setIfInBounds_toArray, List.set_cons_zero, List.set_cons_succ]
  refine wpT_take (i := 10) (oi := _) (v := ?_) rfl (by kernel_rfl) (by kernel_rfl) (by kernel_rfl) (by kernel_rfl) (fun _ _ _ h => h) (Or.inl ⟨by rfl, ?_⟩) (by assumption) ?_
  rotate_left; (intro wS hSw; (try dsimp only at hSw); go_simp <;> with_reducible rfl)
  try simp only [List.getElem_toArray, List.getElem_cons_zero, List.getElem_cons_succ, Act.put, List.setIfInBounds_toArray, List.set_cons_zero, List.set_cons_succ]
  refine wpT_take (i := 11) (oi := _) (v := ?_) rfl (by kernel_rfl) (by kernel_rfl) (by kernel_rfl) (by kernel_rfl) (fun _ _ _ h => h) (Or.inl ⟨by rfl, ?_⟩) (by assumption) ?_
  rotate_left; (intro wS hSw; (try dsimp only at hSw); go_simp <;> with_reducible rfl)
  try simp only [List.getElem_toArray, List.getElem_cons_zero, List.getElem_cons_succ, Act.put, List.setIfInBounds_toArray, List.set_cons_zero, List.set_cons_succ]
  refine wpT_take (i := 12) (oi := _) (v := ?_) rfl (by kernel_rfl) (by kernel_rfl) (by kernel_rfl) (by kernel_rfl) (fun _ _ _ h => h) (Or.inl ⟨by rfl, ?_⟩) (by assumption) ?_
  rotate_left; (intro wS hSw; (try dsimp only at hSw); go_simp <;> with_reducible rfl)
  try simp only [List.getElem_toArray, List.getElem_cons_zero, List.getElem_cons_succ, Act.put, List.setIfInBounds_toArray, List.set_cons_zero, List.set_cons_succ]
  refine wpT_take (i := 13) (oi := _) (v := ?_) rfl (by kernel_rfl) (by kernel_rfl) (by kernel_rfl) (by kernel_rfl) (fun _ _ _ h => h) (Or.inl ⟨by rfl, ?_⟩) (by assumption) ?_
  rotate_left; (intro wS hSw; (try dsimp only at hSw); go_simp <;> with_reducible rfl)
  try simp only [List.getElem_toArray, List.getElem_cons_zero, List.getElem_cons_succ, Act.put, List.setIfInBounds_toArray, List.set_cons_zero, List.set_cons_succ]
  refine wpT_done (by kernel_rfl) ?_ _
  obtain ⟨x0, x1, x2, x3, x4, x5, xa, HBF⟩ := hHeld
  have hbF := below_ext HBw.out HBF.out
  go_wp2
  go_ret
  exact ⟨rfl, hbF⟩
set_option maxHeartbeats 6400000 in
theorem kver_o (P Q G b y : Int) (A : Option Addr) (al : List Int) (na ca : Nat) (C : Int) (Z : Option Addr) (zs : List Int) (nz cz : Nat) (han : Hid (al.length = na)) (hzn : Hid (zs.length = nz)) (hQ : Q < 9223372036854775808) (s : ByteArray) (hs : s.size ≤ 1000) (h1a : na = 1) (HC : Hid (chkB P Q G b y na (al.getD 0 0) C nz (zs.getD 0 0) = true)) (hr : Hid (labB (bys s) = true)) (okg : Hid (okL [P, Q, G])) (okb : Hid (okL [b, y])) (oka : Hid (okL [al.getD 0 0])) (hQ1 : 2 ≤ Q) (hQ2 : Q < 2305843009213693952) (V : Int) (HV : Kp (chalK P Q G b y (al.getD 0 0) (bys s) = V)) (w : World) (hv : Hid (Vars w)) (hd : Hid (VarsD w)) (hA : Hid (Sl w A al)) (hZ : Hid (Sl w Z zs)) :
    Calls Tryd.prog 45 #[gv P Q G, .int .i64 b, .int .i64 y, .string s, prvL A na ca C Z nz cz] w fun e' w' => e' = .returned (.bool (V == C)) ∧ Below w.heap.size w w' := by
  obtain ⟨ba, oa, hAe, hA0⟩ := hA.out 0 (by rw [han.out]; omega)
  rw [Nat.add_zero] at hA0
  obtain ⟨a0, ha0⟩ : ∃ x, al.getD 0 0 = x := ⟨_, rfl⟩
  subst hAe
  rw [ha0] at hA0 HC oka HV
  have HA0 := Lib.hid hA0
  have HO : Hid (One w (some ⟨ba, oa, none⟩) 1 a0) := Lib.hid (by rw [← ha0, ← h1a]; exact one_of_sl hA.out han.out)
  clear hA0 ha0
  subst h1a
  obtain ⟨w0, hW⟩ : ∃ W, ((w.alloc (gObj P Q G)).alloc (prObjL (some ⟨ba, oa, none⟩) 1 ca C Z nz cz)) = W := ⟨_, rfl⟩
  have HBw : Hid (Below w.heap.size w w0) := Lib.hid (by rw [← hW]; exact below_two (Below.refl _ _))
  have hc : w0.cell? ⟨w.heap.size, 0, none⟩ = some (.int .i64 P) ∧ w0.cell? ⟨w.heap.size, 1, none⟩ = some (.int .i64 Q) ∧ w0.cell? ⟨w.heap.size, 2, none⟩ = some (.int .i64 G) ∧ w0.cell? ⟨w.heap.size + 1, 0, none⟩ = some (.slice (some ⟨ba, oa, none⟩) 1 ca) ∧ w0.cell? ⟨w.heap.size + 1, 1, none⟩ = some (.int .i64 C) ∧ w0.cell? ⟨w.heap.size + 1, 2, none⟩ = some (.slice Z nz cz) := by rw [← hW]; exact ⟨cell_below (allocs_cell (by simp) (by rfl)) (below_box0 _ _), cell_below (allocs_cell (by simp) (by rfl)) (below_box0 _ _), cell_below (allocs_cell (by simp) (by rfl)) (below_box0 _ _), allocs_cell (by simp) (by rfl), allocs_cell (by simp) (by rfl), allocs_cell (by simp) (by rfl)⟩
  have kC := Lib.hid (show ∀ u : World, Hid (Below w0.heap.size w0 u) → u.cell? ⟨w.heap.size, 0, none⟩ = some (.int .i64 P) ∧ u.cell? ⟨w.heap.size, 1, none⟩ = some (.int .i64 Q) ∧ u.cell? ⟨w.heap.size, 2, none⟩ = some (.int .i64 G) ∧ u.cell? ⟨w.heap.size + 1, 0, none⟩ = some (.slice (some ⟨ba, oa, none⟩) 1 ca) ∧ u.cell? ⟨w.heap.size + 1, 1, none⟩ = some (.int .i64 C) ∧ u.cell? ⟨w.heap.size + 1, 2, none⟩ = some (.slice Z nz cz) from fun u h => ⟨cell_below hc.1 h.out, cell_below hc.2.1 h.out, cell_below hc.2.2.1 h.out, cell_below hc.2.2.2.1 h.out, cell_below hc.2.2.2.2.1 h.out, cell_below hc.2.2.2.2.2 h.out⟩)
  have kV := Lib.hid (show ∀ u : World, Hid (Below w0.heap.size w0 u) → Hid (Vars u) from fun u h => Lib.hid ((hv.out.below) (below_ext HBw.out h.out)))
  have kD := Lib.hid (show ∀ u : World, Hid (Below w0.heap.size w0 u) → Hid (VarsD u) from fun u h => Lib.hid ((hd.out.below) (below_ext HBw.out h.out)))
  have kO := Lib.hid (show ∀ u : World, Hid (Below w0.heap.size w0 u) → Hid (One u (some ⟨ba, oa, none⟩) 1 a0) from fun u h => Lib.hid ((HO.out.below) (below_ext HBw.out h.out)))
  have kP := Lib.hid (show ∀ u : World, Hid (Below w0.heap.size w0 u) → Hid (One u Z nz (zs.getD 0 0)) from fun u h => Lib.hid (((fun hb => one_of_sl (hZ.out.below hb) hzn.out)) (below_ext HBw.out h.out)))
  have k0x := Lib.hid (show ∀ u : World, Hid (Below w0.heap.size w0 u) → Hid (u.cell? ⟨ba, oa, none⟩ = some (.int .i64 a0)) from fun u h => Lib.hid ((cell_below HA0.out) (below_ext HBw.out h.out)))
  have HB_0 : Hid (Below w0.heap.size w0 w0) := Lib.hid (Below.refl _ _)
  have HW := Lib.hid hW
  clear hW hc hv hd hA hZ HA0 HO
  have k0 := Lib.hid (show ∀ u : World, Hid (Below w0.heap.size w0 u) → u.cell? ⟨ba, oa, none⟩ = some (.int .i64 a0) from fun u h => (k0x.out _ h).out)
  go_enter Tryd.func45, Tryd.ntmps45
  go_wp2_with fail
  rw [HW.out]
  obtain ⟨zc0, zc1, zc2, zc3, zc4, zc5⟩ := kC.out _ HB_0
  go_wp2_with fail
  refine (check_any16 P Q G b y (some ⟨ba, oa, none⟩) 1 ca a0 C Z nz cz (zs.getD 0 0) true HC hQ _ (kV.out _ HB_0) (kO.out _ HB_0) (kP.out _ HB_0)).mono ?_
  rintro e w1 ⟨rfl, hb0⟩
  have HB_1 := Lib.hid (below_ext HB_0.out hb0)
  clear zc0 zc1 zc2 zc3 zc4 zc5
  clear hb0
  obtain ⟨zc0, zc1, zc2, zc3, zc4, zc5⟩ := kC.out _ HB_1
  go_wp2_with fail
  clear zc0 zc1 zc2 zc3 zc4 zc5
  have hS := Lib.hid (show ∀ u1 u2 : World, Hid (Below w0.heap.size w0 u1) → Below u1.heap.size u1 u2 → (u2.cell? ⟨w.heap.size, 0, none⟩ = some (.int .i64 P) ∧ u2.cell? ⟨w.heap.size, 1, none⟩ = some (.int .i64 Q) ∧ u2.cell? ⟨w.heap.size, 2, none⟩ = some (.int .i64 G) ∧ u2.cell? ⟨w.heap.size + 1, 0, none⟩ = some (.slice (some ⟨ba, oa, none⟩) 1 ca) ∧ u2.cell? ⟨w.heap.size + 1, 1, none⟩ = some (.int .i64 C) ∧ u2.cell? ⟨w.heap.size + 1, 2, none⟩ = some (.slice Z nz cz) ∧ u2.cell? ⟨ba, oa, none⟩ = some (.int .i64 a0) ∧ Hid (Below w0.heap.size w0 u2)) from fun u1 u2 h1 h2 => by
    have h3 := Lib.hid (below_ext h1.out h2)
    obtain ⟨y0, y1, y2, y3, y4, y5⟩ := kC.out _ h3
    exact ⟨y0, y1, y2, y3, y4, y5, k0.out _ h3, h3⟩)
  refine wp_region_T (S := fun w' => w'.cell? ⟨w.heap.size, 0, none⟩ = some (.int .i64 P) ∧ w'.cell? ⟨w.heap.size, 1, none⟩ = some (.int .i64 Q) ∧ w'.cell? ⟨w.heap.size, 2, none⟩ = some (.int .i64 G) ∧ w'.cell? ⟨w.heap.size + 1, 0, none⟩ = some (.slice (some ⟨ba, oa, none⟩) 1 ca) ∧ w'.cell? ⟨w.heap.size + 1, 1, none⟩ = some (.int .i64 C) ∧ w'.cell? ⟨w.heap.size + 1, 2, none⟩ = some (.slice Z nz cz) ∧ w'.cell? ⟨ba, oa, none⟩ = some (.int .i64 a0) ∧ Hid (Below w0.heap.size w0 w')) (E := []) (by kernel_rfl) (hS.out _ _ HB_1 ((Below.refl _ _).drew)) (fun hHeld => ?_)
  refine wpT_take (i := 0) (oi := _) (v := ?_) rfl (by kernel_rfl) (by kernel_rfl) (by kernel_rfl) (by kernel_rfl) (fun _ _ _ h => h) (Or.inl ⟨by rfl, ?_⟩) (by assumption) ?_
  rotate_left; (intro wS hSw; (try dsimp only at hSw); go_simp <;> with_reducible rfl)
  try simp only [List.getElem_toArray, List.getElem_cons_zero, List.getElem_cons_succ, Act.put, List.setIfInBounds_toArray, List.set_cons_zero, List.set_cons_succ]
  refine wpT_take (i := 1) (oi := _) (v := ?_) rfl (by kernel_rfl) (by kernel_rfl) (by kernel_rfl) (by kernel_rfl) (fun _ _ _ h => h) (Or.inl ⟨by rfl, ?_⟩) (by assumption) ?_
  rotate_left; (intro wS hSw; (try dsimp only at hSw); go_simp <;> with_reducible rfl)
  try simp only [List.getElem_toArray, List.getElem_cons_zero, List.getElem_cons_succ, Act.put, List.setIfInBounds_toArray, List.set_cons_zero, List.set_cons_succ]
  refine wpT_take (i := 2) (oi := _) (v := ?_) rfl (by kernel_rfl) (by kernel_rfl) (by kernel_rfl) (by kernel_rfl) (fun _ _ _ h => h) (Or.inl ⟨by rfl, ?_⟩) (by assumption) ?_
  rotate_left; (intro wS hSw; (try dsimp only at hSw); go_simp <;> with_reducible rfl)
  try simp only [List.getElem_toArray, List.getElem_cons_zero, List.getElem_cons_succ, Act.put, List.setIfInBounds_toArray, List.set_cons_zero, List.set_cons_succ]
  refine wpT_take (i := 3) (oi := _) (v := ?_) rfl (by kernel_rfl) (by kernel_rfl) (by kernel_rfl) (by kernel_rfl) (fun _ _ _ h => h) (Or.inl ⟨by rfl, ?_⟩) (by assumption) ?_
  rotate_left; (intro wS hSw; (try dsimp only at hSw); go_simp <;> with_reducible rfl)
  try simp only [List.getElem_toArray, List.getElem_cons_zero, List.getElem_cons_succ, Act.put, List.setIfInBounds_toArray, List.set_cons_zero, List.set_cons_succ]
  refine wpT_take (i := 4) (oi := _) (v := ?_) rfl (by kernel_rfl) (by kernel_rfl) (by kernel_rfl) (by kernel_rfl) (fun _ _ _ h => h) (Or.inl ⟨by rfl, ?_⟩) (by assumption) ?_
  rotate_left; (intro wS hSw; (try dsimp only at hSw); go_simp <;> with_reducible rfl)
  try simp only [List.getElem_toArray, List.getElem_cons_zero, List.getElem_cons_succ, Act.put, List.setIfInBounds_toArray, List.set_cons_zero, List.set_cons_succ]
  refine wpT_take (i := 5) (oi := _) (v := ?_) rfl (by kernel_rfl) (by kernel_rfl) (by kernel_rfl) (by kernel_rfl) (fun _ _ _ h => h) (Or.inl ⟨by rfl, ?_⟩) (by assumption) ?_
  rotate_left; (intro wS hSw; (try dsimp only at hSw); go_simp <;> with_reducible rfl)
  try simp only [List.getElem_toArray, List.getElem_cons_zero, List.getElem_cons_succ, Act.put, List.setIfInBounds_toArray, List.set_cons_zero, List.set_cons_succ]
  refine wpT_take (i := 6) (oi := _) (v := ?_) rfl (by kernel_rfl) (by kernel_rfl) (by kernel_rfl) (by kernel_rfl) (fun _ _ _ h => h) (Or.inl ⟨by rfl, ?_⟩) (by assumption) ?_
  rotate_left; (intro wS hSw; (try dsimp only at hSw); go_simp <;> with_reducible rfl)
  try simp only [List.getElem_toArray, List.getElem_cons_zero, List.getElem_cons_succ, Act.put, List.setIfInBounds_toArray, List.set_cons_zero, List.set_cons_succ]
  refine wpT_take (i := 7) (oi := _) (v := ?_) rfl (by kernel_rfl) (by kernel_rfl) (by kernel_rfl) (by kernel_rfl) (fun _ _ _ h => h) (Or.inl ⟨by rfl, ?_⟩) (by assumption) ?_
  rotate_left; (intro wS hSw; (try dsimp only at hSw); go_simp <;> with_reducible rfl)
  try simp only [List.getElem_toArray, List.getElem_cons_zero, List.getElem_cons_succ, Act.put, List.setIfInBounds_toArray, List.set_cons_zero, List.set_cons_succ]
  refine wpT_one (i := 8) (by kernel_rfl) rfl (fun K hK => ?_)
  go_simp
  (with_reducible refine (kchal_ok P Q G b y a0 s hs hr okg okb oka hQ1 hQ2 V HV _ ?_).mono ?_); (go_split_ands; exact kD.out _ (by assumption)); rintro e wA ⟨rfl, hbA⟩
  refine hK.out _ _ ?_ (fun hHeld => ?_)
  · (go_split_ands; exact hS.out _ _ (by assumption) hbA)
  clear hK K
  try simp only [List.getElem_toArray, List.getElem_cons_zero, List.getElem_cons_succ, Act.put, List.setIfInBounds_toArray, List.set_cons_zero, List.set_cons_succ]
  refine wpT_take (i := 9) (oi := _) (v := ?_) rfl (by kernel_rfl) (by kernel_rfl) (by kernel_rfl) (by kernel_rfl) (fun _ _ _ h => h) (Or.inl ⟨by rfl, ?_⟩) (by assumption) ?_
  rotate_left; (intro wS hSw; (try dsimp only at hSw); go_simp <;> with_reducible rfl)
  try simp only [List.getElem_toArray, List.getElem_cons_zero, List.getElem_cons_succ, Act.put, List.setIfInBounds_toArray, List.set_cons_zero, List.set_cons_succ]
  refine wpT_take (i := 10) (oi := _) (v := ?_) rfl (by kernel_rfl) (by kernel_rfl) (by kernel_rfl) (by kernel_rfl) (fun _ _ _ h => h) (Or.inl ⟨by rfl, ?_⟩) (by assumption) ?_
  rotate_left; (intro wS hSw; (try dsimp only at hSw); go_simp <;> with_reducible rfl)
  try simp only [List.getElem_toArray, List.getElem_cons_zero, List.getElem_cons_succ, Act.put, List.setIfInBounds_toArray, List.set_cons_zero, List.set_cons_succ]
  refine wpT_take (i := 11) (oi := _) (v := ?_) rfl (by kernel_rfl) (by kernel_rfl) (by kernel_rfl) (by kernel_rfl) (fun _ _ _ h => h) (Or.inl ⟨by rfl, ?_⟩) (by assumption) ?_
  rotate_left; (intro wS hSw; (try dsimp only at hSw); go_simp <;> with_reducible rfl)
  try simp only [List.getElem_toArray, List.getElem_cons_zero, List.getElem_cons_succ, Act.put, List.setIfInBounds_toArray, List.set_cons_zero, List.set_cons_succ]
  refine wpT_take (i := 12) (oi := _) (v := ?_) rfl (by kernel_rfl) (by kernel_rfl) (by kernel_rfl) (by kernel_rfl) (fun _ _ _ h => h) (Or.inl ⟨by rfl, ?_⟩) (by assumption) ?_
  rotate_left; (intro wS hSw; (try dsimp only at hSw); go_simp <;> with_reducible rfl)
  try simp only [List.getElem_toArray, List.getElem_cons_zero, List.getElem_cons_succ, Act.put, List.setIfInBounds_toArray, List.set_cons_zero, List.set_cons_succ]
  refine wpT_take (i := 13) (oi := _) (v := ?_) rfl (by kernel_rfl) (by kernel_rfl) (by kernel_rfl) (by kernel_rfl) (fun _ _ _ h => h) (Or.inl ⟨by rfl, ?_⟩) (by assumption) ?_
  rotate_left; (intro wS hSw; (try dsimp only at hSw); go_simp <;> with_reducible rfl)
  try simp only [List.getElem_toArray, List.getElem_cons_zero, List.getElem_cons_succ, Act.put, List.setIfInBounds_toArray, List.set_cons_zero, List.set_cons_succ]
  refine wpT_done (by kernel_rfl) ?_ _
  obtain ⟨x0, x1, x2, x3, x4, x5, xa, HBF⟩ := hHeld
  have hbF := below_ext HBw.out HBF.out
  go_wp2
  go_ret
  exact ⟨rfl, hbF⟩
theorem chkB_parts {P Q G b y : Int} {na : Nat} {a0 C : Int} {nz : Nat} {z0 : Int} (h : chkB P Q G b y na a0 C nz z0 = true) :
    validG P Q G = true ∧ okB P Q b = true ∧ memG P Q y = true ∧ na = 1 ∧ nz = 1 ∧ memG P Q a0 = true ∧ expB Q C = true ∧ expB Q z0 = true := by
  unfold chkB at h
  simp only [Bool.and_eq_true] at h
  obtain ⟨h1, h2, h3, h4, h5⟩ := h
  obtain ⟨f1, f2, f3, f4, f5⟩ := formB_parts h4
  exact ⟨h1, h2, h3, f1, f2, f3, f4, f5⟩
theorem chkB_ok {P Q G b y : Int} {na : Nat} {a0 C : Int} {nz : Nat} {z0 : Int} (h : chkB P Q G b y na a0 C nz z0 = true) : okL [P, Q, G] ∧ okL [b, y] ∧ okL [a0] ∧ 2 ≤ Q ∧ Q < 2305843009213693952 := by
  obtain ⟨v1, v2, v3, v4, v5, v6, _⟩ := chkB_parts h
  obtain ⟨p1, p2, p3, p4⟩ := validG_P v1
  have m1 := okB_mem v2
  exact ⟨valid_okg v1, mem_okL (Q := Q) p2 (by simp [m1, v3]) (by simp), mem_okL (Q := Q) p2 (by simp [v6]) (by simp), by omega, by omega⟩
/-- knowledge.Verify. -/
theorem kver_any (P Q G b y : Int) (A : Option Addr) (al : List Int) (na ca : Nat) (C : Int) (Z : Option Addr) (zs : List Int) (nz cz : Nat) (han : Hid (al.length = na)) (hzn : Hid (zs.length = nz)) (hQ : Q < 9223372036854775808) (s : ByteArray) (hs : s.size ≤ 1000) (r : Bool) (hr : Kp (verK P Q G b y C (bys s) al zs = r)) (w : World) (hv : Hid (Vars w)) (hd : Hid (VarsD w)) (hA : Hid (Sl w A al)) (hZ : Hid (Sl w Z zs)) :
    Calls Tryd.prog 45 #[gv P Q G, .int .i64 b, .int .i64 y, .string s, prvL A na ca C Z nz cz] w fun e' w' => e' = .returned (.bool r) ∧ Below w.heap.size w w' := by
  have hr1 := hr.1
  unfold verK at hr1
  rw [han.out, hzn.out] at hr1
  cases hc : chkB P Q G b y na (al.getD 0 0) C nz (zs.getD 0 0) with
  | false =>
    obtain rfl : r = false := by rw [← hr1, hc]; rfl
    exact kver_f P Q G b y A al na ca C Z zs nz cz han hzn hQ s hs (Lib.hid hc) w hv hd hA hZ
  | true =>
    obtain ⟨okg, okb, oka, q1, q2⟩ := chkB_ok hc
    have h1 := (chkB_parts hc).2.2.2.1
    cases hlb : labB (bys s) with
    | false =>
      obtain rfl : r = false := by rw [← hr1, hlb, Bool.false_and, Bool.and_false]
      exact kver_l P Q G b y A al na ca C Z zs nz cz han hzn hQ s hs h1 (Lib.hid hc) (Lib.hid hlb) w hv hd hA hZ
    | true =>
      obtain ⟨V, hV⟩ : ∃ V, chalK P Q G b y (al.getD 0 0) (bys s) = V := ⟨_, rfl⟩
      obtain rfl : (V == C) = r := by rw [← hr1, hc, hlb, hV]; rfl
      exact kver_o P Q G b y A al na ca C Z zs nz cz han hzn hQ s hs h1 (Lib.hid hc) (Lib.hid hlb) (Lib.hid okg) (Lib.hid okb) (Lib.hid oka) q1 q2 V ⟨hV⟩ w hv hd hA hZ
end Go.Proofs.YtdlhodbiaoafiaaDoor
