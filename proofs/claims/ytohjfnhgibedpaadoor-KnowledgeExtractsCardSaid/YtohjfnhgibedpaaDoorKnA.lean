/- The contracts of packages knowledge and specieref16: exponents, bases, commitments, responses. -/
import Derived.Test.YtohjfnhgibedpaaDoorRefD
import Derived.Test.YtohjfnhgibedpaaDoorInv
namespace Go.Proofs.YtohjfnhgibedpaaDoor
open Go.RowKit SpM
set_option linter.unusedVariables false

/-- exponents. -/
def expB (Q n : Int) : Bool := decide (0 ≤ n ∧ n < Q)
theorem expB_lo {Q n : Int} (h : expB Q n = true) : 0 ≤ n := by simp [expB] at h; exact h.1
theorem expB_hi {Q n : Int} (h : expB Q n = true) : n < Q := by simp [expB] at h; exact h.2

theorem kexp_any (P Q G n : Int) (b : Bool) (hb : Hid (expB Q n = b)) (w : World) :
    Calls Tryd.prog 90 #[gv P Q G, .int .i64 n] w fun e' w' => e' = .returned (.bool b) ∧ Below w.heap.size w w' := by
  by_cases h0 : 0 ≤ n
  · by_cases h1 : n < Q
    · obtain rfl : b = true := by rw [← hb.out]; simp [expB]; omega
      go_enter Tryd.func90, Tryd.ntmps90
      go_wp2
      go_ret
      exact ⟨rfl, below_box0 _ _⟩
    · obtain rfl : b = false := by rw [← hb.out]; simp [expB]; omega
      have d2 : decide (n < Q) = false := by simp; omega
      go_enter Tryd.func90, Tryd.ntmps90
      go_wp2
      go_ret
      exact ⟨rfl, below_box0 _ _⟩
  · obtain rfl : b = false := by rw [← hb.out]; simp [expB]; omega
    have d2 : decide (0 ≤ n) = false := by simp; omega
    go_enter Tryd.func90, Tryd.ntmps90
    go_wp2
    go_ret
    exact ⟨rfl, below_box0 _ _⟩

theorem rexp_any (P Q G n : Int) (b : Bool) (hb : Hid (expB Q n = b)) (w : World) :
    Calls Tryd.prog 105 #[gv P Q G, .int .i64 n] w fun e' w' => e' = .returned (.bool b) ∧ Below w.heap.size w w' := by
  by_cases h0 : 0 ≤ n
  · by_cases h1 : n < Q
    · obtain rfl : b = true := by rw [← hb.out]; simp [expB]; omega
      go_enter Tryd.func105, Tryd.ntmps105
      go_wp2
      go_ret
      exact ⟨rfl, below_box0 _ _⟩
    · obtain rfl : b = false := by rw [← hb.out]; simp [expB]; omega
      have d2 : decide (n < Q) = false := by simp; omega
      go_enter Tryd.func105, Tryd.ntmps105
      go_wp2
      go_ret
      exact ⟨rfl, below_box0 _ _⟩
  · obtain rfl : b = false := by rw [← hb.out]; simp [expB]; omega
    have d2 : decide (0 ≤ n) = false := by simp; omega
    go_enter Tryd.func105, Tryd.ntmps105
    go_wp2
    go_ret
    exact ⟨rfl, below_box0 _ _⟩

set_option maxHeartbeats 800000 in
theorem kbase_any (P Q G x : Int) (b : Bool) (hval : Hid (validG P Q G = true)) (hb : Hid (okB P Q x = b)) (w : World) (hv : Hid (Vars w)) :
    Calls Tryd.prog 69 #[gv P Q G, .int .i64 x] w fun e' w' => e' = .returned (.bool b) ∧ Below w.heap.size w w' := by
  obtain ⟨hp2, hp, hq3, hqp⟩ := validG_P hval.out
  have HV0 := Lib.hid (hv.out.below (below_box0 w (gObj P Q G)))
  have HX0 := Lib.hid (gbox_alloc w P Q G)
  cases h1 : x == 1 with
  | true =>
    have h2 : (x != 1) = false := by simpa using h1
    obtain rfl : b = false := by rw [← hb.out, okB, h2, Bool.false_and]
    go_enter Tryd.func69, Tryd.ntmps69
    go_wp2
    go_ret
    exact ⟨rfl, below_box0 _ _⟩
  | false =>
    have h2 : (x != 1) = true := by simp at h1 ⊢; exact h1
    have HC : Hid (conG P Q G x = b) := Lib.hid ((okB_con (G := G) hval.out h1).trans hb.out)
    go_enter Tryd.func69, Tryd.ntmps69
    go_wp2_with fail
    refine (contains_any P Q G x b HC (by omega) _ HV0).mono ?_
    rintro e w1 ⟨rfl, hb0⟩
    have hb1 := below_ext (below_box0 _ _) hb0
    clear hb0
    go_wp2
    go_ret
    exact ⟨rfl, hb1⟩

set_option maxHeartbeats 800000 in
theorem rbase_any (P Q G x : Int) (b : Bool) (hval : Hid (validG P Q G = true)) (hb : Hid (okB P Q x = b)) (w : World) :
    Calls Tryd.prog 94 #[gv P Q G, .int .i64 x] w fun e' w' => e' = .returned (.bool b) ∧ Below w.heap.size w w' := by
  obtain ⟨hp2, hp, hq3, hqp⟩ := validG_P hval.out
  cases h1 : x == 1 with
  | true =>
    have h2 : (x != 1) = false := by simpa using h1
    obtain rfl : b = false := by rw [← hb.out, okB, h2, Bool.false_and]
    go_enter Tryd.func94, Tryd.ntmps94
    go_wp2
    go_ret
    exact ⟨rfl, below_box0 _ _⟩
  | false =>
    have h2 : (x != 1) = true := by simp at h1 ⊢; exact h1
    have HC : Hid (memG P Q x = b) := Lib.hid (by rw [← hb.out, okB, h2, Bool.true_and])
    go_enter Tryd.func94, Tryd.ntmps94
    go_wp2_with fail
    refine (rmember_any P Q G x b HC hp (by omega) (by omega) _).mono ?_
    rintro e w1 ⟨rfl, hb0⟩
    have hb1 := below_ext (below_box0 _ _) hb0
    clear hb0
    go_wp2
    go_ret
    exact ⟨rfl, hb1⟩

/-- the error of a group, a base, and an element. -/
def givE (P Q G b y : Int) : Int := if validG P Q G = true then (if okB P Q b = true then (if memG P Q y = true then 0 else 2) else 2) else 1

set_option maxHeartbeats 1600000 in
theorem given_any (P Q G b y r : Int) (hr : Hid (givE P Q G b y = r)) (hQ : Q < 9223372036854775808) (w : World) :
    Calls Tryd.prog 72 #[gv P Q G, .int .i64 b, .int .i64 y] w fun e' w' => e' = .returned (.int .i64 r) ∧ Below w.heap.size w w' := by
  have HX0 := Lib.hid (gbox_alloc w P Q G)
  cases hval : validG P Q G with
  | false =>
    obtain rfl : r = 1 := by rw [← hr.out, givE, hval]; rfl
    have HV : Hid (validG P Q G = false) := hval
    clear hval hr
    go_enter Tryd.func72, Tryd.ntmps72
    go_wp2_with fail
    refine (rvalid_any P Q G false HV hQ _).mono ?_
    rintro e w1 ⟨rfl, hb0⟩
    have hb1 := below_ext (below_box0 _ _) hb0
    clear hb0
    go_wp2
    go_ret
    exact ⟨rfl, hb1⟩
  | true =>
    obtain ⟨hp2, hp, hq3, hqp⟩ := validG_P hval
    have HV : Hid (validG P Q G = true) := hval
    cases hk : okB P Q b with
    | false =>
      obtain rfl : r = 2 := by rw [← hr.out, givE, hval, hk]; rfl
      have HK : Hid (okB P Q b = false) := hk
      clear hval hr hk
      go_enter Tryd.func72, Tryd.ntmps72
      go_wp2_with fail
      refine (rvalid_any P Q G true HV hQ _).mono ?_
      rintro e w1 ⟨rfl, hb0⟩
      have hb1 := below_ext (below_box0 _ _) hb0
      have HX1 := Lib.hid (HX0.out.below hb0)
      clear hb0
      obtain ⟨c0, c1, c2⟩ := HX1.out
      go_wp2_with fail
      refine (rbase_any P Q G b false HV HK _).mono ?_
      rintro e w2 ⟨rfl, hb0⟩
      have hb2 := below_ext hb1 hb0
      clear hb0
      go_wp2
      go_ret
      exact ⟨rfl, hb2⟩
    | true =>
      have HK : Hid (okB P Q b = true) := hk
      cases hm : memG P Q y with
      | false =>
        obtain rfl : r = 2 := by rw [← hr.out, givE, hval, hk, hm]; rfl
        have HM : Hid (memG P Q y = false) := hm
        clear hval hr hk hm
        go_enter Tryd.func72, Tryd.ntmps72
        go_wp2_with fail
        refine (rvalid_any P Q G true HV hQ _).mono ?_
        rintro e w1 ⟨rfl, hb0⟩
        have hb1 := below_ext (below_box0 _ _) hb0
        have HX1 := Lib.hid (HX0.out.below hb0)
        clear hb0
        obtain ⟨c0, c1, c2⟩ := HX1.out
        go_wp2_with fail
        refine (rbase_any P Q G b true HV HK _).mono ?_
        rintro e w2 ⟨rfl, hb0⟩
        have hb2 := below_ext hb1 hb0
        have HX2 := Lib.hid (HX1.out.below hb0)
        clear c0 c1 c2 hb0
        obtain ⟨c0, c1, c2⟩ := HX2.out
        go_wp2_with fail
        refine (rmember_any P Q G y false HM hp (by omega) hQ _).mono ?_
        rintro e w3 ⟨rfl, hb0⟩
        have hb3 := below_ext hb2 hb0
        clear hb0
        go_wp2
        go_ret
        exact ⟨rfl, hb3⟩
      | true =>
        obtain rfl : r = 0 := by rw [← hr.out, givE, hval, hk, hm]; rfl
        have HM : Hid (memG P Q y = true) := hm
        clear hval hr hk hm
        go_enter Tryd.func72, Tryd.ntmps72
        go_wp2_with fail
        refine (rvalid_any P Q G true HV hQ _).mono ?_
        rintro e w1 ⟨rfl, hb0⟩
        have hb1 := below_ext (below_box0 _ _) hb0
        have HX1 := Lib.hid (HX0.out.below hb0)
        clear hb0
        obtain ⟨c0, c1, c2⟩ := HX1.out
        go_wp2_with fail
        refine (rbase_any P Q G b true HV HK _).mono ?_
        rintro e w2 ⟨rfl, hb0⟩
        have hb2 := below_ext hb1 hb0
        have HX2 := Lib.hid (HX1.out.below hb0)
        clear c0 c1 c2 hb0
        obtain ⟨c0, c1, c2⟩ := HX2.out
        go_wp2_with fail
        refine (rmember_any P Q G y true HM hp (by omega) hQ _).mono ?_
        rintro e w3 ⟨rfl, hb0⟩
        have hb3 := below_ext hb2 hb0
        clear hb0
        go_wp2
        go_ret
        exact ⟨rfl, hb3⟩

/-- the error of a commitment, and the commitment. -/
def comE (P Q G b k : Int) : Int := if validG P Q G = true then (if okB P Q b = true then (if expB Q k = true then 0 else 2) else 2) else 1
def comV (P Q G b k : Int) : Int := if comE P Q G b k = 0 then pw b (k % Q) P else 0

theorem givE_one {P Q G b : Int} (h : validG P Q G = true) : givE P Q G b 1 = if okB P Q b = true then 0 else 2 := by
  obtain ⟨hp2, hp, hq3, hqp⟩ := validG_P h
  rw [givE, if_pos h, if_pos (mem_one hp2)]
theorem okB_mem {P Q b : Int} (h : okB P Q b = true) : memG P Q b = true := by simp [okB] at h; exact h.2

set_option maxHeartbeats 1600000 in
theorem commit_any (P Q G b k v r : Int) (hv0 : Hid (comV P Q G b k = v)) (hr0 : Hid (comE P Q G b k = r)) (hQ : Q < 9223372036854775808) (w : World) (hv : Hid (Vars w)) :
    Calls Tryd.prog 65 #[gv P Q G, .int .i64 b, .int .i64 k] w fun e' w' => e' = .returned (.tuple #[.int .i64 v, .int .i64 r]) ∧ Below w.heap.size w w' := by
  have HV0 := Lib.hid (hv.out.below (below_box0 w (gObj P Q G)))
  have HX0 := Lib.hid (gbox_alloc w P Q G)
  cases hval : validG P Q G with
  | false =>
    obtain rfl : r = 1 := by rw [← hr0.out, comE, hval]; rfl
    obtain rfl : v = 0 := by rw [← hv0.out, comV, hr0.out]; rfl
    have HV : Hid (validG P Q G = false) := hval
    have HG : Hid (givE P Q G b 1 = 1) := Lib.hid (by rw [givE, hval]; rfl)
    clear hval hr0 hv0
    go_enter Tryd.func65, Tryd.ntmps65
    go_wp2_with fail
    refine (valid_any P Q G false HV hQ _ HV0).mono ?_
    rintro e w1 ⟨rfl, hb0⟩
    have hb1 := below_ext (below_box0 _ _) hb0
    clear hb0
    go_wp2
    go_ret2
    exact ⟨rfl, hb1⟩
  | true =>
    obtain ⟨hp2, hp, hq3, hqp⟩ := validG_P hval
    have HV : Hid (validG P Q G = true) := hval
    cases hk : okB P Q b with
    | false =>
      obtain rfl : r = 2 := by rw [← hr0.out, comE, hval, hk]; rfl
      obtain rfl : v = 0 := by rw [← hv0.out, comV, hr0.out]; rfl
      have HK : Hid (okB P Q b = false) := hk
      have HG : Hid (givE P Q G b 1 = 2) := Lib.hid (by rw [givE_one hval, hk]; rfl)
      clear hval hr0 hv0 hk
      go_enter Tryd.func65, Tryd.ntmps65
      go_wp2_with fail
      refine (valid_any P Q G true HV hQ _ HV0).mono ?_
      rintro e w1 ⟨rfl, hb0⟩
      have hb1 := below_ext (below_box0 _ _) hb0
      have HV1 := Lib.hid (HV0.out.below hb0)
      have HX1 := Lib.hid (HX0.out.below hb0)
      clear hb0
      obtain ⟨c0, c1, c2⟩ := HX1.out
      go_wp2_with fail
      refine (kbase_any P Q G b false HV HK _ HV1).mono ?_
      rintro e w2 ⟨rfl, hb0⟩
      have hb2 := below_ext hb1 hb0
      clear hb0
      go_wp2
      go_ret2
      exact ⟨rfl, hb2⟩
    | true =>
      have HK : Hid (okB P Q b = true) := hk
      have HG : Hid (givE P Q G b 1 = 0) := Lib.hid (by rw [givE_one hval, hk]; rfl)
      have HCK : Hid (chkG P Q G [b] = 0) := Lib.hid (chkG_ok hval (by simp [okB_mem hk]))
      have hb1 := memG_lo (okB_mem hk)
      have hbP := memG_hi (okB_mem hk)
      cases hx : expB Q k with
      | false =>
        obtain rfl : r = 2 := by rw [← hr0.out, comE, hval, hk, hx]; rfl
        obtain rfl : v = 0 := by rw [← hv0.out, comV, hr0.out]; rfl
        have HE : Hid (expB Q k = false) := hx
        clear hval hr0 hv0 hk hx hb1
        go_enter Tryd.func65, Tryd.ntmps65
        go_wp2_with fail
        refine (valid_any P Q G true HV hQ _ HV0).mono ?_
        rintro e w1 ⟨rfl, hb0⟩
        have hb1 := below_ext (below_box0 _ _) hb0
        have HV1 := Lib.hid (HV0.out.below hb0)
        have HX1 := Lib.hid (HX0.out.below hb0)
        clear hb0
        obtain ⟨c0, c1, c2⟩ := HX1.out
        go_wp2_with fail
        refine (kbase_any P Q G b true HV HK _ HV1).mono ?_
        rintro e w2 ⟨rfl, hb0⟩
        have hb2 := below_ext hb1 hb0
        have HV2 := Lib.hid (HV1.out.below hb0)
        have HX2 := Lib.hid (HX1.out.below hb0)
        clear c0 c1 c2 hb0
        obtain ⟨c0, c1, c2⟩ := HX2.out
        go_wp2_with fail
        refine (kexp_any P Q G k false HE _).mono ?_
        rintro e w3 ⟨rfl, hb0⟩
        have hb3 := below_ext hb2 hb0
        clear hb0
        go_wp2
        go_ret2
        exact ⟨rfl, hb3⟩
      | true =>
        obtain rfl : r = 0 := by rw [← hr0.out, comE, hval, hk, hx]; rfl
        have HW : Hid (pw b (k % Q) P = v) := Lib.hid (by rw [← hv0.out, comV, hr0.out]; rfl)
        have HE : Hid (expB Q k = true) := hx
        have hk0 := expB_lo hx
        have hk1 := expB_hi hx
        have hb2 : 0 ≤ b := by omega
        clear hval hr0 hv0 hk hx hb1
        go_enter Tryd.func65, Tryd.ntmps65
        go_wp2_with fail
        refine (valid_any P Q G true HV hQ _ HV0).mono ?_
        rintro e w1 ⟨rfl, hb0⟩
        have hb1 := below_ext (below_box0 _ _) hb0
        have HV1 := Lib.hid (HV0.out.below hb0)
        have HX1 := Lib.hid (HX0.out.below hb0)
        clear hb0
        obtain ⟨c0, c1, c2⟩ := HX1.out
        go_wp2_with fail
        refine (kbase_any P Q G b true HV HK _ HV1).mono ?_
        rintro e w2 ⟨rfl, hb0⟩
        have hb2 := below_ext hb1 hb0
        have HV2 := Lib.hid (HV1.out.below hb0)
        have HX2 := Lib.hid (HX1.out.below hb0)
        clear c0 c1 c2 hb0
        obtain ⟨c0, c1, c2⟩ := HX2.out
        go_wp2_with fail
        refine (kexp_any P Q G k true HE _).mono ?_
        rintro e w3 ⟨rfl, hb0⟩
        have hb3 := below_ext hb2 hb0
        have HV3 := Lib.hid (HV2.out.below hb0)
        have HX3 := Lib.hid (HX2.out.below hb0)
        clear c0 c1 c2 hb0
        obtain ⟨c0, c1, c2⟩ := HX3.out
        go_wp2_with fail
        refine (gpow_ok P Q G b k v HCK HW (by omega) (by omega) _ HV3).mono ?_
        rintro e w4 ⟨rfl, hb0⟩
        have hb4 := below_ext hb3 hb0
        clear hb0
        go_wp2
        go_ret2
        exact ⟨rfl, hb4⟩

end Go.Proofs.YtohjfnhgibedpaaDoor
