/- The contract of Extract, of package knowledge. -/
import Derived.Test.YtohjfnhgibedpaaDoorKExt
namespace Go.Proofs.YtohjfnhgibedpaaDoor
open Go.RowKit SpM
set_option linter.unusedVariables false
set_option linter.unusedSimpArgs false

set_option maxRecDepth 100000 in
set_option maxHeartbeats 12800000 in
theorem extract_any (P Q G b y : Int) (pa : Option Addr) (na ca : Nat) (a0 C0 : Int) (pz : Option Addr) (nz cz : Nat) (z0 : Int) (qa : Option Addr) (nb cb : Nat) (a1 C1 : Int) (qz : Option Addr) (nw cw : Nat) (z1 : Int) (v r : Int) (kp kq : Bool) (hkp : Hid (chkB P Q G b y na a0 C0 nz z0 = kp)) (hkq : Hid (chkB P Q G b y nb a1 C1 nw z1 = kq))
    (hr0 : Hid (extE P Q G b y kp kq a0 a1 C0 C1 = r)) (hv0 : Hid ((if r = 0 then extV Q C0 C1 z0 z1 else 0) = v)) (hQ : Q < 9223372036854775808) (w : World) (hv : Hid (Vars w))
    (hA : Hid (One w pa na a0)) (hZ : Hid (One w pz nz z0)) (hB : Hid (One w qa nb a1)) (hC : Hid (One w qz nw z1)) :
    Calls Tryd.prog 35 #[gv P Q G, .int .i64 b, .int .i64 y, prv pa na ca C0 pz nz cz, prv qa nb cb C1 qz nw cw] w fun e' w' => e' = .returned (.tuple #[.int .i64 v, .int .i64 r]) ∧ Below w.heap.size w w' := by
  obtain ⟨w0, hW⟩ : ∃ W, ((w.alloc (gObj P Q G)).alloc (prObj pa na ca C0 pz nz cz)).alloc (prObj qa nb cb C1 qz nw cw) = W := ⟨_, rfl⟩
  have HB : Hid (Below w.heap.size w w0) := Lib.hid (by rw [← hW]; exact below_three)
  have HX0 : Hid (GBox w0 w.heap.size P Q G) := Lib.hid (by rw [← hW]; exact ((gbox_alloc w P Q G).below (below_box0 _ _)).below (below_box0 _ _))
  have HP0 : Hid (PBox w0 (w.heap.size + 1) (.slice pa na ca) (.int .i64 C0) (.slice pz nz cz)) := Lib.hid (by rw [← hW]; exact (pbox_alloc w _ _ _ _ _).below (below_box0 _ _))
  have HQ_0 : Hid (PBox w0 (w.heap.size + 2) (.slice qa nb cb) (.int .i64 C1) (.slice qz nw cw)) := Lib.hid (by rw [← hW]; exact pbox_alloc2 w _ _ _ _ _ _)
  have HA0 : Hid (One w0 pa na a0) := Lib.hid (hA.out.below HB.out)
  have HZ0 : Hid (One w0 pz nz z0) := Lib.hid (hZ.out.below HB.out)
  have HB_0 : Hid (One w0 qa nb a1) := Lib.hid (hB.out.below HB.out)
  have HC_0 : Hid (One w0 qz nw z1) := Lib.hid (hC.out.below HB.out)
  have HV0 : Hid (Vars w0) := Lib.hid (hv.out.below HB.out)
  have HW := Lib.hid hW
  clear hW
  have hr' := hr0.out
  cases hval : validG P Q G with
  | false =>
    obtain rfl : r = 1 := by rw [← hr', extE, hval]; rfl
    obtain rfl : v = 0 := by rw [← hv0.out]; rfl
    have HVL : Hid (validG P Q G = false) := hval
    clear hr' hr0 hv0 hval
    go_enter Tryd.func35, Tryd.ntmps35
    go_wp2_with fail
    rw [HW.out]
    go_wp2_with fail
    refine (valid_any P Q G false HVL hQ _ HV0).mono ?_
    rintro e w1 ⟨rfl, hb0⟩
    have hb1 := below_ext (HB.out) hb0
    clear hb0
    go_wp2
    go_ret2
    exact ⟨rfl, hb1⟩
  | true =>
    have HVL : Hid (validG P Q G = true) := hval
    obtain ⟨hp2, hp, hq3, hqp⟩ := validG_P hval
    cases hk : okB P Q b with
    | false =>
      obtain rfl : r = 2 := by rw [← hr', extE, hval, hk]; rfl
      obtain rfl : v = 0 := by rw [← hv0.out]; rfl
      have HK : Hid (okB P Q b = false) := hk
      clear hr' hr0 hv0 hval hk
      go_enter Tryd.func35, Tryd.ntmps35
      go_wp2_with fail
      rw [HW.out]
      go_wp2_with fail
      refine (valid_any P Q G true HVL hQ _ HV0).mono ?_
      rintro e w1 ⟨rfl, hb0⟩
      have hb1 := below_ext (HB.out) hb0
      have HV1 := Lib.hid (HV0.out.below hb0)
      have HX1 := Lib.hid (HX0.out.below hb0)
      have HP1 := Lib.hid (HP0.out.below hb0)
      have HQ_1 := Lib.hid (HQ_0.out.below hb0)
      have HA1 := Lib.hid (HA0.out.below hb0)
      have HZ1 := Lib.hid (HZ0.out.below hb0)
      have HB_1 := Lib.hid (HB_0.out.below hb0)
      have HC_1 := Lib.hid (HC_0.out.below hb0)
      clear hb0
      obtain ⟨c0, c1, c2⟩ := HX1.out
      obtain ⟨d0, d1, d2⟩ := HP1.out
      obtain ⟨e0, e1, e2⟩ := HQ_1.out
      go_wp2_with fail
      refine (kbase_any P Q G b false HVL HK _ HV1).mono ?_
      rintro e w2 ⟨rfl, hb0⟩
      have hb2 := below_ext hb1 hb0
      clear hb0
      go_wp2
      go_ret2
      exact ⟨rfl, hb2⟩
    | true =>
      have HK : Hid (okB P Q b = true) := hk
      cases hm : memG P Q y with
      | false =>
        obtain rfl : r = 2 := by rw [← hr', extE, hval, hk, hm]; rfl
        obtain rfl : v = 0 := by rw [← hv0.out]; rfl
        have HM : Hid (memG P Q y = false) := hm
        have HCn : Hid (conG P Q G y = false) := Lib.hid (by rw [conG, hval, hm]; rfl)
        clear hr' hr0 hv0 hval hk hm
        go_enter Tryd.func35, Tryd.ntmps35
        go_wp2_with fail
        rw [HW.out]
        go_wp2_with fail
        refine (valid_any P Q G true HVL hQ _ HV0).mono ?_
        rintro e w1 ⟨rfl, hb0⟩
        have hb1 := below_ext (HB.out) hb0
        have HV1 := Lib.hid (HV0.out.below hb0)
        have HX1 := Lib.hid (HX0.out.below hb0)
        have HP1 := Lib.hid (HP0.out.below hb0)
        have HQ_1 := Lib.hid (HQ_0.out.below hb0)
        have HA1 := Lib.hid (HA0.out.below hb0)
        have HZ1 := Lib.hid (HZ0.out.below hb0)
        have HB_1 := Lib.hid (HB_0.out.below hb0)
        have HC_1 := Lib.hid (HC_0.out.below hb0)
        clear hb0
        obtain ⟨c0, c1, c2⟩ := HX1.out
        obtain ⟨d0, d1, d2⟩ := HP1.out
        obtain ⟨e0, e1, e2⟩ := HQ_1.out
        go_wp2_with fail
        refine (kbase_any P Q G b true HVL HK _ HV1).mono ?_
        rintro e w2 ⟨rfl, hb0⟩
        have hb2 := below_ext hb1 hb0
        have HV2 := Lib.hid (HV1.out.below hb0)
        have HX2 := Lib.hid (HX1.out.below hb0)
        have HP2 := Lib.hid (HP1.out.below hb0)
        have HQ_2 := Lib.hid (HQ_1.out.below hb0)
        have HA2 := Lib.hid (HA1.out.below hb0)
        have HZ2 := Lib.hid (HZ1.out.below hb0)
        have HB_2 := Lib.hid (HB_1.out.below hb0)
        have HC_2 := Lib.hid (HC_1.out.below hb0)
        clear c0 c1 c2 d0 d1 d2 e0 e1 e2 hb0
        obtain ⟨c0, c1, c2⟩ := HX2.out
        obtain ⟨d0, d1, d2⟩ := HP2.out
        obtain ⟨e0, e1, e2⟩ := HQ_2.out
        go_wp2_with fail
        refine (contains_any P Q G y false HCn hQ _ HV2).mono ?_
        rintro e w3 ⟨rfl, hb0⟩
        have hb3 := below_ext hb2 hb0
        clear hb0
        go_wp2
        go_ret2
        exact ⟨rfl, hb3⟩
      | true =>
        have HM : Hid (memG P Q y = true) := hm
        have HCn : Hid (conG P Q G y = true) := Lib.hid (by rw [conG, hval, hm]; rfl)
        cases kp with
        | false =>
          obtain rfl : r = 11 := by rw [← hr', extE, hval, hk, hm]; rfl
          obtain rfl : v = 0 := by rw [← hv0.out]; rfl
          have Hp := Lib.hid hkp.out
          clear hr' hr0 hv0 hval hk hm
          go_enter Tryd.func35, Tryd.ntmps35
          go_wp2_with fail
          rw [HW.out]
          go_wp2_with fail
          refine (valid_any P Q G true HVL hQ _ HV0).mono ?_
          rintro e w1 ⟨rfl, hb0⟩
          have hb1 := below_ext (HB.out) hb0
          have HV1 := Lib.hid (HV0.out.below hb0)
          have HX1 := Lib.hid (HX0.out.below hb0)
          have HP1 := Lib.hid (HP0.out.below hb0)
          have HQ_1 := Lib.hid (HQ_0.out.below hb0)
          have HA1 := Lib.hid (HA0.out.below hb0)
          have HZ1 := Lib.hid (HZ0.out.below hb0)
          have HB_1 := Lib.hid (HB_0.out.below hb0)
          have HC_1 := Lib.hid (HC_0.out.below hb0)
          clear hb0
          obtain ⟨c0, c1, c2⟩ := HX1.out
          obtain ⟨d0, d1, d2⟩ := HP1.out
          obtain ⟨e0, e1, e2⟩ := HQ_1.out
          go_wp2_with fail
          refine (kbase_any P Q G b true HVL HK _ HV1).mono ?_
          rintro e w2 ⟨rfl, hb0⟩
          have hb2 := below_ext hb1 hb0
          have HV2 := Lib.hid (HV1.out.below hb0)
          have HX2 := Lib.hid (HX1.out.below hb0)
          have HP2 := Lib.hid (HP1.out.below hb0)
          have HQ_2 := Lib.hid (HQ_1.out.below hb0)
          have HA2 := Lib.hid (HA1.out.below hb0)
          have HZ2 := Lib.hid (HZ1.out.below hb0)
          have HB_2 := Lib.hid (HB_1.out.below hb0)
          have HC_2 := Lib.hid (HC_1.out.below hb0)
          clear c0 c1 c2 d0 d1 d2 e0 e1 e2 hb0
          obtain ⟨c0, c1, c2⟩ := HX2.out
          obtain ⟨d0, d1, d2⟩ := HP2.out
          obtain ⟨e0, e1, e2⟩ := HQ_2.out
          go_wp2_with fail
          refine (contains_any P Q G y true HCn hQ _ HV2).mono ?_
          rintro e w3 ⟨rfl, hb0⟩
          have hb3 := below_ext hb2 hb0
          have HV3 := Lib.hid (HV2.out.below hb0)
          have HX3 := Lib.hid (HX2.out.below hb0)
          have HP3 := Lib.hid (HP2.out.below hb0)
          have HQ_3 := Lib.hid (HQ_2.out.below hb0)
          have HA3 := Lib.hid (HA2.out.below hb0)
          have HZ3 := Lib.hid (HZ2.out.below hb0)
          have HB_3 := Lib.hid (HB_2.out.below hb0)
          have HC_3 := Lib.hid (HC_2.out.below hb0)
          clear c0 c1 c2 d0 d1 d2 e0 e1 e2 hb0
          obtain ⟨c0, c1, c2⟩ := HX3.out
          obtain ⟨d0, d1, d2⟩ := HP3.out
          obtain ⟨e0, e1, e2⟩ := HQ_3.out
          go_wp2_with fail
          refine (check_any16 P Q G b y pa na ca a0 C0 pz nz cz z0 false Hp hQ _ HV3 HA3 HZ3).mono ?_
          rintro e w4 ⟨rfl, hb0⟩
          have hb4 := below_ext hb3 hb0
          clear hb0
          go_wp2
          go_ret2
          exact ⟨rfl, hb4⟩
        | true =>
          have Hp := Lib.hid hkp.out
          cases kq with
          | false =>
            obtain rfl : r = 11 := by rw [← hr', extE, hval, hk, hm]; rfl
            obtain rfl : v = 0 := by rw [← hv0.out]; rfl
            have Hq := Lib.hid hkq.out
            clear hr' hr0 hv0 hval hk hm
            go_enter Tryd.func35, Tryd.ntmps35
            go_wp2_with fail
            rw [HW.out]
            go_wp2_with fail
            refine (valid_any P Q G true HVL hQ _ HV0).mono ?_
            rintro e w1 ⟨rfl, hb0⟩
            have hb1 := below_ext (HB.out) hb0
            have HV1 := Lib.hid (HV0.out.below hb0)
            have HX1 := Lib.hid (HX0.out.below hb0)
            have HP1 := Lib.hid (HP0.out.below hb0)
            have HQ_1 := Lib.hid (HQ_0.out.below hb0)
            have HA1 := Lib.hid (HA0.out.below hb0)
            have HZ1 := Lib.hid (HZ0.out.below hb0)
            have HB_1 := Lib.hid (HB_0.out.below hb0)
            have HC_1 := Lib.hid (HC_0.out.below hb0)
            clear hb0
            obtain ⟨c0, c1, c2⟩ := HX1.out
            obtain ⟨d0, d1, d2⟩ := HP1.out
            obtain ⟨e0, e1, e2⟩ := HQ_1.out
            go_wp2_with fail
            refine (kbase_any P Q G b true HVL HK _ HV1).mono ?_
            rintro e w2 ⟨rfl, hb0⟩
            have hb2 := below_ext hb1 hb0
            have HV2 := Lib.hid (HV1.out.below hb0)
            have HX2 := Lib.hid (HX1.out.below hb0)
            have HP2 := Lib.hid (HP1.out.below hb0)
            have HQ_2 := Lib.hid (HQ_1.out.below hb0)
            have HA2 := Lib.hid (HA1.out.below hb0)
            have HZ2 := Lib.hid (HZ1.out.below hb0)
            have HB_2 := Lib.hid (HB_1.out.below hb0)
            have HC_2 := Lib.hid (HC_1.out.below hb0)
            clear c0 c1 c2 d0 d1 d2 e0 e1 e2 hb0
            obtain ⟨c0, c1, c2⟩ := HX2.out
            obtain ⟨d0, d1, d2⟩ := HP2.out
            obtain ⟨e0, e1, e2⟩ := HQ_2.out
            go_wp2_with fail
            refine (contains_any P Q G y true HCn hQ _ HV2).mono ?_
            rintro e w3 ⟨rfl, hb0⟩
            have hb3 := below_ext hb2 hb0
            have HV3 := Lib.hid (HV2.out.below hb0)
            have HX3 := Lib.hid (HX2.out.below hb0)
            have HP3 := Lib.hid (HP2.out.below hb0)
            have HQ_3 := Lib.hid (HQ_2.out.below hb0)
            have HA3 := Lib.hid (HA2.out.below hb0)
            have HZ3 := Lib.hid (HZ2.out.below hb0)
            have HB_3 := Lib.hid (HB_2.out.below hb0)
            have HC_3 := Lib.hid (HC_2.out.below hb0)
            clear c0 c1 c2 d0 d1 d2 e0 e1 e2 hb0
            obtain ⟨c0, c1, c2⟩ := HX3.out
            obtain ⟨d0, d1, d2⟩ := HP3.out
            obtain ⟨e0, e1, e2⟩ := HQ_3.out
            go_wp2_with fail
            refine (check_any16 P Q G b y pa na ca a0 C0 pz nz cz z0 true Hp hQ _ HV3 HA3 HZ3).mono ?_
            rintro e w4 ⟨rfl, hb0⟩
            have hb4 := below_ext hb3 hb0
            have HV4 := Lib.hid (HV3.out.below hb0)
            have HX4 := Lib.hid (HX3.out.below hb0)
            have HP4 := Lib.hid (HP3.out.below hb0)
            have HQ_4 := Lib.hid (HQ_3.out.below hb0)
            have HA4 := Lib.hid (HA3.out.below hb0)
            have HZ4 := Lib.hid (HZ3.out.below hb0)
            have HB_4 := Lib.hid (HB_3.out.below hb0)
            have HC_4 := Lib.hid (HC_3.out.below hb0)
            clear c0 c1 c2 d0 d1 d2 e0 e1 e2 hb0
            obtain ⟨c0, c1, c2⟩ := HX4.out
            obtain ⟨d0, d1, d2⟩ := HP4.out
            obtain ⟨e0, e1, e2⟩ := HQ_4.out
            go_wp2_with fail
            refine (check_any16 P Q G b y qa nb cb a1 C1 qz nw cw z1 false Hq hQ _ HV4 HB_4 HC_4).mono ?_
            rintro e w5 ⟨rfl, hb0⟩
            have hb5 := below_ext hb4 hb0
            clear hb0
            go_wp2
            go_ret2
            exact ⟨rfl, hb5⟩
          | true =>
            have Hq := Lib.hid hkq.out
            obtain ⟨rfl, rfl, hma, hC0, hZ0⟩ := formB_parts (chkB_formB Hp.out)
            obtain ⟨rfl, rfl, hmb, hC1, hZ1⟩ := formB_parts (chkB_formB Hq.out)
            obtain ⟨ba, oa, rfl, hca⟩ := hA.out rfl
            obtain ⟨bz, oz, rfl, hcz⟩ := hZ.out rfl
            obtain ⟨bb, ob, rfl, hcb⟩ := hB.out rfl
            obtain ⟨bw, ow, rfl, hcw⟩ := hC.out rfl
            have HCA := Lib.hid hca
            have HCZ := Lib.hid hcz
            have HCB := Lib.hid hcb
            have HCW := Lib.hid hcw
            have l1 := expB_lo hC0
            have u1 := expB_hi hC0
            have l2 := expB_lo hC1
            have u2 := expB_hi hC1
            have l3 := expB_lo hZ0
            have u3 := expB_hi hZ0
            have l4 := expB_lo hZ1
            have u4 := expB_hi hZ1
            clear hca hcz hcb hcw hma hmb hC0 hC1 hZ0 hZ1
            by_cases hae : a0 = a1
            · by_cases hce : C0 = C1
              · obtain rfl : r = 20 := by rw [← hr', extE, hval, hk, hm]; simp [hae, hce]
                obtain rfl : v = 0 := by rw [← hv0.out]; rfl
                have hcb : ((C0 : Int) == C1) = true := by simp [hce]
                clear hr' hr0 hv0 hval hk hm hce
                go_enter Tryd.func35, Tryd.ntmps35
                go_wp2_with fail
                rw [HW.out]
                go_wp2_with fail
                refine (valid_any P Q G true HVL hQ _ HV0).mono ?_
                rintro e w1 ⟨rfl, hb0⟩
                have hb1 := below_ext (HB.out) hb0
                have HV1 := Lib.hid (HV0.out.below hb0)
                have HX1 := Lib.hid (HX0.out.below hb0)
                have HP1 := Lib.hid (HP0.out.below hb0)
                have HQ_1 := Lib.hid (HQ_0.out.below hb0)
                have HA1 := Lib.hid (HA0.out.below hb0)
                have HZ1 := Lib.hid (HZ0.out.below hb0)
                have HB_1 := Lib.hid (HB_0.out.below hb0)
                have HC_1 := Lib.hid (HC_0.out.below hb0)
                clear hb0
                obtain ⟨c0, c1, c2⟩ := HX1.out
                obtain ⟨d0, d1, d2⟩ := HP1.out
                obtain ⟨e0, e1, e2⟩ := HQ_1.out
                go_wp2_with fail
                refine (kbase_any P Q G b true HVL HK _ HV1).mono ?_
                rintro e w2 ⟨rfl, hb0⟩
                have hb2 := below_ext hb1 hb0
                have HV2 := Lib.hid (HV1.out.below hb0)
                have HX2 := Lib.hid (HX1.out.below hb0)
                have HP2 := Lib.hid (HP1.out.below hb0)
                have HQ_2 := Lib.hid (HQ_1.out.below hb0)
                have HA2 := Lib.hid (HA1.out.below hb0)
                have HZ2 := Lib.hid (HZ1.out.below hb0)
                have HB_2 := Lib.hid (HB_1.out.below hb0)
                have HC_2 := Lib.hid (HC_1.out.below hb0)
                clear c0 c1 c2 d0 d1 d2 e0 e1 e2 hb0
                obtain ⟨c0, c1, c2⟩ := HX2.out
                obtain ⟨d0, d1, d2⟩ := HP2.out
                obtain ⟨e0, e1, e2⟩ := HQ_2.out
                go_wp2_with fail
                refine (contains_any P Q G y true HCn hQ _ HV2).mono ?_
                rintro e w3 ⟨rfl, hb0⟩
                have hb3 := below_ext hb2 hb0
                have HV3 := Lib.hid (HV2.out.below hb0)
                have HX3 := Lib.hid (HX2.out.below hb0)
                have HP3 := Lib.hid (HP2.out.below hb0)
                have HQ_3 := Lib.hid (HQ_2.out.below hb0)
                have HA3 := Lib.hid (HA2.out.below hb0)
                have HZ3 := Lib.hid (HZ2.out.below hb0)
                have HB_3 := Lib.hid (HB_2.out.below hb0)
                have HC_3 := Lib.hid (HC_2.out.below hb0)
                clear c0 c1 c2 d0 d1 d2 e0 e1 e2 hb0
                obtain ⟨c0, c1, c2⟩ := HX3.out
                obtain ⟨d0, d1, d2⟩ := HP3.out
                obtain ⟨e0, e1, e2⟩ := HQ_3.out
                go_wp2_with fail
                refine (check_any16 P Q G b y (some ⟨ba, oa, none⟩) 1 ca a0 C0 (some ⟨bz, oz, none⟩) 1 cz z0 true Hp hQ _ HV3 HA3 HZ3).mono ?_
                rintro e w4 ⟨rfl, hb0⟩
                have hb4 := below_ext hb3 hb0
                have HV4 := Lib.hid (HV3.out.below hb0)
                have HX4 := Lib.hid (HX3.out.below hb0)
                have HP4 := Lib.hid (HP3.out.below hb0)
                have HQ_4 := Lib.hid (HQ_3.out.below hb0)
                have HA4 := Lib.hid (HA3.out.below hb0)
                have HZ4 := Lib.hid (HZ3.out.below hb0)
                have HB_4 := Lib.hid (HB_3.out.below hb0)
                have HC_4 := Lib.hid (HC_3.out.below hb0)
                clear c0 c1 c2 d0 d1 d2 e0 e1 e2 hb0
                obtain ⟨c0, c1, c2⟩ := HX4.out
                obtain ⟨d0, d1, d2⟩ := HP4.out
                obtain ⟨e0, e1, e2⟩ := HQ_4.out
                go_wp2_with fail
                refine (check_any16 P Q G b y (some ⟨bb, ob, none⟩) 1 cb a1 C1 (some ⟨bw, ow, none⟩) 1 cw z1 true Hq hQ _ HV4 HB_4 HC_4).mono ?_
                rintro e w5 ⟨rfl, hb0⟩
                have hb5 := below_ext hb4 hb0
                have HV5 := Lib.hid (HV4.out.below hb0)
                have HX5 := Lib.hid (HX4.out.below hb0)
                have HP5 := Lib.hid (HP4.out.below hb0)
                have HQ_5 := Lib.hid (HQ_4.out.below hb0)
                have HA5 := Lib.hid (HA4.out.below hb0)
                have HZ5 := Lib.hid (HZ4.out.below hb0)
                have HB_5 := Lib.hid (HB_4.out.below hb0)
                have HC_5 := Lib.hid (HC_4.out.below hb0)
                clear c0 c1 c2 d0 d1 d2 e0 e1 e2 hb0
                obtain ⟨c0, c1, c2⟩ := HX5.out
                obtain ⟨d0, d1, d2⟩ := HP5.out
                obtain ⟨e0, e1, e2⟩ := HQ_5.out
                clear c0 c1 c2 d0 d1 d2 e0 e1 e2
                have hae2 : ((a0 : Int) == a1) = true := by simp [hae]
                have HPE := Lib.hid (eq_one ba oa ca bb ob cb a0 a1 true w5 (cell_below HCA.out hb5) (cell_below HCB.out hb5) hae2)
                clear hae hae2
                obtain ⟨d0, d1, d2⟩ := HP5.out
                obtain ⟨e0, e1, e2⟩ := HQ_5.out
                obtain ⟨c0, c1, c2⟩ := HX5.out
                go_wp2_with fail
                refine HPE.out.mono ?_
                rintro e w6 ⟨rfl, hb0⟩
                clear c0 c1 c2 d0 d1 d2 e0 e1 e2
                have hb6 := below_ext hb5 hb0
                have HX6 := Lib.hid (HX5.out.below hb0)
                have HP6 := Lib.hid (HP5.out.below hb0)
                have HQ_6 := Lib.hid (HQ_5.out.below hb0)
                clear hb0
                obtain ⟨c0, c1, c2⟩ := HX6.out
                obtain ⟨d0, d1, d2⟩ := HP6.out
                obtain ⟨e0, e1, e2⟩ := HQ_6.out
                go_wp2
                go_ret2
                exact ⟨rfl, hb6⟩
              · obtain rfl : r = 0 := by rw [← hr', extE, hval, hk, hm]; simp [hae, hce]
                have hcb : ((C0 : Int) == C1) = false := by simp [hce]
                obtain ⟨t, ht⟩ : ∃ t, (z0 - z1) % Q = t := ⟨_, rfl⟩
                obtain ⟨c, hc⟩ : ∃ c, (C0 - C1) % Q = c := ⟨_, rfl⟩
                obtain ⟨i, hi⟩ : ∃ i, invOf c Q = i := ⟨_, rfl⟩
                have hvv : t * i % Q = v := by rw [← hv0.out, if_pos rfl, extV, ht, hc, hi]
                have t0 : 0 ≤ t := by rw [← ht]; exact Int.emod_nonneg _ (by omega)
                have t1 : t < Q := by rw [← ht]; exact Int.emod_lt_of_pos _ (by omega)
                have k0 : 0 ≤ c := by rw [← hc]; exact Int.emod_nonneg _ (by omega)
                have k1 : c < Q := by rw [← hc]; exact Int.emod_lt_of_pos _ (by omega)
                have HT : Hid ((z0 - z1 + Q) % Q = t) := Lib.hid (by rw [Int.add_emod_right, ht])
                have HCc : Hid ((C0 - C1 + Q) % Q = c) := Lib.hid (by rw [Int.add_emod_right, hc])
                have HT2 := Lib.hid ht
                have HC2 := Lib.hid hc
                have HI := Lib.hid hi
                have HVV := Lib.hid hvv
                clear ht hc hi hvv hr' hr0 hv0 hval hk hm hce
                go_enter Tryd.func35, Tryd.ntmps35
                go_wp2_with fail
                rw [HW.out]
                go_wp2_with fail
                refine (valid_any P Q G true HVL hQ _ HV0).mono ?_
                rintro e w1 ⟨rfl, hb0⟩
                have hb1 := below_ext (HB.out) hb0
                have HV1 := Lib.hid (HV0.out.below hb0)
                have HX1 := Lib.hid (HX0.out.below hb0)
                have HP1 := Lib.hid (HP0.out.below hb0)
                have HQ_1 := Lib.hid (HQ_0.out.below hb0)
                have HA1 := Lib.hid (HA0.out.below hb0)
                have HZ1 := Lib.hid (HZ0.out.below hb0)
                have HB_1 := Lib.hid (HB_0.out.below hb0)
                have HC_1 := Lib.hid (HC_0.out.below hb0)
                clear hb0
                obtain ⟨c0, c1, c2⟩ := HX1.out
                obtain ⟨d0, d1, d2⟩ := HP1.out
                obtain ⟨e0, e1, e2⟩ := HQ_1.out
                go_wp2_with fail
                refine (kbase_any P Q G b true HVL HK _ HV1).mono ?_
                rintro e w2 ⟨rfl, hb0⟩
                have hb2 := below_ext hb1 hb0
                have HV2 := Lib.hid (HV1.out.below hb0)
                have HX2 := Lib.hid (HX1.out.below hb0)
                have HP2 := Lib.hid (HP1.out.below hb0)
                have HQ_2 := Lib.hid (HQ_1.out.below hb0)
                have HA2 := Lib.hid (HA1.out.below hb0)
                have HZ2 := Lib.hid (HZ1.out.below hb0)
                have HB_2 := Lib.hid (HB_1.out.below hb0)
                have HC_2 := Lib.hid (HC_1.out.below hb0)
                clear c0 c1 c2 d0 d1 d2 e0 e1 e2 hb0
                obtain ⟨c0, c1, c2⟩ := HX2.out
                obtain ⟨d0, d1, d2⟩ := HP2.out
                obtain ⟨e0, e1, e2⟩ := HQ_2.out
                go_wp2_with fail
                refine (contains_any P Q G y true HCn hQ _ HV2).mono ?_
                rintro e w3 ⟨rfl, hb0⟩
                have hb3 := below_ext hb2 hb0
                have HV3 := Lib.hid (HV2.out.below hb0)
                have HX3 := Lib.hid (HX2.out.below hb0)
                have HP3 := Lib.hid (HP2.out.below hb0)
                have HQ_3 := Lib.hid (HQ_2.out.below hb0)
                have HA3 := Lib.hid (HA2.out.below hb0)
                have HZ3 := Lib.hid (HZ2.out.below hb0)
                have HB_3 := Lib.hid (HB_2.out.below hb0)
                have HC_3 := Lib.hid (HC_2.out.below hb0)
                clear c0 c1 c2 d0 d1 d2 e0 e1 e2 hb0
                obtain ⟨c0, c1, c2⟩ := HX3.out
                obtain ⟨d0, d1, d2⟩ := HP3.out
                obtain ⟨e0, e1, e2⟩ := HQ_3.out
                go_wp2_with fail
                refine (check_any16 P Q G b y (some ⟨ba, oa, none⟩) 1 ca a0 C0 (some ⟨bz, oz, none⟩) 1 cz z0 true Hp hQ _ HV3 HA3 HZ3).mono ?_
                rintro e w4 ⟨rfl, hb0⟩
                have hb4 := below_ext hb3 hb0
                have HV4 := Lib.hid (HV3.out.below hb0)
                have HX4 := Lib.hid (HX3.out.below hb0)
                have HP4 := Lib.hid (HP3.out.below hb0)
                have HQ_4 := Lib.hid (HQ_3.out.below hb0)
                have HA4 := Lib.hid (HA3.out.below hb0)
                have HZ4 := Lib.hid (HZ3.out.below hb0)
                have HB_4 := Lib.hid (HB_3.out.below hb0)
                have HC_4 := Lib.hid (HC_3.out.below hb0)
                clear c0 c1 c2 d0 d1 d2 e0 e1 e2 hb0
                obtain ⟨c0, c1, c2⟩ := HX4.out
                obtain ⟨d0, d1, d2⟩ := HP4.out
                obtain ⟨e0, e1, e2⟩ := HQ_4.out
                go_wp2_with fail
                refine (check_any16 P Q G b y (some ⟨bb, ob, none⟩) 1 cb a1 C1 (some ⟨bw, ow, none⟩) 1 cw z1 true Hq hQ _ HV4 HB_4 HC_4).mono ?_
                rintro e w5 ⟨rfl, hb0⟩
                have hb5 := below_ext hb4 hb0
                have HV5 := Lib.hid (HV4.out.below hb0)
                have HX5 := Lib.hid (HX4.out.below hb0)
                have HP5 := Lib.hid (HP4.out.below hb0)
                have HQ_5 := Lib.hid (HQ_4.out.below hb0)
                have HA5 := Lib.hid (HA4.out.below hb0)
                have HZ5 := Lib.hid (HZ4.out.below hb0)
                have HB_5 := Lib.hid (HB_4.out.below hb0)
                have HC_5 := Lib.hid (HC_4.out.below hb0)
                clear c0 c1 c2 d0 d1 d2 e0 e1 e2 hb0
                obtain ⟨c0, c1, c2⟩ := HX5.out
                obtain ⟨d0, d1, d2⟩ := HP5.out
                obtain ⟨e0, e1, e2⟩ := HQ_5.out
                clear c0 c1 c2 d0 d1 d2 e0 e1 e2
                have hae2 : ((a0 : Int) == a1) = true := by simp [hae]
                have HPE := Lib.hid (eq_one ba oa ca bb ob cb a0 a1 true w5 (cell_below HCA.out hb5) (cell_below HCB.out hb5) hae2)
                clear hae hae2
                obtain ⟨d0, d1, d2⟩ := HP5.out
                obtain ⟨e0, e1, e2⟩ := HQ_5.out
                obtain ⟨c0, c1, c2⟩ := HX5.out
                go_wp2_with fail
                refine HPE.out.mono ?_
                rintro e w6 ⟨rfl, hb0⟩
                clear c0 c1 c2 d0 d1 d2 e0 e1 e2
                have hb6 := below_ext hb5 hb0
                have HX6 := Lib.hid (HX5.out.below hb0)
                have HP6 := Lib.hid (HP5.out.below hb0)
                have HQ_6 := Lib.hid (HQ_5.out.below hb0)
                clear hb0
                obtain ⟨c0, c1, c2⟩ := HX6.out
                obtain ⟨d0, d1, d2⟩ := HP6.out
                obtain ⟨e0, e1, e2⟩ := HQ_6.out
                have z0c := cell_below HCZ.out hb6
                have z1c := cell_below HCW.out hb6
                go_wp2
                go_quiet ((go_at_call 70; exact quiet_left (sub_eq z0 z1 Q t HT (by omega) l3 u3 l4 u4 _)))
                go_wp2_with fail
                refine (sub_eq C0 C1 Q c HCc (by omega) l1 u1 l2 u2 _).mono ?_
                rintro e w' ⟨rfl, rfl⟩
                go_wp2_with fail
                refine (winv_any c Q (by omega) (by omega) k0 k1 _).mono ?_
                rintro e w' ⟨i', r', rfl, hinv, n2, rfl⟩
                obtain rfl : i' = i := (invOf_eq hinv).symm.trans HI.out
                have i0 := hinv.1
                have i1 := hinv.2.1
                clear hinv
                go_wp2_with fail
                refine (wmul_ok t i' Q (by omega) t0 t1 i0 i1 _).mono ?_
                rintro e w' ⟨rfl, n3, rfl⟩
                rw [HVV.out]
                go_wp2
                go_ret2
                refine ⟨rfl, ?_⟩
                repeat (first | exact hb6 | refine below_drawN ?_ _)
            · obtain rfl : r = 11 := by rw [← hr', extE, hval, hk, hm]; simp [hae]
              obtain rfl : v = 0 := by rw [← hv0.out]; rfl
              clear hr' hr0 hv0 hval hk hm
              go_enter Tryd.func35, Tryd.ntmps35
              go_wp2_with fail
              rw [HW.out]
              go_wp2_with fail
              refine (valid_any P Q G true HVL hQ _ HV0).mono ?_
              rintro e w1 ⟨rfl, hb0⟩
              have hb1 := below_ext (HB.out) hb0
              have HV1 := Lib.hid (HV0.out.below hb0)
              have HX1 := Lib.hid (HX0.out.below hb0)
              have HP1 := Lib.hid (HP0.out.below hb0)
              have HQ_1 := Lib.hid (HQ_0.out.below hb0)
              have HA1 := Lib.hid (HA0.out.below hb0)
              have HZ1 := Lib.hid (HZ0.out.below hb0)
              have HB_1 := Lib.hid (HB_0.out.below hb0)
              have HC_1 := Lib.hid (HC_0.out.below hb0)
              clear hb0
              obtain ⟨c0, c1, c2⟩ := HX1.out
              obtain ⟨d0, d1, d2⟩ := HP1.out
              obtain ⟨e0, e1, e2⟩ := HQ_1.out
              go_wp2_with fail
              refine (kbase_any P Q G b true HVL HK _ HV1).mono ?_
              rintro e w2 ⟨rfl, hb0⟩
              have hb2 := below_ext hb1 hb0
              have HV2 := Lib.hid (HV1.out.below hb0)
              have HX2 := Lib.hid (HX1.out.below hb0)
              have HP2 := Lib.hid (HP1.out.below hb0)
              have HQ_2 := Lib.hid (HQ_1.out.below hb0)
              have HA2 := Lib.hid (HA1.out.below hb0)
              have HZ2 := Lib.hid (HZ1.out.below hb0)
              have HB_2 := Lib.hid (HB_1.out.below hb0)
              have HC_2 := Lib.hid (HC_1.out.below hb0)
              clear c0 c1 c2 d0 d1 d2 e0 e1 e2 hb0
              obtain ⟨c0, c1, c2⟩ := HX2.out
              obtain ⟨d0, d1, d2⟩ := HP2.out
              obtain ⟨e0, e1, e2⟩ := HQ_2.out
              go_wp2_with fail
              refine (contains_any P Q G y true HCn hQ _ HV2).mono ?_
              rintro e w3 ⟨rfl, hb0⟩
              have hb3 := below_ext hb2 hb0
              have HV3 := Lib.hid (HV2.out.below hb0)
              have HX3 := Lib.hid (HX2.out.below hb0)
              have HP3 := Lib.hid (HP2.out.below hb0)
              have HQ_3 := Lib.hid (HQ_2.out.below hb0)
              have HA3 := Lib.hid (HA2.out.below hb0)
              have HZ3 := Lib.hid (HZ2.out.below hb0)
              have HB_3 := Lib.hid (HB_2.out.below hb0)
              have HC_3 := Lib.hid (HC_2.out.below hb0)
              clear c0 c1 c2 d0 d1 d2 e0 e1 e2 hb0
              obtain ⟨c0, c1, c2⟩ := HX3.out
              obtain ⟨d0, d1, d2⟩ := HP3.out
              obtain ⟨e0, e1, e2⟩ := HQ_3.out
              go_wp2_with fail
              refine (check_any16 P Q G b y (some ⟨ba, oa, none⟩) 1 ca a0 C0 (some ⟨bz, oz, none⟩) 1 cz z0 true Hp hQ _ HV3 HA3 HZ3).mono ?_
              rintro e w4 ⟨rfl, hb0⟩
              have hb4 := below_ext hb3 hb0
              have HV4 := Lib.hid (HV3.out.below hb0)
              have HX4 := Lib.hid (HX3.out.below hb0)
              have HP4 := Lib.hid (HP3.out.below hb0)
              have HQ_4 := Lib.hid (HQ_3.out.below hb0)
              have HA4 := Lib.hid (HA3.out.below hb0)
              have HZ4 := Lib.hid (HZ3.out.below hb0)
              have HB_4 := Lib.hid (HB_3.out.below hb0)
              have HC_4 := Lib.hid (HC_3.out.below hb0)
              clear c0 c1 c2 d0 d1 d2 e0 e1 e2 hb0
              obtain ⟨c0, c1, c2⟩ := HX4.out
              obtain ⟨d0, d1, d2⟩ := HP4.out
              obtain ⟨e0, e1, e2⟩ := HQ_4.out
              go_wp2_with fail
              refine (check_any16 P Q G b y (some ⟨bb, ob, none⟩) 1 cb a1 C1 (some ⟨bw, ow, none⟩) 1 cw z1 true Hq hQ _ HV4 HB_4 HC_4).mono ?_
              rintro e w5 ⟨rfl, hb0⟩
              have hb5 := below_ext hb4 hb0
              have HV5 := Lib.hid (HV4.out.below hb0)
              have HX5 := Lib.hid (HX4.out.below hb0)
              have HP5 := Lib.hid (HP4.out.below hb0)
              have HQ_5 := Lib.hid (HQ_4.out.below hb0)
              have HA5 := Lib.hid (HA4.out.below hb0)
              have HZ5 := Lib.hid (HZ4.out.below hb0)
              have HB_5 := Lib.hid (HB_4.out.below hb0)
              have HC_5 := Lib.hid (HC_4.out.below hb0)
              clear c0 c1 c2 d0 d1 d2 e0 e1 e2 hb0
              obtain ⟨c0, c1, c2⟩ := HX5.out
              obtain ⟨d0, d1, d2⟩ := HP5.out
              obtain ⟨e0, e1, e2⟩ := HQ_5.out
              clear c0 c1 c2 d0 d1 d2 e0 e1 e2
              have hae2 : ((a0 : Int) == a1) = false := by simp [hae]
              have HPE := Lib.hid (eq_one ba oa ca bb ob cb a0 a1 false w5 (cell_below HCA.out hb5) (cell_below HCB.out hb5) hae2)
              clear hae hae2
              obtain ⟨d0, d1, d2⟩ := HP5.out
              obtain ⟨e0, e1, e2⟩ := HQ_5.out
              obtain ⟨c0, c1, c2⟩ := HX5.out
              go_wp2_with fail
              refine HPE.out.mono ?_
              rintro e w6 ⟨rfl, hb0⟩
              clear c0 c1 c2 d0 d1 d2 e0 e1 e2
              have hb6 := below_ext hb5 hb0
              have HX6 := Lib.hid (HX5.out.below hb0)
              have HP6 := Lib.hid (HP5.out.below hb0)
              have HQ_6 := Lib.hid (HQ_5.out.below hb0)
              clear hb0
              obtain ⟨c0, c1, c2⟩ := HX6.out
              obtain ⟨d0, d1, d2⟩ := HP6.out
              obtain ⟨e0, e1, e2⟩ := HQ_6.out
              go_wp2
              go_ret2
              exact ⟨rfl, hb6⟩

end Go.Proofs.YtohjfnhgibedpaaDoor
