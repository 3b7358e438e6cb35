/- The contracts of packages knowledge and specieref16: which proofs are right. -/
import Derived.Test.YtohjfnhgibedpaaDoorKnF
namespace Go.Proofs.YtohjfnhgibedpaaDoor
open Go.RowKit SpM
set_option linter.unusedVariables false

/-- which proofs are right. -/
def chkB (P Q G b y : Int) (na : Nat) (a0 C : Int) (nz : Nat) (z0 : Int) : Bool := validG P Q G && (okB P Q b && (memG P Q y && (formB P Q na a0 C nz z0 && (pw b (z0 % Q) P == a0 * pw y (C % Q) P % P))))

theorem formB_parts {P Q : Int} {na : Nat} {a0 C : Int} {nz : Nat} {z0 : Int} (h : formB P Q na a0 C nz z0 = true) : na = 1 ∧ nz = 1 ∧ memG P Q a0 = true ∧ expB Q C = true ∧ expB Q z0 = true := by
  simp [formB] at h
  exact ⟨h.1, h.2.1, h.2.2.1, h.2.2.2.1, h.2.2.2.2⟩

set_option maxHeartbeats 6400000 in
theorem check_any16 (P Q G b y : Int) (pa : Option Addr) (na ca : Nat) (a0 C : Int) (pz : Option Addr) (nz cz : Nat) (z0 : Int) (r : Bool) (hr : Hid (chkB P Q G b y na a0 C nz z0 = r)) (hQ : Q < 9223372036854775808) (w : World) (hv : Hid (Vars w))
    (hA : Hid (One w pa na a0)) (hZ : Hid (One w pz nz z0)) :
    Calls Tryd.prog 68 #[gv P Q G, .int .i64 b, .int .i64 y, prv pa na ca C pz nz cz] w fun e' w' => e' = .returned (.bool r) ∧ Below w.heap.size w w' := by
  obtain ⟨w0, hW⟩ : ∃ W, (w.alloc (gObj P Q G)).alloc (prObj pa na ca C pz nz cz) = W := ⟨_, rfl⟩
  have HB : Hid (Below w.heap.size w w0) := Lib.hid (by rw [← hW]; exact below_two (Below.refl _ _))
  have HX0 : Hid (GBox w0 w.heap.size P Q G) := Lib.hid (by rw [← hW]; exact (gbox_alloc w P Q G).below (below_box0 _ _))
  have HP0 : Hid (PBox w0 (w.heap.size + 1) (.slice pa na ca) (.int .i64 C) (.slice pz nz cz)) := Lib.hid (by rw [← hW]; exact pbox_alloc w _ _ _ _ _)
  have HA0 : Hid (One w0 pa na a0) := Lib.hid (hA.out.below HB.out)
  have HZ0 : Hid (One w0 pz nz z0) := Lib.hid (hZ.out.below HB.out)
  have HV0 : Hid (Vars w0) := Lib.hid (hv.out.below HB.out)
  have HW := Lib.hid hW
  clear hW
  have hr' := hr.out
  cases hval : validG P Q G with
  | false =>
    obtain rfl : r = false := by rw [← hr', chkB, hval]; simp
    have HVL : Hid (validG P Q G = false) := hval
    clear hr' hr hval
    go_enter Tryd.func68, Tryd.ntmps68
    go_wp2_with fail
    rw [HW.out]
    go_wp2_with fail
    refine (valid_any P Q G false HVL hQ _ HV0).mono ?_
    rintro e w1 ⟨rfl, hb0⟩
    have hb1 := below_ext (HB.out) hb0
    clear hb0
    go_wp2
    go_ret
    exact ⟨rfl, hb1⟩
  | true =>
    have HVL : Hid (validG P Q G = true) := hval
    obtain ⟨hp2, hp, hq3, hqp⟩ := validG_P hval
    cases hk : okB P Q b with
    | false =>
      obtain rfl : r = false := by rw [← hr', chkB, hk]; simp
      have HK : Hid (okB P Q b = false) := hk
      clear hr' hr hval hk
      go_enter Tryd.func68, Tryd.ntmps68
      go_wp2_with fail
      rw [HW.out]
      go_wp2_with fail
      refine (valid_any P Q G true HVL hQ _ HV0).mono ?_
      rintro e w1 ⟨rfl, hb0⟩
      have hb1 := below_ext (HB.out) hb0
      have HV1 := Lib.hid (HV0.out.below hb0)
      have HX1 := Lib.hid (HX0.out.below hb0)
      have HP1 := Lib.hid (HP0.out.below hb0)
      have HA1 := Lib.hid (HA0.out.below hb0)
      have HZ1 := Lib.hid (HZ0.out.below hb0)
      clear hb0
      obtain ⟨c0, c1, c2⟩ := HX1.out
      obtain ⟨d0, d1, d2⟩ := HP1.out
      go_wp2_with fail
      refine (kbase_any P Q G b false HVL HK _ HV1).mono ?_
      rintro e w2 ⟨rfl, hb0⟩
      have hb2 := below_ext hb1 hb0
      clear hb0
      go_wp2
      go_ret
      exact ⟨rfl, hb2⟩
    | true =>
      have HK : Hid (okB P Q b = true) := hk
      cases hm : memG P Q y with
      | false =>
        obtain rfl : r = false := by rw [← hr', chkB, hm]; simp
        have HM : Hid (memG P Q y = false) := hm
        have HC : Hid (conG P Q G y = false) := Lib.hid (by rw [conG, hval, hm]; rfl)
        clear hr' hr hval hk hm
        go_enter Tryd.func68, Tryd.ntmps68
        go_wp2_with fail
        rw [HW.out]
        go_wp2_with fail
        refine (valid_any P Q G true HVL hQ _ HV0).mono ?_
        rintro e w1 ⟨rfl, hb0⟩
        have hb1 := below_ext (HB.out) hb0
        have HV1 := Lib.hid (HV0.out.below hb0)
        have HX1 := Lib.hid (HX0.out.below hb0)
        have HP1 := Lib.hid (HP0.out.below hb0)
        have HA1 := Lib.hid (HA0.out.below hb0)
        have HZ1 := Lib.hid (HZ0.out.below hb0)
        clear hb0
        obtain ⟨c0, c1, c2⟩ := HX1.out
        obtain ⟨d0, d1, d2⟩ := HP1.out
        go_wp2_with fail
        refine (kbase_any P Q G b true HVL HK _ HV1).mono ?_
        rintro e w2 ⟨rfl, hb0⟩
        have hb2 := below_ext hb1 hb0
        have HV2 := Lib.hid (HV1.out.below hb0)
        have HX2 := Lib.hid (HX1.out.below hb0)
        have HP2 := Lib.hid (HP1.out.below hb0)
        have HA2 := Lib.hid (HA1.out.below hb0)
        have HZ2 := Lib.hid (HZ1.out.below hb0)
        clear c0 c1 c2 d0 d1 d2 hb0
        obtain ⟨c0, c1, c2⟩ := HX2.out
        obtain ⟨d0, d1, d2⟩ := HP2.out
        go_wp2_with fail
        refine (contains_any P Q G y false HC hQ _ HV2).mono ?_
        rintro e w3 ⟨rfl, hb0⟩
        have hb3 := below_ext hb2 hb0
        clear hb0
        go_wp2
        go_ret
        exact ⟨rfl, hb3⟩
      | true =>
        have HM : Hid (memG P Q y = true) := hm
        have HC : Hid (conG P Q G y = true) := Lib.hid (by rw [conG, hval, hm]; rfl)
        cases hf : formB P Q na a0 C nz z0 with
        | false =>
          obtain rfl : r = false := by rw [← hr', chkB, hf]; simp
          have HF : Hid (formB P Q na a0 C nz z0 = false) := hf
          clear hr' hr hval hk hm hf
          go_enter Tryd.func68, Tryd.ntmps68
          go_wp2_with fail
          rw [HW.out]
          go_wp2_with fail
          refine (valid_any P Q G true HVL hQ _ HV0).mono ?_
          rintro e w1 ⟨rfl, hb0⟩
          have hb1 := below_ext (HB.out) hb0
          have HV1 := Lib.hid (HV0.out.below hb0)
          have HX1 := Lib.hid (HX0.out.below hb0)
          have HP1 := Lib.hid (HP0.out.below hb0)
          have HA1 := Lib.hid (HA0.out.below hb0)
          have HZ1 := Lib.hid (HZ0.out.below hb0)
          clear hb0
          obtain ⟨c0, c1, c2⟩ := HX1.out
          obtain ⟨d0, d1, d2⟩ := HP1.out
          go_wp2_with fail
          refine (kbase_any P Q G b true HVL HK _ HV1).mono ?_
          rintro e w2 ⟨rfl, hb0⟩
          have hb2 := below_ext hb1 hb0
          have HV2 := Lib.hid (HV1.out.below hb0)
          have HX2 := Lib.hid (HX1.out.below hb0)
          have HP2 := Lib.hid (HP1.out.below hb0)
          have HA2 := Lib.hid (HA1.out.below hb0)
          have HZ2 := Lib.hid (HZ1.out.below hb0)
          clear c0 c1 c2 d0 d1 d2 hb0
          obtain ⟨c0, c1, c2⟩ := HX2.out
          obtain ⟨d0, d1, d2⟩ := HP2.out
          go_wp2_with fail
          refine (contains_any P Q G y true HC hQ _ HV2).mono ?_
          rintro e w3 ⟨rfl, hb0⟩
          have hb3 := below_ext hb2 hb0
          have HV3 := Lib.hid (HV2.out.below hb0)
          have HX3 := Lib.hid (HX2.out.below hb0)
          have HP3 := Lib.hid (HP2.out.below hb0)
          have HA3 := Lib.hid (HA2.out.below hb0)
          have HZ3 := Lib.hid (HZ2.out.below hb0)
          clear c0 c1 c2 d0 d1 d2 hb0
          obtain ⟨c0, c1, c2⟩ := HX3.out
          obtain ⟨d0, d1, d2⟩ := HP3.out
          go_wp2_with fail
          refine (formed_any P Q G pa na ca a0 C pz nz cz z0 false HF HVL hQ _ HV3 HA3 HZ3).mono ?_
          rintro e w4 ⟨rfl, hb0⟩
          have hb4 := below_ext hb3 hb0
          clear hb0
          go_wp2
          go_ret
          exact ⟨rfl, hb4⟩
        | true =>
          have HF : Hid (formB P Q na a0 C nz z0 = true) := hf
          obtain ⟨rfl, rfl, hma, hC, hZ0⟩ := formB_parts hf
          obtain ⟨ba, oa, rfl, hca⟩ := hA.out rfl
          obtain ⟨bz, oz, rfl, hcz⟩ := hZ.out rfl
          have hbm := okB_mem hk
          have Cl := expB_lo hC
          have Cu := expB_hi hC
          have Zl := expB_lo hZ0
          have Zu := expB_hi hZ0
          obtain ⟨p1, hp1⟩ : ∃ p1, pw b (z0 % Q) P = p1 := ⟨_, rfl⟩
          obtain ⟨p2, hp2'⟩ : ∃ p2, pw y (C % Q) P = p2 := ⟨_, rfl⟩
          obtain ⟨p3, hp3⟩ : ∃ p3, a0 * p2 % P = p3 := ⟨_, rfl⟩
          have m2 : memG P Q p2 = true := by rw [← hp2']; exact mem_pw hp2 (by omega) (Int.emod_nonneg _ (by omega)) hm
          have HCb : Hid (chkG P Q G [b] = 0) := Lib.hid (chkG_ok hval (by simp [hbm]))
          have HCy : Hid (chkG P Q G [y] = 0) := Lib.hid (chkG_ok hval (by simp [hm]))
          have HCm : Hid (chkG P Q G [a0, p2] = 0) := Lib.hid (chkG_ok hval (by simp [hma, m2]))
          have HG : Hid (givE P Q G b y = 0) := Lib.hid (by rw [givE, hval, hk, hm]; rfl)
          have heq : ((p1 : Int) == p3) = r := by rw [← hr', chkB, hval, hk, hm, hf, hp1, hp2', hp3]; rfl
          have H1 := Lib.hid hp1
          have H2 := Lib.hid hp2'
          have H3 := Lib.hid hp3
          have bl := memG_lo hbm
          have bu := memG_hi hbm
          have yl := memG_lo hm
          have yu := memG_hi hm
          have al := memG_lo hma
          have au := memG_hi hma
          have l2 := memG_lo m2
          have u2 := memG_hi m2
          have HCA : Hid (w.cell? ⟨ba, oa, none⟩ = some (.int .i64 a0)) := Lib.hid hca
          have HCZ : Hid (w.cell? ⟨bz, oz, none⟩ = some (.int .i64 z0)) := Lib.hid hcz
          clear hr' hr hval hk hm hf hma hC hZ0 hca hcz hbm hp1 hp2' hp3 m2
          go_enter Tryd.func68, Tryd.ntmps68
          go_wp2_with fail
          rw [HW.out]
          go_wp2_with fail
          refine (valid_any P Q G true HVL hQ _ HV0).mono ?_
          rintro e w1 ⟨rfl, hb0⟩
          have hb1 := below_ext (HB.out) hb0
          have HV1 := Lib.hid (HV0.out.below hb0)
          have HX1 := Lib.hid (HX0.out.below hb0)
          have HP1 := Lib.hid (HP0.out.below hb0)
          have HA1 := Lib.hid (HA0.out.below hb0)
          have HZ1 := Lib.hid (HZ0.out.below hb0)
          clear hb0
          obtain ⟨c0, c1, c2⟩ := HX1.out
          obtain ⟨d0, d1, d2⟩ := HP1.out
          go_wp2_with fail
          refine (kbase_any P Q G b true HVL HK _ HV1).mono ?_
          rintro e w2 ⟨rfl, hb0⟩
          have hb2 := below_ext hb1 hb0
          have HV2 := Lib.hid (HV1.out.below hb0)
          have HX2 := Lib.hid (HX1.out.below hb0)
          have HP2 := Lib.hid (HP1.out.below hb0)
          have HA2 := Lib.hid (HA1.out.below hb0)
          have HZ2 := Lib.hid (HZ1.out.below hb0)
          clear c0 c1 c2 d0 d1 d2 hb0
          obtain ⟨c0, c1, c2⟩ := HX2.out
          obtain ⟨d0, d1, d2⟩ := HP2.out
          go_wp2_with fail
          refine (contains_any P Q G y true HC hQ _ HV2).mono ?_
          rintro e w3 ⟨rfl, hb0⟩
          have hb3 := below_ext hb2 hb0
          have HV3 := Lib.hid (HV2.out.below hb0)
          have HX3 := Lib.hid (HX2.out.below hb0)
          have HP3 := Lib.hid (HP2.out.below hb0)
          have HA3 := Lib.hid (HA2.out.below hb0)
          have HZ3 := Lib.hid (HZ2.out.below hb0)
          clear c0 c1 c2 d0 d1 d2 hb0
          obtain ⟨c0, c1, c2⟩ := HX3.out
          obtain ⟨d0, d1, d2⟩ := HP3.out
          go_wp2_with fail
          refine (formed_any P Q G (some ⟨ba, oa, none⟩) 1 ca a0 C (some ⟨bz, oz, none⟩) 1 cz z0 true HF HVL hQ _ HV3 HA3 HZ3).mono ?_
          rintro e w4 ⟨rfl, hb0⟩
          have hb4 := below_ext hb3 hb0
          have HV4 := Lib.hid (HV3.out.below hb0)
          have HX4 := Lib.hid (HX3.out.below hb0)
          have HP4 := Lib.hid (HP3.out.below hb0)
          have HA4 := Lib.hid (HA3.out.below hb0)
          have HZ4 := Lib.hid (HZ3.out.below hb0)
          clear c0 c1 c2 d0 d1 d2 hb0
          obtain ⟨c0, c1, c2⟩ := HX4.out
          obtain ⟨d0, d1, d2⟩ := HP4.out
          clear c0 c1 c2 d0 d1 d2
          have HA4a : Hid (w4.cell? ⟨ba, oa, none⟩ = some (.int .i64 a0)) := Lib.hid (cell_below HCA.out hb4)
          have HZ4a : Hid (w4.cell? ⟨bz, oz, none⟩ = some (.int .i64 z0)) := Lib.hid (cell_below HCZ.out hb4)
          clear HA4 HZ4
          have HA4 := HA4a
          have HZ4 := HZ4a
          have hSa := Lib.hid (show ∀ v1 v2 : World, Hid (Below w4.heap.size w4 v1) → Below v1.heap.size v1 v2 → (v2.cell? ⟨w.heap.size, 0, none⟩ = some (.int .i64 P) ∧ v2.cell? ⟨w.heap.size, 1, none⟩ = some (.int .i64 Q) ∧ v2.cell? ⟨w.heap.size, 2, none⟩ = some (.int .i64 G) ∧ v2.cell? ⟨w.heap.size + 1, 0, none⟩ = some (.slice (some ⟨ba, oa, none⟩) 1 ca) ∧ v2.cell? ⟨w.heap.size + 1, 1, none⟩ = some (.int .i64 C) ∧ v2.cell? ⟨w.heap.size + 1, 2, none⟩ = some (.slice (some ⟨bz, oz, none⟩) 1 cz) ∧ v2.cell? ⟨ba, oa, none⟩ = some (.int .i64 a0) ∧ v2.cell? ⟨bz, oz, none⟩ = some (.int .i64 z0) ∧ Hid (Below w4.heap.size w4 v2)) from fun v1 v2 h1 h2 => have h3 := below_ext h1.out h2; ⟨(HX4.out.below h3).1, (HX4.out.below h3).2.1, (HX4.out.below h3).2.2, (HP4.out.below h3).1, (HP4.out.below h3).2.1, (HP4.out.below h3).2.2, cell_below HA4.out h3, cell_below HZ4.out h3, Lib.hid h3⟩)
          have hRa : Hid (Below w4.heap.size w4 w4) := Lib.hid (Below.refl _ _)
          have hVa := Lib.hid (show ∀ v1 : World, Hid (Below w4.heap.size w4 v1) → Hid (Vars v1) from fun v1 h1 => Lib.hid (HV4.out.below h1.out))
          go_wp2_with fail
          go_region_held3 (fun w' => w'.cell? ⟨w.heap.size, 0, none⟩ = some (.int .i64 P) ∧ w'.cell? ⟨w.heap.size, 1, none⟩ = some (.int .i64 Q) ∧ w'.cell? ⟨w.heap.size, 2, none⟩ = some (.int .i64 G) ∧ w'.cell? ⟨w.heap.size + 1, 0, none⟩ = some (.slice (some ⟨ba, oa, none⟩) 1 ca) ∧ w'.cell? ⟨w.heap.size + 1, 1, none⟩ = some (.int .i64 C) ∧ w'.cell? ⟨w.heap.size + 1, 2, none⟩ = some (.slice (some ⟨bz, oz, none⟩) 1 cz) ∧ w'.cell? ⟨ba, oa, none⟩ = some (.int .i64 a0) ∧ w'.cell? ⟨bz, oz, none⟩ = some (.int .i64 z0) ∧ Hid (Below w4.heap.size w4 w'))
            (first | exact hSa.out _ _ hRa ((Below.refl w4.heap.size w4).drew) | (go_split_ands; exact hSa.out _ _ (by assumption) hbA) | go_keep)
            (first
              | (go_at_call 42; (refine (gpow_ok P Q G b z0 p1 HCb H1 (by omega) (by omega) _ ?_).mono ?_); rotate_left; rintro e wA ⟨rfl, hbA⟩; rotate_left; (go_split_ands; exact hVa.out _ (by assumption))))
          rename_i hHeld
          obtain ⟨e0, e1, e2, e3, e4, e5, e6, e7, hbQ⟩ := hHeld
          have hb5 := below_ext hb4 hbQ.out
          have HV5 := Lib.hid (HV4.out.below hbQ.out)
          have HX5 := Lib.hid (HX4.out.below hbQ.out)
          have HP5 := Lib.hid (HP4.out.below hbQ.out)
          have HA5 := Lib.hid (cell_below HA4.out hbQ.out)
          have HZ5 := Lib.hid (cell_below HZ4.out hbQ.out)
          obtain ⟨w5, hw5⟩ : ∃ w5, wA = w5 := ⟨_, rfl⟩
          subst hw5
          obtain ⟨c0, c1, c2⟩ := HX5.out
          obtain ⟨d0, d1, d2⟩ := HP5.out
          clear e0 e1 e2 e3 e4 e5 e6 e7
          go_wp2_with fail
          refine (gpow_ok P Q G y C p2 HCy H2 (by omega) (by omega) _ HV5).mono ?_
          rintro e w6 ⟨rfl, hb0⟩
          have hb6 := below_ext hb5 hb0
          have HV6 := Lib.hid (HV5.out.below hb0)
          have HX6 := Lib.hid (HX5.out.below hb0)
          have HP6 := Lib.hid (HP5.out.below hb0)
          have HA6 := Lib.hid (cell_below HA5.out hb0)
          have HZ6 := Lib.hid (cell_below HZ5.out hb0)
          clear hb0 c0 c1 c2 d0 d1 d2
          have hSb := Lib.hid (show ∀ v1 v2 : World, Hid (Below w6.heap.size w6 v1) → Below v1.heap.size v1 v2 → (v2.cell? ⟨w.heap.size, 0, none⟩ = some (.int .i64 P) ∧ v2.cell? ⟨w.heap.size, 1, none⟩ = some (.int .i64 Q) ∧ v2.cell? ⟨w.heap.size, 2, none⟩ = some (.int .i64 G) ∧ v2.cell? ⟨w.heap.size + 1, 0, none⟩ = some (.slice (some ⟨ba, oa, none⟩) 1 ca) ∧ v2.cell? ⟨w.heap.size + 1, 1, none⟩ = some (.int .i64 C) ∧ v2.cell? ⟨w.heap.size + 1, 2, none⟩ = some (.slice (some ⟨bz, oz, none⟩) 1 cz) ∧ v2.cell? ⟨ba, oa, none⟩ = some (.int .i64 a0) ∧ v2.cell? ⟨bz, oz, none⟩ = some (.int .i64 z0) ∧ Hid (Below w6.heap.size w6 v2)) from fun v1 v2 h1 h2 => have h3 := below_ext h1.out h2; ⟨(HX6.out.below h3).1, (HX6.out.below h3).2.1, (HX6.out.below h3).2.2, (HP6.out.below h3).1, (HP6.out.below h3).2.1, (HP6.out.below h3).2.2, cell_below HA6.out h3, cell_below HZ6.out h3, Lib.hid h3⟩)
          have hRb : Hid (Below w6.heap.size w6 w6) := Lib.hid (Below.refl _ _)
          have hVb := Lib.hid (show ∀ v1 : World, Hid (Below w6.heap.size w6 v1) → Hid (Vars v1) from fun v1 h1 => Lib.hid (HV6.out.below h1.out))
          go_wp2_with fail
          go_region_held3 (fun w' => w'.cell? ⟨w.heap.size, 0, none⟩ = some (.int .i64 P) ∧ w'.cell? ⟨w.heap.size, 1, none⟩ = some (.int .i64 Q) ∧ w'.cell? ⟨w.heap.size, 2, none⟩ = some (.int .i64 G) ∧ w'.cell? ⟨w.heap.size + 1, 0, none⟩ = some (.slice (some ⟨ba, oa, none⟩) 1 ca) ∧ w'.cell? ⟨w.heap.size + 1, 1, none⟩ = some (.int .i64 C) ∧ w'.cell? ⟨w.heap.size + 1, 2, none⟩ = some (.slice (some ⟨bz, oz, none⟩) 1 cz) ∧ w'.cell? ⟨ba, oa, none⟩ = some (.int .i64 a0) ∧ w'.cell? ⟨bz, oz, none⟩ = some (.int .i64 z0) ∧ Hid (Below w6.heap.size w6 w'))
            (first | exact hSb.out _ _ hRb ((Below.refl w6.heap.size w6).drew) | (go_split_ands; exact hSb.out _ _ (by assumption) hbA) | go_keep)
            (first
              | (go_at_call 43; (refine (gmul_ok P Q G a0 p2 p3 HCm H3 hQ _ ?_).mono ?_); rotate_left; rintro e wA ⟨rfl, hbA⟩; rotate_left; (go_split_ands; exact hVb.out _ (by assumption))))
          rename_i hHeld
          obtain ⟨e0, e1, e2, e3, e4, e5, e6, e7, hbQ⟩ := hHeld
          have hb7 := below_ext hb6 hbQ.out
          have HV7 := Lib.hid (HV6.out.below hbQ.out)
          have HX7 := Lib.hid (HX6.out.below hbQ.out)
          have HP7 := Lib.hid (HP6.out.below hbQ.out)
          have HA7 := Lib.hid (cell_below HA6.out hbQ.out)
          have HZ7 := Lib.hid (cell_below HZ6.out hbQ.out)
          obtain ⟨w7, hw7⟩ : ∃ w7, wA = w7 := ⟨_, rfl⟩
          subst hw7
          go_wp2
          go_ret
          exact ⟨rfl, hb7⟩

set_option maxHeartbeats 6400000 in
theorem rcheck_any16 (P Q G b y : Int) (pa : Option Addr) (na ca : Nat) (a0 C : Int) (pz : Option Addr) (nz cz : Nat) (z0 : Int) (r : Bool) (hr : Hid (chkB P Q G b y na a0 C nz z0 = r)) (hQ : Q < 9223372036854775808) (w : World)
    (hA : Hid (One w pa na a0)) (hZ : Hid (One w pz nz z0)) :
    Calls Tryd.prog 73 #[gv P Q G, .int .i64 b, .int .i64 y, prv pa na ca C pz nz cz] w fun e' w' => e' = .returned (.bool r) ∧ Below w.heap.size w w' := by
  obtain ⟨w0, hW⟩ : ∃ W, (w.alloc (gObj P Q G)).alloc (prObj pa na ca C pz nz cz) = W := ⟨_, rfl⟩
  have HB : Hid (Below w.heap.size w w0) := Lib.hid (by rw [← hW]; exact below_two (Below.refl _ _))
  have HX0 : Hid (GBox w0 w.heap.size P Q G) := Lib.hid (by rw [← hW]; exact (gbox_alloc w P Q G).below (below_box0 _ _))
  have HP0 : Hid (PBox w0 (w.heap.size + 1) (.slice pa na ca) (.int .i64 C) (.slice pz nz cz)) := Lib.hid (by rw [← hW]; exact pbox_alloc w _ _ _ _ _)
  have HA0 : Hid (One w0 pa na a0) := Lib.hid (hA.out.below HB.out)
  have HZ0 : Hid (One w0 pz nz z0) := Lib.hid (hZ.out.below HB.out)
  have HW := Lib.hid hW
  clear hW
  have hr' := hr.out
  cases hval : validG P Q G with
  | false =>
    obtain rfl : r = false := by rw [← hr', chkB, hval]; simp
    have HVL : Hid (validG P Q G = false) := hval
    have HG : Hid (givE P Q G b y = 1) := Lib.hid (by rw [givE, hval]; rfl)
    clear hr' hr hval
    go_enter Tryd.func73, Tryd.ntmps73
    go_wp2_with fail
    rw [HW.out]
    go_wp2_with fail
    refine (given_any P Q G b y 1 HG hQ _).mono ?_
    rintro e w1 ⟨rfl, hb0⟩
    have hb1 := below_ext (HB.out) hb0
    clear hb0
    go_wp2
    go_ret
    exact ⟨rfl, hb1⟩
  | true =>
    have HVL : Hid (validG P Q G = true) := hval
    obtain ⟨hp2, hp, hq3, hqp⟩ := validG_P hval
    cases hk : okB P Q b with
    | false =>
      obtain rfl : r = false := by rw [← hr', chkB, hk]; simp
      have HK : Hid (okB P Q b = false) := hk
      have HG : Hid (givE P Q G b y = 2) := Lib.hid (by rw [givE, hval, hk]; rfl)
      clear hr' hr hval hk
      go_enter Tryd.func73, Tryd.ntmps73
      go_wp2_with fail
      rw [HW.out]
      go_wp2_with fail
      refine (given_any P Q G b y 2 HG hQ _).mono ?_
      rintro e w1 ⟨rfl, hb0⟩
      have hb1 := below_ext (HB.out) hb0
      clear hb0
      go_wp2
      go_ret
      exact ⟨rfl, hb1⟩
    | true =>
      have HK : Hid (okB P Q b = true) := hk
      cases hm : memG P Q y with
      | false =>
        obtain rfl : r = false := by rw [← hr', chkB, hm]; simp
        have HM : Hid (memG P Q y = false) := hm
        have HG : Hid (givE P Q G b y = 2) := Lib.hid (by rw [givE, hval, hk, hm]; rfl)
        clear hr' hr hval hk hm
        go_enter Tryd.func73, Tryd.ntmps73
        go_wp2_with fail
        rw [HW.out]
        go_wp2_with fail
        refine (given_any P Q G b y 2 HG hQ _).mono ?_
        rintro e w1 ⟨rfl, hb0⟩
        have hb1 := below_ext (HB.out) hb0
        clear hb0
        go_wp2
        go_ret
        exact ⟨rfl, hb1⟩
      | true =>
        have HM : Hid (memG P Q y = true) := hm
        cases hf : formB P Q na a0 C nz z0 with
        | false =>
          obtain rfl : r = false := by rw [← hr', chkB, hf]; simp
          have HF : Hid (formB P Q na a0 C nz z0 = false) := hf
          have HG : Hid (givE P Q G b y = 0) := Lib.hid (by rw [givE, hval, hk, hm]; rfl)
          clear hr' hr hval hk hm hf
          go_enter Tryd.func73, Tryd.ntmps73
          go_wp2_with fail
          rw [HW.out]
          go_wp2_with fail
          refine (given_any P Q G b y 0 HG hQ _).mono ?_
          rintro e w1 ⟨rfl, hb0⟩
          have hb1 := below_ext (HB.out) hb0
          have HX1 := Lib.hid (HX0.out.below hb0)
          have HP1 := Lib.hid (HP0.out.below hb0)
          have HA1 := Lib.hid (HA0.out.below hb0)
          have HZ1 := Lib.hid (HZ0.out.below hb0)
          clear hb0
          obtain ⟨c0, c1, c2⟩ := HX1.out
          obtain ⟨d0, d1, d2⟩ := HP1.out
          go_wp2_with fail
          refine (rformed_any P Q G pa na ca a0 C pz nz cz z0 false HF HVL hQ _ HA1 HZ1).mono ?_
          rintro e w2 ⟨rfl, hb0⟩
          have hb2 := below_ext hb1 hb0
          clear hb0
          go_wp2
          go_ret
          exact ⟨rfl, hb2⟩
        | true =>
          have HF : Hid (formB P Q na a0 C nz z0 = true) := hf
          obtain ⟨rfl, rfl, hma, hC, hZ0⟩ := formB_parts hf
          obtain ⟨ba, oa, rfl, hca⟩ := hA.out rfl
          obtain ⟨bz, oz, rfl, hcz⟩ := hZ.out rfl
          have hbm := okB_mem hk
          have Cl := expB_lo hC
          have Cu := expB_hi hC
          have Zl := expB_lo hZ0
          have Zu := expB_hi hZ0
          obtain ⟨p1, hp1⟩ : ∃ p1, pw b (z0 % Q) P = p1 := ⟨_, rfl⟩
          obtain ⟨p2, hp2'⟩ : ∃ p2, pw y (C % Q) P = p2 := ⟨_, rfl⟩
          obtain ⟨p3, hp3⟩ : ∃ p3, a0 * p2 % P = p3 := ⟨_, rfl⟩
          have m2 : memG P Q p2 = true := by rw [← hp2']; exact mem_pw hp2 (by omega) (Int.emod_nonneg _ (by omega)) hm
          have HCb : Hid (chkG P Q G [b] = 0) := Lib.hid (chkG_ok hval (by simp [hbm]))
          have HCy : Hid (chkG P Q G [y] = 0) := Lib.hid (chkG_ok hval (by simp [hm]))
          have HCm : Hid (chkG P Q G [a0, p2] = 0) := Lib.hid (chkG_ok hval (by simp [hma, m2]))
          have HG : Hid (givE P Q G b y = 0) := Lib.hid (by rw [givE, hval, hk, hm]; rfl)
          have heq : ((p1 : Int) == p3) = r := by rw [← hr', chkB, hval, hk, hm, hf, hp1, hp2', hp3]; rfl
          have H1 := Lib.hid hp1
          have H2 := Lib.hid hp2'
          have H3 := Lib.hid hp3
          have bl := memG_lo hbm
          have bu := memG_hi hbm
          have yl := memG_lo hm
          have yu := memG_hi hm
          have al := memG_lo hma
          have au := memG_hi hma
          have l2 := memG_lo m2
          have u2 := memG_hi m2
          have HCA : Hid (w.cell? ⟨ba, oa, none⟩ = some (.int .i64 a0)) := Lib.hid hca
          have HCZ : Hid (w.cell? ⟨bz, oz, none⟩ = some (.int .i64 z0)) := Lib.hid hcz
          clear hr' hr hval hk hm hf hma hC hZ0 hca hcz hbm hp1 hp2' hp3 m2
          go_enter Tryd.func73, Tryd.ntmps73
          go_wp2_with fail
          rw [HW.out]
          go_wp2_with fail
          refine (given_any P Q G b y 0 HG hQ _).mono ?_
          rintro e w1 ⟨rfl, hb0⟩
          have hb1 := below_ext (HB.out) hb0
          have HX1 := Lib.hid (HX0.out.below hb0)
          have HP1 := Lib.hid (HP0.out.below hb0)
          have HA1 := Lib.hid (HA0.out.below hb0)
          have HZ1 := Lib.hid (HZ0.out.below hb0)
          clear hb0
          obtain ⟨c0, c1, c2⟩ := HX1.out
          obtain ⟨d0, d1, d2⟩ := HP1.out
          go_wp2_with fail
          refine (rformed_any P Q G (some ⟨ba, oa, none⟩) 1 ca a0 C (some ⟨bz, oz, none⟩) 1 cz z0 true HF HVL hQ _ HA1 HZ1).mono ?_
          rintro e w2 ⟨rfl, hb0⟩
          have hb2 := below_ext hb1 hb0
          have HX2 := Lib.hid (HX1.out.below hb0)
          have HP2 := Lib.hid (HP1.out.below hb0)
          have HA2 := Lib.hid (HA1.out.below hb0)
          have HZ2 := Lib.hid (HZ1.out.below hb0)
          clear c0 c1 c2 d0 d1 d2 hb0
          obtain ⟨c0, c1, c2⟩ := HX2.out
          obtain ⟨d0, d1, d2⟩ := HP2.out
          clear c0 c1 c2 d0 d1 d2
          have HA2a : Hid (w2.cell? ⟨ba, oa, none⟩ = some (.int .i64 a0)) := Lib.hid (cell_below HCA.out hb2)
          have HZ2a : Hid (w2.cell? ⟨bz, oz, none⟩ = some (.int .i64 z0)) := Lib.hid (cell_below HCZ.out hb2)
          clear HA2 HZ2
          have HA2 := HA2a
          have HZ2 := HZ2a
          have hSa := Lib.hid (show ∀ v1 v2 : World, Hid (Below w2.heap.size w2 v1) → Below v1.heap.size v1 v2 → (v2.cell? ⟨w.heap.size, 0, none⟩ = some (.int .i64 P) ∧ v2.cell? ⟨w.heap.size, 1, none⟩ = some (.int .i64 Q) ∧ v2.cell? ⟨w.heap.size, 2, none⟩ = some (.int .i64 G) ∧ v2.cell? ⟨w.heap.size + 1, 0, none⟩ = some (.slice (some ⟨ba, oa, none⟩) 1 ca) ∧ v2.cell? ⟨w.heap.size + 1, 1, none⟩ = some (.int .i64 C) ∧ v2.cell? ⟨w.heap.size + 1, 2, none⟩ = some (.slice (some ⟨bz, oz, none⟩) 1 cz) ∧ v2.cell? ⟨ba, oa, none⟩ = some (.int .i64 a0) ∧ v2.cell? ⟨bz, oz, none⟩ = some (.int .i64 z0) ∧ Hid (Below w2.heap.size w2 v2)) from fun v1 v2 h1 h2 => have h3 := below_ext h1.out h2; ⟨(HX2.out.below h3).1, (HX2.out.below h3).2.1, (HX2.out.below h3).2.2, (HP2.out.below h3).1, (HP2.out.below h3).2.1, (HP2.out.below h3).2.2, cell_below HA2.out h3, cell_below HZ2.out h3, Lib.hid h3⟩)
          have hRa : Hid (Below w2.heap.size w2 w2) := Lib.hid (Below.refl _ _)
          go_wp2_with fail
          go_region_held3 (fun w' => w'.cell? ⟨w.heap.size, 0, none⟩ = some (.int .i64 P) ∧ w'.cell? ⟨w.heap.size, 1, none⟩ = some (.int .i64 Q) ∧ w'.cell? ⟨w.heap.size, 2, none⟩ = some (.int .i64 G) ∧ w'.cell? ⟨w.heap.size + 1, 0, none⟩ = some (.slice (some ⟨ba, oa, none⟩) 1 ca) ∧ w'.cell? ⟨w.heap.size + 1, 1, none⟩ = some (.int .i64 C) ∧ w'.cell? ⟨w.heap.size + 1, 2, none⟩ = some (.slice (some ⟨bz, oz, none⟩) 1 cz) ∧ w'.cell? ⟨ba, oa, none⟩ = some (.int .i64 a0) ∧ w'.cell? ⟨bz, oz, none⟩ = some (.int .i64 z0) ∧ Hid (Below w2.heap.size w2 w'))
            (first | exact hSa.out _ _ hRa ((Below.refl w2.heap.size w2).drew) | (go_split_ands; exact hSa.out _ _ (by assumption) hbA) | go_keep)
            (first
              | (go_at_call 47; (with_reducible refine (rpower_any P Q G b z0 p1 H1 (by omega) hp (by omega) (by omega) (by omega) bu (by omega) (by omega) _).mono ?_); rintro e wA ⟨rfl, hbA⟩)
              | (go_at_call 47; (with_reducible refine (rpower_any P Q G y C p2 H2 (by omega) hp (by omega) (by omega) (by omega) yu (by omega) (by omega) _).mono ?_); rintro e wA ⟨rfl, hbA⟩)
              | (go_at_call 46; (with_reducible refine (rgmul_any P Q G a0 p2 p3 H3 hp (by omega) au (by omega) u2 _).mono ?_); rintro e wA ⟨rfl, hbA⟩))
          rename_i hHeld
          obtain ⟨e0, e1, e2, e3, e4, e5, e6, e7, hbQ⟩ := hHeld
          have hb3 := below_ext hb2 hbQ.out
          have HX3 := Lib.hid (HX2.out.below hbQ.out)
          have HP3 := Lib.hid (HP2.out.below hbQ.out)
          have HA3 := Lib.hid (cell_below HA2.out hbQ.out)
          have HZ3 := Lib.hid (cell_below HZ2.out hbQ.out)
          obtain ⟨w3, hw3⟩ : ∃ w3, wA = w3 := ⟨_, rfl⟩
          subst hw3
          go_wp2
          go_ret
          exact ⟨rfl, hb3⟩

end Go.Proofs.YtohjfnhgibedpaaDoor
