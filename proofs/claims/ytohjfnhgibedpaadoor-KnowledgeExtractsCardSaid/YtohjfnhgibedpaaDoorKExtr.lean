/- The walk of the law KnowledgeExtracts. -/
import Derived.Test.YtohjfnhgibedpaaDoorKExtA
import Derived.Test.YtohjfnhgibedpaaDoorKExtB
namespace Go.Proofs.YtohjfnhgibedpaaDoor
open Go.RowKit SpM
set_option linter.unusedVariables false
set_option linter.unusedSimpArgs false

set_option maxRecDepth 100000 in
set_option maxHeartbeats 6400000 in
theorem extr_great1 (P Q G b y : Int) (pa : Option Addr) (na ca : Nat) (a0 C0 : Int) (pz : Option Addr) (nz cz : Nat) (z0 : Int) (qa : Option Addr) (nb cb : Nat) (a1 C1 : Int) (qz : Option Addr) (nw cw : Nat) (z1 : Int) (HG : Hid (100 < na ∨ 100 < nz)) (w : World) (hv : Hid (Vars w)) (hA : Hid (One w pa na a0)) (hZ : Hid (One w pz nz z0)) (hB : Hid (One w qa nb a1)) (hC : Hid (One w qz nw z1)) :
    Calls Tryd.prog 7 #[gv P Q G, .int .i64 b, .int .i64 y, prv pa na ca C0 pz nz cz, prv qa nb cb C1 qz nw cw] w fun e' w' => e' = .returned (.bool true) ∧ Below w.heap.size w w' := by
  obtain ⟨w0, hW⟩ : ∃ W, ((w.alloc (gObj P Q G)).alloc (prObj pa na ca C0 pz nz cz)).alloc (prObj qa nb cb C1 qz nw cw) = W := ⟨_, rfl⟩
  have HB : Hid (Below w.heap.size w w0) := Lib.hid (by rw [← hW]; exact below_three)
  have HX0 : Hid (GBox w0 w.heap.size P Q G) := Lib.hid (by rw [← hW]; exact ((gbox_alloc w P Q G).below (below_box0 _ _)).below (below_box0 _ _))
  have HP0 : Hid (PBox w0 (w.heap.size + 1) (.slice pa na ca) (.int .i64 C0) (.slice pz nz cz)) := Lib.hid (by rw [← hW]; exact (pbox_alloc w _ _ _ _ _).below (below_box0 _ _))
  have HQ_0 : Hid (PBox w0 (w.heap.size + 2) (.slice qa nb cb) (.int .i64 C1) (.slice qz nw cw)) := Lib.hid (by rw [← hW]; exact pbox_alloc2 w _ _ _ _ _ _)
  have HA0 : Hid (One w0 pa na a0) := Lib.hid (hA.out.below HB.out)
  have HZ0 : Hid (One w0 pz nz z0) := Lib.hid (hZ.out.below HB.out)
  have HB_0 : Hid (One w0 qa nb a1) := Lib.hid (hB.out.below HB.out)
  have HC_0 : Hid (One w0 qz nw z1) := Lib.hid (hC.out.below HB.out)
  have HV0 : Hid (Vars w0) := Lib.hid (hv.out.below HB.out)
  have HW := Lib.hid hW
  clear hW
  go_enter Tryd.func7, Tryd.ntmps7
  go_wp2_with fail
  rw [HW.out]
  go_wp2_with fail
  refine (awake16 _ HV0).mono ?_
  rintro e w1 ⟨rfl, hb0⟩
  have hb1 := below_ext (HB.out) hb0
  have HV1 := Lib.hid (HV0.out.below hb0)
  have HX1 := Lib.hid (HX0.out.below hb0)
  have HP1 := Lib.hid (HP0.out.below hb0)
  have HQ_1 := Lib.hid (HQ_0.out.below hb0)
  have HA1 := Lib.hid (HA0.out.below hb0)
  have HZ1 := Lib.hid (HZ0.out.below hb0)
  have HB_1 := Lib.hid (HB_0.out.below hb0)
  have HC_1 := Lib.hid (HC_0.out.below hb0)
  clear hb0
  obtain ⟨c0, c1, c2⟩ := HX1.out
  obtain ⟨d0, d1, d2⟩ := HP1.out
  obtain ⟨e0, e1, e2⟩ := HQ_1.out
  go_wp2_with fail
  refine (great_t pa na ca C0 pz nz cz HG.out _).mono ?_
  rintro e w2 ⟨rfl, hb0⟩
  have hb2 := below_ext hb1 hb0
  have HV2 := Lib.hid (HV1.out.below hb0)
  have HX2 := Lib.hid (HX1.out.below hb0)
  have HP2 := Lib.hid (HP1.out.below hb0)
  have HQ_2 := Lib.hid (HQ_1.out.below hb0)
  have HA2 := Lib.hid (HA1.out.below hb0)
  have HZ2 := Lib.hid (HZ1.out.below hb0)
  have HB_2 := Lib.hid (HB_1.out.below hb0)
  have HC_2 := Lib.hid (HC_1.out.below hb0)
  clear c0 c1 c2 d0 d1 d2 e0 e1 e2 hb0
  obtain ⟨c0, c1, c2⟩ := HX2.out
  obtain ⟨d0, d1, d2⟩ := HP2.out
  obtain ⟨e0, e1, e2⟩ := HQ_2.out
  go_wp2
  go_ret
  exact ⟨rfl, hb2⟩

set_option maxRecDepth 100000 in
set_option maxHeartbeats 6400000 in
theorem extr_great2 (P Q G b y : Int) (pa : Option Addr) (na ca : Nat) (a0 C0 : Int) (pz : Option Addr) (nz cz : Nat) (z0 : Int) (qa : Option Addr) (nb cb : Nat) (a1 C1 : Int) (qz : Option Addr) (nw cw : Nat) (z1 : Int) (hn1 : na ≤ 100) (hn2 : nz ≤ 100) (HG : Hid (100 < nb ∨ 100 < nw)) (w : World) (hv : Hid (Vars w)) (hA : Hid (One w pa na a0)) (hZ : Hid (One w pz nz z0)) (hB : Hid (One w qa nb a1)) (hC : Hid (One w qz nw z1)) :
    Calls Tryd.prog 7 #[gv P Q G, .int .i64 b, .int .i64 y, prv pa na ca C0 pz nz cz, prv qa nb cb C1 qz nw cw] w fun e' w' => e' = .returned (.bool true) ∧ Below w.heap.size w w' := by
  obtain ⟨w0, hW⟩ : ∃ W, ((w.alloc (gObj P Q G)).alloc (prObj pa na ca C0 pz nz cz)).alloc (prObj qa nb cb C1 qz nw cw) = W := ⟨_, rfl⟩
  have HB : Hid (Below w.heap.size w w0) := Lib.hid (by rw [← hW]; exact below_three)
  have HX0 : Hid (GBox w0 w.heap.size P Q G) := Lib.hid (by rw [← hW]; exact ((gbox_alloc w P Q G).below (below_box0 _ _)).below (below_box0 _ _))
  have HP0 : Hid (PBox w0 (w.heap.size + 1) (.slice pa na ca) (.int .i64 C0) (.slice pz nz cz)) := Lib.hid (by rw [← hW]; exact (pbox_alloc w _ _ _ _ _).below (below_box0 _ _))
  have HQ_0 : Hid (PBox w0 (w.heap.size + 2) (.slice qa nb cb) (.int .i64 C1) (.slice qz nw cw)) := Lib.hid (by rw [← hW]; exact pbox_alloc2 w _ _ _ _ _ _)
  have HA0 : Hid (One w0 pa na a0) := Lib.hid (hA.out.below HB.out)
  have HZ0 : Hid (One w0 pz nz z0) := Lib.hid (hZ.out.below HB.out)
  have HB_0 : Hid (One w0 qa nb a1) := Lib.hid (hB.out.below HB.out)
  have HC_0 : Hid (One w0 qz nw z1) := Lib.hid (hC.out.below HB.out)
  have HV0 : Hid (Vars w0) := Lib.hid (hv.out.below HB.out)
  have HW := Lib.hid hW
  clear hW
  go_enter Tryd.func7, Tryd.ntmps7
  go_wp2_with fail
  rw [HW.out]
  go_wp2_with fail
  refine (awake16 _ HV0).mono ?_
  rintro e w1 ⟨rfl, hb0⟩
  have hb1 := below_ext (HB.out) hb0
  have HV1 := Lib.hid (HV0.out.below hb0)
  have HX1 := Lib.hid (HX0.out.below hb0)
  have HP1 := Lib.hid (HP0.out.below hb0)
  have HQ_1 := Lib.hid (HQ_0.out.below hb0)
  have HA1 := Lib.hid (HA0.out.below hb0)
  have HZ1 := Lib.hid (HZ0.out.below hb0)
  have HB_1 := Lib.hid (HB_0.out.below hb0)
  have HC_1 := Lib.hid (HC_0.out.below hb0)
  clear hb0
  obtain ⟨c0, c1, c2⟩ := HX1.out
  obtain ⟨d0, d1, d2⟩ := HP1.out
  obtain ⟨e0, e1, e2⟩ := HQ_1.out
  go_wp2_with fail
  refine (great_f pa na ca C0 pz nz cz hn1 hn2 _).mono ?_
  rintro e w2 ⟨rfl, hb0⟩
  have hb2 := below_ext hb1 hb0
  have HV2 := Lib.hid (HV1.out.below hb0)
  have HX2 := Lib.hid (HX1.out.below hb0)
  have HP2 := Lib.hid (HP1.out.below hb0)
  have HQ_2 := Lib.hid (HQ_1.out.below hb0)
  have HA2 := Lib.hid (HA1.out.below hb0)
  have HZ2 := Lib.hid (HZ1.out.below hb0)
  have HB_2 := Lib.hid (HB_1.out.below hb0)
  have HC_2 := Lib.hid (HC_1.out.below hb0)
  clear c0 c1 c2 d0 d1 d2 e0 e1 e2 hb0
  obtain ⟨c0, c1, c2⟩ := HX2.out
  obtain ⟨d0, d1, d2⟩ := HP2.out
  obtain ⟨e0, e1, e2⟩ := HQ_2.out
  go_wp2_with fail
  refine (great_t qa nb cb C1 qz nw cw HG.out _).mono ?_
  rintro e w3 ⟨rfl, hb0⟩
  have hb3 := below_ext hb2 hb0
  have HV3 := Lib.hid (HV2.out.below hb0)
  have HX3 := Lib.hid (HX2.out.below hb0)
  have HP3 := Lib.hid (HP2.out.below hb0)
  have HQ_3 := Lib.hid (HQ_2.out.below hb0)
  have HA3 := Lib.hid (HA2.out.below hb0)
  have HZ3 := Lib.hid (HZ2.out.below hb0)
  have HB_3 := Lib.hid (HB_2.out.below hb0)
  have HC_3 := Lib.hid (HC_2.out.below hb0)
  clear c0 c1 c2 d0 d1 d2 e0 e1 e2 hb0
  obtain ⟨c0, c1, c2⟩ := HX3.out
  obtain ⟨d0, d1, d2⟩ := HP3.out
  obtain ⟨e0, e1, e2⟩ := HQ_3.out
  go_wp2
  go_ret
  exact ⟨rfl, hb3⟩

set_option maxRecDepth 100000 in
set_option maxHeartbeats 6400000 in
theorem extr_ok (P Q G b y : Int) (pa : Option Addr) (na ca : Nat) (a0 C0 : Int) (pz : Option Addr) (nz cz : Nat) (z0 : Int) (qa : Option Addr) (nb cb : Nat) (a1 C1 : Int) (qz : Option Addr) (nw cw : Nat) (z1 : Int) (hn1 : na ≤ 100) (hn2 : nz ≤ 100) (hn3 : nb ≤ 100) (hn4 : nw ≤ 100) (hQ : Q < 9223372036854775808) (w : World) (hv : Hid (Vars w)) (hA : Hid (One w pa na a0)) (hZ : Hid (One w pz nz z0)) (hB : Hid (One w qa nb a1)) (hC : Hid (One w qz nw z1)) :
    Calls Tryd.prog 7 #[gv P Q G, .int .i64 b, .int .i64 y, prv pa na ca C0 pz nz cz, prv qa nb cb C1 qz nw cw] w fun e' w' => e' = .returned (.bool true) ∧ Below w.heap.size w w' := by
  obtain ⟨w0, hW⟩ : ∃ W, ((w.alloc (gObj P Q G)).alloc (prObj pa na ca C0 pz nz cz)).alloc (prObj qa nb cb C1 qz nw cw) = W := ⟨_, rfl⟩
  have HB : Hid (Below w.heap.size w w0) := Lib.hid (by rw [← hW]; exact below_three)
  have HX0 : Hid (GBox w0 w.heap.size P Q G) := Lib.hid (by rw [← hW]; exact ((gbox_alloc w P Q G).below (below_box0 _ _)).below (below_box0 _ _))
  have HP0 : Hid (PBox w0 (w.heap.size + 1) (.slice pa na ca) (.int .i64 C0) (.slice pz nz cz)) := Lib.hid (by rw [← hW]; exact (pbox_alloc w _ _ _ _ _).below (below_box0 _ _))
  have HQ_0 : Hid (PBox w0 (w.heap.size + 2) (.slice qa nb cb) (.int .i64 C1) (.slice qz nw cw)) := Lib.hid (by rw [← hW]; exact pbox_alloc2 w _ _ _ _ _ _)
  have HA0 : Hid (One w0 pa na a0) := Lib.hid (hA.out.below HB.out)
  have HZ0 : Hid (One w0 pz nz z0) := Lib.hid (hZ.out.below HB.out)
  have HB_0 : Hid (One w0 qa nb a1) := Lib.hid (hB.out.below HB.out)
  have HC_0 : Hid (One w0 qz nw z1) := Lib.hid (hC.out.below HB.out)
  have HV0 : Hid (Vars w0) := Lib.hid (hv.out.below HB.out)
  have HW := Lib.hid hW
  clear hW
  obtain ⟨kp, h1⟩ : ∃ v, chkB P Q G b y na a0 C0 nz z0 = v := ⟨_, rfl⟩
  obtain ⟨kq, h2⟩ : ∃ v, chkB P Q G b y nb a1 C1 nw z1 = v := ⟨_, rfl⟩
  obtain ⟨r, h3⟩ : ∃ v, extE P Q G b y kp kq a0 a1 C0 C1 = v := ⟨_, rfl⟩
  obtain ⟨v, h4⟩ : ∃ v, (if r = 0 then extV Q C0 C1 z0 z1 else 0) = v := ⟨_, rfl⟩
  have H1 := Lib.hid h1
  have H2 := Lib.hid h2
  have H3 := Lib.hid h3
  have H4 := Lib.hid h4
  clear h1 h2 h3 h4
  go_enter Tryd.func7, Tryd.ntmps7
  go_wp2_with fail
  rw [HW.out]
  go_wp2_with fail
  refine (awake16 _ HV0).mono ?_
  rintro e w1 ⟨rfl, hb0⟩
  have hb1 := below_ext (HB.out) hb0
  have HV1 := Lib.hid (HV0.out.below hb0)
  have HX1 := Lib.hid (HX0.out.below hb0)
  have HP1 := Lib.hid (HP0.out.below hb0)
  have HQ_1 := Lib.hid (HQ_0.out.below hb0)
  have HA1 := Lib.hid (HA0.out.below hb0)
  have HZ1 := Lib.hid (HZ0.out.below hb0)
  have HB_1 := Lib.hid (HB_0.out.below hb0)
  have HC_1 := Lib.hid (HC_0.out.below hb0)
  clear hb0
  obtain ⟨c0, c1, c2⟩ := HX1.out
  obtain ⟨d0, d1, d2⟩ := HP1.out
  obtain ⟨e0, e1, e2⟩ := HQ_1.out
  go_wp2_with fail
  refine (great_f pa na ca C0 pz nz cz hn1 hn2 _).mono ?_
  rintro e w2 ⟨rfl, hb0⟩
  have hb2 := below_ext hb1 hb0
  have HV2 := Lib.hid (HV1.out.below hb0)
  have HX2 := Lib.hid (HX1.out.below hb0)
  have HP2 := Lib.hid (HP1.out.below hb0)
  have HQ_2 := Lib.hid (HQ_1.out.below hb0)
  have HA2 := Lib.hid (HA1.out.below hb0)
  have HZ2 := Lib.hid (HZ1.out.below hb0)
  have HB_2 := Lib.hid (HB_1.out.below hb0)
  have HC_2 := Lib.hid (HC_1.out.below hb0)
  clear c0 c1 c2 d0 d1 d2 e0 e1 e2 hb0
  obtain ⟨c0, c1, c2⟩ := HX2.out
  obtain ⟨d0, d1, d2⟩ := HP2.out
  obtain ⟨e0, e1, e2⟩ := HQ_2.out
  go_wp2_with fail
  refine (great_f qa nb cb C1 qz nw cw hn3 hn4 _).mono ?_
  rintro e w3 ⟨rfl, hb0⟩
  have hb3 := below_ext hb2 hb0
  have HV3 := Lib.hid (HV2.out.below hb0)
  have HX3 := Lib.hid (HX2.out.below hb0)
  have HP3 := Lib.hid (HP2.out.below hb0)
  have HQ_3 := Lib.hid (HQ_2.out.below hb0)
  have HA3 := Lib.hid (HA2.out.below hb0)
  have HZ3 := Lib.hid (HZ2.out.below hb0)
  have HB_3 := Lib.hid (HB_2.out.below hb0)
  have HC_3 := Lib.hid (HC_2.out.below hb0)
  clear c0 c1 c2 d0 d1 d2 e0 e1 e2 hb0
  obtain ⟨c0, c1, c2⟩ := HX3.out
  obtain ⟨d0, d1, d2⟩ := HP3.out
  obtain ⟨e0, e1, e2⟩ := HQ_3.out
  go_wp2_with fail
  refine (extract_any P Q G b y pa na ca a0 C0 pz nz cz z0 qa nb cb a1 C1 qz nw cw z1 v r kp kq H1 H2 H3 H4 hQ _ HV3 HA3 HZ3 HB_3 HC_3).mono ?_
  rintro e w4 ⟨rfl, hb0⟩
  have hb4 := below_ext hb3 hb0
  have HV4 := Lib.hid (HV3.out.below hb0)
  have HX4 := Lib.hid (HX3.out.below hb0)
  have HP4 := Lib.hid (HP3.out.below hb0)
  have HQ_4 := Lib.hid (HQ_3.out.below hb0)
  have HA4 := Lib.hid (HA3.out.below hb0)
  have HZ4 := Lib.hid (HZ3.out.below hb0)
  have HB_4 := Lib.hid (HB_3.out.below hb0)
  have HC_4 := Lib.hid (HC_3.out.below hb0)
  clear c0 c1 c2 d0 d1 d2 e0 e1 e2 hb0
  obtain ⟨c0, c1, c2⟩ := HX4.out
  obtain ⟨d0, d1, d2⟩ := HP4.out
  obtain ⟨e0, e1, e2⟩ := HQ_4.out
  go_wp2_with fail
  refine (rextract_any P Q G b y pa na ca a0 C0 pz nz cz z0 qa nb cb a1 C1 qz nw cw z1 v r kp kq H1 H2 H3 H4 hQ _ HA4 HZ4 HB_4 HC_4).mono ?_
  rintro e w5 ⟨rfl, hb0⟩
  have hb5 := below_ext hb4 hb0
  have HV5 := Lib.hid (HV4.out.below hb0)
  have HX5 := Lib.hid (HX4.out.below hb0)
  have HP5 := Lib.hid (HP4.out.below hb0)
  have HQ_5 := Lib.hid (HQ_4.out.below hb0)
  have HA5 := Lib.hid (HA4.out.below hb0)
  have HZ5 := Lib.hid (HZ4.out.below hb0)
  have HB_5 := Lib.hid (HB_4.out.below hb0)
  have HC_5 := Lib.hid (HC_4.out.below hb0)
  clear c0 c1 c2 d0 d1 d2 e0 e1 e2 hb0
  obtain ⟨c0, c1, c2⟩ := HX5.out
  obtain ⟨d0, d1, d2⟩ := HP5.out
  obtain ⟨e0, e1, e2⟩ := HQ_5.out
  go_wp2
  go_ret
  exact ⟨rfl, hb5⟩

/-- THE LAW: true for every input. -/
theorem extracts_true (P Q G b y : Int) (pa : Option Addr) (na ca : Nat) (a0 C0 : Int) (pz : Option Addr) (nz cz : Nat) (z0 : Int) (qa : Option Addr) (nb cb : Nat) (a1 C1 : Int) (qz : Option Addr) (nw cw : Nat) (z1 : Int) (hQ : Q < 9223372036854775808) (w : World) (hv : Hid (Vars w)) (hA : Hid (One w pa na a0)) (hZ : Hid (One w pz nz z0)) (hB : Hid (One w qa nb a1)) (hC : Hid (One w qz nw z1)) :
    Calls Tryd.prog 7 #[gv P Q G, .int .i64 b, .int .i64 y, prv pa na ca C0 pz nz cz, prv qa nb cb C1 qz nw cw] w fun e' w' => e' = .returned (.bool true) ∧ Below w.heap.size w w' := by
  by_cases h1 : 100 < na ∨ 100 < nz
  · exact extr_great1 P Q G b y pa na ca a0 C0 pz nz cz z0 qa nb cb a1 C1 qz nw cw z1 (Lib.hid h1) w hv hA hZ hB hC
  · by_cases h2 : 100 < nb ∨ 100 < nw
    · exact extr_great2 P Q G b y pa na ca a0 C0 pz nz cz z0 qa nb cb a1 C1 qz nw cw z1 (by omega) (by omega) (Lib.hid h2) w hv hA hZ hB hC
    · exact extr_ok P Q G b y pa na ca a0 C0 pz nz cz z0 qa nb cb a1 C1 qz nw cw z1 (by omega) (by omega) (by omega) (by omega) hQ w hv hA hZ hB hC
end Go.Proofs.YtohjfnhgibedpaaDoor
