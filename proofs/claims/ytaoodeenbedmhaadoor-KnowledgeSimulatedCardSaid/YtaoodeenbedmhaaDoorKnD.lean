/- The contracts of packages knowledge and specieref16: proofs that are simulated. -/
import Derived.Test.YtaoodeenbedmhaaDoorKnC
namespace Go.Proofs.YtaoodeenbedmhaaDoor
open Go.RowKit SpM
set_option linter.unusedVariables false

theorem pw_neg {P Q y c : Int} (hP : 2 ≤ P) (hQ : 1 ≤ Q) (hc0 : 0 ≤ c) (hc : c < Q) (hy : memG P Q y = true) : pw (pw y (c % Q) P) ((Q - 1) % Q) P = pw y ((-c) % Q) P := by
  have e1 : c % Q = c := Int.emod_eq_of_lt hc0 hc
  have e2 : (Q - 1) % Q = Q - 1 := Int.emod_eq_of_lt (by omega) (by omega)
  have h0 : 0 ≤ c * (Q - 1) := Int.mul_nonneg hc0 (by omega)
  have e3 : (-c) % Q = (c * (Q - 1)) % Q := by
    rw [show c * (Q - 1) = -c + Q * c by rw [Int.mul_sub, Int.mul_comm c Q]; omega, Int.add_mul_emod_self_left]
  rw [e1, e2, pw_pw _ _ _ _ hc0 (by omega), e3, ← pw_mod hP hQ h0 (memG_pw hy)]

theorem cell_set_far {w : World} {p q : Addr} (x : Value) (h : p.block ≠ q.block) : (w.setCell p x).cell? q = w.cell? q :=
  World.cell?_of_block (Below.heap_setCell w p x q.block (Ne.symm h))

theorem simOut_mk {a c z : Int} {w w1 : World} {r : Nat} {T : TypeId} (hb : Below w.heap.size w w1) (hr : w.heap.size ≤ r) (hlt : r + 1 ≤ w1.heap.size) (x y t : Value) :
    SimOut a c z w (.returned (pv1 w1.heap.size (w1.heap.size + 1) c)) ((((((w1.alloc (.cells #[.int .i64 a] T)).alloc (.cells #[.int .i64 z] T)).setCell ⟨r, 0, none⟩ x).setCell ⟨r, 1, none⟩ y).setCell ⟨r, 2, none⟩ t)) := by
  have e : (w1.alloc (.cells #[.int .i64 a] T)).heap.size = w1.heap.size + 1 := by simp
  have c1 : Cells ((w1.alloc (.cells #[.int .i64 a] T)).alloc (.cells #[.int .i64 z] T)) w1.heap.size [a] := (cells1 w1 T a).below (below_box0 _ _)
  have c2 : Cells ((w1.alloc (.cells #[.int .i64 a] T)).alloc (.cells #[.int .i64 z] T)) (w1.heap.size + 1) [z] := cells1' w1 _ T z
  refine ⟨_, _, rfl, fun k hk => ?_, fun k hk => ?_, below_set3 (((hb).alloc hb.size _).alloc (by rw [e]; have := hb.size; omega) _) hr _ _ _⟩
  · rw [cell_set_far _ (by simp; omega), cell_set_far _ (by simp; omega), cell_set_far _ (by simp; omega)]; exact c1 k hk
  · rw [cell_set_far _ (by simp; omega), cell_set_far _ (by simp; omega), cell_set_far _ (by simp; omega)]; exact c2 k hk

set_option maxHeartbeats 1600000 in
theorem sim_ok (P Q G b y c z a : Int) (hr0 : Hid (simE P Q G b y c z = 0)) (ha0 : Hid (simA P Q b y c z = a)) (hQ : Q < 9223372036854775808) (w : World) (hv : Hid (Vars w)) :
    Calls Tryd.prog 20 #[gv P Q G, .int .i64 b, .int .i64 y, .int .i64 c, .int .i64 z] w (SimOut a c z w) := by
  have HV0 := Lib.hid (hv.out.below (below_two (w := w) (o1 := gObj P Q G) (o2 := pObj) (Below.refl _ _)))
  have HX0 := Lib.hid ((gbox_alloc w P Q G).below (below_box0 _ pObj))
  have HR0 := Lib.hid (rblk_alloc w (gObj P Q G))
  obtain ⟨hval, hk, hm, hc, hz⟩ := simE_zero hr0.out
  obtain ⟨hp2, hp, hq3, hqp⟩ := validG_P hval
  have HV : Hid (validG P Q G = true) := hval
  have HK : Hid (okB P Q b = true) := hk
  have HC : Hid (conG P Q G y = true) := Lib.hid (by rw [conG, hval, hm]; rfl)
  have Hc : Hid (expB Q c = true) := hc
  have Hz : Hid (expB Q z = true) := hz
  have cl := expB_lo hc
  have cu := expB_hi hc
  have zl := expB_lo hz
  have zu := expB_hi hz
  have hbm := okB_mem hk
  have HCb : Hid (chkG P Q G [b] = 0) := Lib.hid (chkG_ok hval (by simp [hbm]))
  have HCy : Hid (chkG P Q G [y] = 0) := Lib.hid (chkG_ok hval (by simp [hm]))
  obtain ⟨p1, hp1⟩ : ∃ p1, pw b (z % Q) P = p1 := ⟨_, rfl⟩
  obtain ⟨p2, hp2'⟩ : ∃ p2, pw y ((-c) % Q) P = p2 := ⟨_, rfl⟩
  have m1 : memG P Q p1 = true := by rw [← hp1]; exact mem_pw hp2 (by omega) (Int.emod_nonneg _ (by omega)) hbm
  have m2 : memG P Q p2 = true := by rw [← hp2']; exact mem_pw hp2 (by omega) (Int.emod_nonneg _ (by omega)) hm
  have HCm : Hid (chkG P Q G [p1, p2] = 0) := Lib.hid (chkG_ok hval (by simp [m1, m2]))
  have HA : Hid (p1 * p2 % P = a) := Lib.hid (by rw [← ha0.out, simA, hp1, hp2'])
  have H1 := Lib.hid hp1
  have H2 := Lib.hid hp2'
  clear hr0 ha0 hval hk hm hc hz hbm hp1 hp2' m1 m2
  go_enter Tryd.func20, Tryd.ntmps20
  go_wp2_with fail
  refine (valid_any P Q G true HV hQ _ HV0).mono ?_
  rintro e w1 ⟨rfl, hb0⟩
  have hb1 := below_ext (below_two (Below.refl _ _)) hb0
  have HV1 := Lib.hid (HV0.out.below hb0)
  have HX1 := Lib.hid (HX0.out.below hb0)
  have HR1 := Lib.hid (HR0.out.below hb0)
  clear hb0
  obtain ⟨c0, c1, c2⟩ := HX1.out
  obtain ⟨⟨d0, d1, d2⟩, f0, f1, f2⟩ := HR1.out.box
  go_wp2_with fail
  refine (kbase_any P Q G b true HV HK _ HV1).mono ?_
  rintro e w2 ⟨rfl, hb0⟩
  have hb2 := below_ext hb1 hb0
  have HV2 := Lib.hid (HV1.out.below hb0)
  have HX2 := Lib.hid (HX1.out.below hb0)
  have HR2 := Lib.hid (HR1.out.below hb0)
  clear c0 c1 c2 d0 d1 d2 f0 f1 f2 hb0
  obtain ⟨c0, c1, c2⟩ := HX2.out
  obtain ⟨⟨d0, d1, d2⟩, f0, f1, f2⟩ := HR2.out.box
  go_wp2_with fail
  refine (contains_any P Q G y true HC hQ _ HV2).mono ?_
  rintro e w3 ⟨rfl, hb0⟩
  have hb3 := below_ext hb2 hb0
  have HV3 := Lib.hid (HV2.out.below hb0)
  have HX3 := Lib.hid (HX2.out.below hb0)
  have HR3 := Lib.hid (HR2.out.below hb0)
  clear c0 c1 c2 d0 d1 d2 f0 f1 f2 hb0
  obtain ⟨c0, c1, c2⟩ := HX3.out
  obtain ⟨⟨d0, d1, d2⟩, f0, f1, f2⟩ := HR3.out.box
  go_wp2_with fail
  refine (kexp_any P Q G c true Hc _).mono ?_
  rintro e w4 ⟨rfl, hb0⟩
  have hb4 := below_ext hb3 hb0
  have HV4 := Lib.hid (HV3.out.below hb0)
  have HX4 := Lib.hid (HX3.out.below hb0)
  have HR4 := Lib.hid (HR3.out.below hb0)
  clear c0 c1 c2 d0 d1 d2 f0 f1 f2 hb0
  obtain ⟨c0, c1, c2⟩ := HX4.out
  obtain ⟨⟨d0, d1, d2⟩, f0, f1, f2⟩ := HR4.out.box
  go_wp2_with fail
  refine (kexp_any P Q G z true Hz _).mono ?_
  rintro e w5 ⟨rfl, hb0⟩
  have hb5 := below_ext hb4 hb0
  have HV5 := Lib.hid (HV4.out.below hb0)
  have HX5 := Lib.hid (HX4.out.below hb0)
  have HR5 := Lib.hid (HR4.out.below hb0)
  clear c0 c1 c2 d0 d1 d2 f0 f1 f2 hb0
  obtain ⟨c0, c1, c2⟩ := HX5.out
  obtain ⟨⟨d0, d1, d2⟩, f0, f1, f2⟩ := HR5.out.box
  go_wp2_with fail
  refine (gpow_ok P Q G b z p1 HCb H1 (by omega) (by omega) _ HV5).mono ?_
  rintro e w6 ⟨rfl, hb0⟩
  have hb6 := below_ext hb5 hb0
  have HV6 := Lib.hid (HV5.out.below hb0)
  have HX6 := Lib.hid (HX5.out.below hb0)
  have HR6 := Lib.hid (HR5.out.below hb0)
  clear c0 c1 c2 d0 d1 d2 f0 f1 f2 hb0
  obtain ⟨c0, c1, c2⟩ := HX6.out
  obtain ⟨⟨d0, d1, d2⟩, f0, f1, f2⟩ := HR6.out.box
  go_wp2_with fail
  refine (gpow_ok P Q G y (-c) p2 HCy H2 (by omega) (by omega) _ HV6).mono ?_
  rintro e w7 ⟨rfl, hb0⟩
  have hb7 := below_ext hb6 hb0
  have HV7 := Lib.hid (HV6.out.below hb0)
  have HX7 := Lib.hid (HX6.out.below hb0)
  have HR7 := Lib.hid (HR6.out.below hb0)
  clear c0 c1 c2 d0 d1 d2 f0 f1 f2 hb0
  obtain ⟨c0, c1, c2⟩ := HX7.out
  obtain ⟨⟨d0, d1, d2⟩, f0, f1, f2⟩ := HR7.out.box
  go_wp2_with fail
  refine (gmul_ok P Q G p1 p2 a HCm HA hQ _ HV7).mono ?_
  rintro e w8 ⟨rfl, hb0⟩
  have hb8 := below_ext hb7 hb0
  have HV8 := Lib.hid (HV7.out.below hb0)
  have HX8 := Lib.hid (HX7.out.below hb0)
  have HR8 := Lib.hid (HR7.out.below hb0)
  clear c0 c1 c2 d0 d1 d2 f0 f1 f2 hb0
  obtain ⟨c0, c1, c2⟩ := HX8.out
  obtain ⟨⟨d0, d1, d2⟩, f0, f1, f2⟩ := HR8.out.box
  have hz1 : w.heap.size + 2 ≤ w8.heap.size := by have := HR8.out.lt; omega
  have HRW := Lib.hid (HR8.out.below (below_two (w := w8) (o1 := .cells #[.int .i64 a] 3) (o2 := .cells #[.int .i64 z] 3) (Below.refl _ _)))
  clear d0 d1 d2 f0 f1 f2
  obtain ⟨⟨d0, d1, d2⟩, f0, f1, f2⟩ := HRW.out.box
  go_wp2
  exact bodyPost_ret (v := pv1 w8.heap.size (w8.heap.size + 1) c) (by simp [results, Tryd.results20, go_sem, d0, d1, d2]) rfl (simOut_mk hb8 (by omega) hz1 _ _ _)
end Go.Proofs.YtaoodeenbedmhaaDoor
