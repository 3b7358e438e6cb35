/- Contracts and lemmas: EscC, EscD. -/
import Derived.Test.YtojedhnglobddaaGreatDoorEr9
namespace Go.Proofs.YtojedhnglobddaaGreatDoor
open Go.RowKit SpM
set_option linter.unusedVariables false
set_option linter.unusedSimpArgs false
set_option maxRecDepth 100000
set_option maxHeartbeats 3200000 in
theorem rkey_1 (P Q G X1 X2 X3 : Int) (x : Int) (h1 : (x != 1) = false) (w : World) :
    Calls Tryz.prog 103 #[bv P Q G X1 X2 X3, .int .i64 x] w fun e' w' => e' = .returned (.bool false) ∧ Below w.heap.size w w' := by
  obtain ⟨w0, HW, HBw, kC⟩ := stB P Q G X1 X2 X3 w
  have HB_0 : Hid (Below w0.heap.size w0 w0) := Lib.hid (Below.refl _ _)
  go_enter Tryz.func103, Tryz.ntmps103
  go_wp2_with fail
  rw [HW.out]
  obtain ⟨zc0, zc1, zc2, zc3, zc4, zc5⟩ := kC.out _ HB_0
  have hbF := below_ext HBw.out HB_0.out
  go_wp2
  go_ret
  exact ⟨rfl, hbF⟩
set_option maxHeartbeats 3200000 in
theorem rkey_2 (P Q G X1 X2 X3 : Int) (x : Int) (h1 : (x != 1) = true) (b : Bool) (hb : Hid (memG P Q x = b)) (HVG : Hid (validG P Q G = true)) (w : World) :
    Calls Tryz.prog 103 #[bv P Q G X1 X2 X3, .int .i64 x] w fun e' w' => e' = .returned (.bool b) ∧ Below w.heap.size w w' := by
  obtain ⟨p1, p2, p3, p4⟩ := validG_P HVG.out
  obtain ⟨w0, HW, HBw, kC⟩ := stB P Q G X1 X2 X3 w
  have HB_0 : Hid (Below w0.heap.size w0 w0) := Lib.hid (Below.refl _ _)
  go_enter Tryz.func103, Tryz.ntmps103
  go_wp2_with fail
  rw [HW.out]
  obtain ⟨zc0, zc1, zc2, zc3, zc4, zc5⟩ := kC.out _ HB_0
  go_wp2_with fail
  refine (rmember_any P Q G x b hb p2 (by omega) (by omega) _).mono ?_
  rintro e w1 ⟨rfl, hb0⟩
  have HB_1 := Lib.hid (below_ext HB_0.out hb0)
  clear zc0 zc1 zc2 zc3 zc4 zc5
  clear hb0
  obtain ⟨zc0, zc1, zc2, zc3, zc4, zc5⟩ := kC.out _ HB_1
  have hbF := below_ext HBw.out HB_1.out
  go_wp2
  go_ret
  exact ⟨rfl, hbF⟩
theorem rkey_any (P Q G X1 X2 X3 : Int) (x : Int)  (r : Bool) (hr : Hid (okB P Q x = r)) (HVG : Hid (validG P Q G = true)) (w : World) :
    Calls Tryz.prog 103 #[bv P Q G X1 X2 X3, .int .i64 x] w fun e' w' => e' = .returned (.bool r) ∧ Below w.heap.size w w' := by
  have hr1 := hr.out
  unfold okB at hr1
  cases h1 : (x != 1) with
  | false =>
    obtain rfl : r = false := by rw [← hr1, h1]; rfl
    exact rkey_1 P Q G X1 X2 X3 x h1 w
  | true => exact rkey_2 P Q G X1 X2 X3 x h1 r (Lib.hid (by rw [← hr1, h1]; rfl)) HVG w
set_option maxHeartbeats 6400000 in
theorem giv_n (P Q G X1 X2 X3 : Int) (y ps : Int) (E1 E2 : Int) (A : Option Addr) (na ca : Nat) (C : Int) (Z : Option Addr) (nz cz : Nat) (hval : Hid (validB P Q G X1 X2 X3 = false)) (hQ : Q < 9223372036854775808) (w : World) :
    Calls Tryz.prog 64 #[bv P Q G X1 X2 X3, .int .i64 y, .int .i64 ps, esV E1 E2 A na ca C Z nz cz] w fun e' w' => e' = .returned (.int .i64 1) ∧ Below w.heap.size w w' := by
  obtain ⟨w0, HW, HBw, kC⟩ := stBE P Q G X1 X2 X3 E1 E2 A na ca C Z nz cz w
  have HB_0 : Hid (Below w0.heap.size w0 w0) := Lib.hid (Below.refl _ _)
  go_enter Tryz.func64, Tryz.ntmps64
  go_wp2_with fail
  rw [HW.out]
  obtain ⟨zc0, zc1, zc2, zc3, zc4, zc5, zc6, zc7, zc8, zc9, zc10⟩ := kC.out _ HB_0
  go_wp2_with fail
  refine (rbvalid_any P Q G X1 X2 X3 false hval hQ _).mono ?_
  rintro e w1 ⟨rfl, hb0⟩
  have HB_1 := Lib.hid (below_ext HB_0.out hb0)
  clear zc0 zc1 zc2 zc3 zc4 zc5 zc6 zc7 zc8 zc9 zc10
  clear hb0
  obtain ⟨zc0, zc1, zc2, zc3, zc4, zc5, zc6, zc7, zc8, zc9, zc10⟩ := kC.out _ HB_1
  have hbF := below_ext HBw.out HB_1.out
  go_wp2
  go_ret
  exact ⟨rfl, hbF⟩
set_option maxHeartbeats 6400000 in
theorem giv_0 (P Q G X1 X2 X3 : Int) (y ps : Int) (E1 E2 : Int) (A : Option Addr) (na ca : Nat) (C : Int) (Z : Option Addr) (nz cz : Nat) (hval : Hid (validB P Q G X1 X2 X3 = true)) (m0 : Hid (okB P Q y = false)) (hQ : Q < 9223372036854775808) (w : World) :
    Calls Tryz.prog 64 #[bv P Q G X1 X2 X3, .int .i64 y, .int .i64 ps, esV E1 E2 A na ca C Z nz cz] w fun e' w' => e' = .returned (.int .i64 2) ∧ Below w.heap.size w w' := by
  have HVG := Lib.hid (validB_parts hval.out).1
  obtain ⟨p1, p2, p3, p4⟩ := validG_P HVG.out
  obtain ⟨w0, HW, HBw, kC⟩ := stBE P Q G X1 X2 X3 E1 E2 A na ca C Z nz cz w
  have HB_0 : Hid (Below w0.heap.size w0 w0) := Lib.hid (Below.refl _ _)
  go_enter Tryz.func64, Tryz.ntmps64
  go_wp2_with fail
  rw [HW.out]
  obtain ⟨zc0, zc1, zc2, zc3, zc4, zc5, zc6, zc7, zc8, zc9, zc10⟩ := kC.out _ HB_0
  go_wp2_with fail
  refine (rbvalid_any P Q G X1 X2 X3 true hval hQ _).mono ?_
  rintro e w1 ⟨rfl, hb0⟩
  have HB_1 := Lib.hid (below_ext HB_0.out hb0)
  clear zc0 zc1 zc2 zc3 zc4 zc5 zc6 zc7 zc8 zc9 zc10
  clear hb0
  obtain ⟨zc0, zc1, zc2, zc3, zc4, zc5, zc6, zc7, zc8, zc9, zc10⟩ := kC.out _ HB_1
  go_wp2_with fail
  refine (rkey_any P Q G X1 X2 X3 y false m0 HVG _).mono ?_
  rintro e w2 ⟨rfl, hb0⟩
  have HB_2 := Lib.hid (below_ext HB_1.out hb0)
  clear zc0 zc1 zc2 zc3 zc4 zc5 zc6 zc7 zc8 zc9 zc10
  clear hb0
  obtain ⟨zc0, zc1, zc2, zc3, zc4, zc5, zc6, zc7, zc8, zc9, zc10⟩ := kC.out _ HB_2
  have hbF := below_ext HBw.out HB_2.out
  go_wp2
  go_ret
  exact ⟨rfl, hbF⟩
set_option maxHeartbeats 6400000 in
theorem giv_1 (P Q G X1 X2 X3 : Int) (y ps : Int) (E1 E2 : Int) (A : Option Addr) (na ca : Nat) (C : Int) (Z : Option Addr) (nz cz : Nat) (hval : Hid (validB P Q G X1 X2 X3 = true)) (m0 : Hid (okB P Q y = true)) (m1 : Hid (okB P Q ps = false)) (hQ : Q < 9223372036854775808) (w : World) :
    Calls Tryz.prog 64 #[bv P Q G X1 X2 X3, .int .i64 y, .int .i64 ps, esV E1 E2 A na ca C Z nz cz] w fun e' w' => e' = .returned (.int .i64 2) ∧ Below w.heap.size w w' := by
  have HVG := Lib.hid (validB_parts hval.out).1
  obtain ⟨p1, p2, p3, p4⟩ := validG_P HVG.out
  obtain ⟨w0, HW, HBw, kC⟩ := stBE P Q G X1 X2 X3 E1 E2 A na ca C Z nz cz w
  have HB_0 : Hid (Below w0.heap.size w0 w0) := Lib.hid (Below.refl _ _)
  go_enter Tryz.func64, Tryz.ntmps64
  go_wp2_with fail
  rw [HW.out]
  obtain ⟨zc0, zc1, zc2, zc3, zc4, zc5, zc6, zc7, zc8, zc9, zc10⟩ := kC.out _ HB_0
  go_wp2_with fail
  refine (rbvalid_any P Q G X1 X2 X3 true hval hQ _).mono ?_
  rintro e w1 ⟨rfl, hb0⟩
  have HB_1 := Lib.hid (below_ext HB_0.out hb0)
  clear zc0 zc1 zc2 zc3 zc4 zc5 zc6 zc7 zc8 zc9 zc10
  clear hb0
  obtain ⟨zc0, zc1, zc2, zc3, zc4, zc5, zc6, zc7, zc8, zc9, zc10⟩ := kC.out _ HB_1
  go_wp2_with fail
  refine (rkey_any P Q G X1 X2 X3 y true m0 HVG _).mono ?_
  rintro e w2 ⟨rfl, hb0⟩
  have HB_2 := Lib.hid (below_ext HB_1.out hb0)
  clear zc0 zc1 zc2 zc3 zc4 zc5 zc6 zc7 zc8 zc9 zc10
  clear hb0
  obtain ⟨zc0, zc1, zc2, zc3, zc4, zc5, zc6, zc7, zc8, zc9, zc10⟩ := kC.out _ HB_2
  go_wp2_with fail
  refine (rkey_any P Q G X1 X2 X3 ps false m1 HVG _).mono ?_
  rintro e w3 ⟨rfl, hb0⟩
  have HB_3 := Lib.hid (below_ext HB_2.out hb0)
  clear zc0 zc1 zc2 zc3 zc4 zc5 zc6 zc7 zc8 zc9 zc10
  clear hb0
  obtain ⟨zc0, zc1, zc2, zc3, zc4, zc5, zc6, zc7, zc8, zc9, zc10⟩ := kC.out _ HB_3
  have hbF := below_ext HBw.out HB_3.out
  go_wp2
  go_ret
  exact ⟨rfl, hbF⟩
set_option maxHeartbeats 6400000 in
theorem giv_2 (P Q G X1 X2 X3 : Int) (y ps : Int) (E1 E2 : Int) (A : Option Addr) (na ca : Nat) (C : Int) (Z : Option Addr) (nz cz : Nat) (hval : Hid (validB P Q G X1 X2 X3 = true)) (m0 : Hid (okB P Q y = true)) (m1 : Hid (okB P Q ps = true)) (m2 : Hid (memG P Q E1 = false)) (hQ : Q < 9223372036854775808) (w : World) :
    Calls Tryz.prog 64 #[bv P Q G X1 X2 X3, .int .i64 y, .int .i64 ps, esV E1 E2 A na ca C Z nz cz] w fun e' w' => e' = .returned (.int .i64 2) ∧ Below w.heap.size w w' := by
  have HVG := Lib.hid (validB_parts hval.out).1
  obtain ⟨p1, p2, p3, p4⟩ := validG_P HVG.out
  obtain ⟨w0, HW, HBw, kC⟩ := stBE P Q G X1 X2 X3 E1 E2 A na ca C Z nz cz w
  have HB_0 : Hid (Below w0.heap.size w0 w0) := Lib.hid (Below.refl _ _)
  go_enter Tryz.func64, Tryz.ntmps64
  go_wp2_with fail
  rw [HW.out]
  obtain ⟨zc0, zc1, zc2, zc3, zc4, zc5, zc6, zc7, zc8, zc9, zc10⟩ := kC.out _ HB_0
  go_wp2_with fail
  refine (rbvalid_any P Q G X1 X2 X3 true hval hQ _).mono ?_
  rintro e w1 ⟨rfl, hb0⟩
  have HB_1 := Lib.hid (below_ext HB_0.out hb0)
  clear zc0 zc1 zc2 zc3 zc4 zc5 zc6 zc7 zc8 zc9 zc10
  clear hb0
  obtain ⟨zc0, zc1, zc2, zc3, zc4, zc5, zc6, zc7, zc8, zc9, zc10⟩ := kC.out _ HB_1
  go_wp2_with fail
  refine (rkey_any P Q G X1 X2 X3 y true m0 HVG _).mono ?_
  rintro e w2 ⟨rfl, hb0⟩
  have HB_2 := Lib.hid (below_ext HB_1.out hb0)
  clear zc0 zc1 zc2 zc3 zc4 zc5 zc6 zc7 zc8 zc9 zc10
  clear hb0
  obtain ⟨zc0, zc1, zc2, zc3, zc4, zc5, zc6, zc7, zc8, zc9, zc10⟩ := kC.out _ HB_2
  go_wp2_with fail
  refine (rkey_any P Q G X1 X2 X3 ps true m1 HVG _).mono ?_
  rintro e w3 ⟨rfl, hb0⟩
  have HB_3 := Lib.hid (below_ext HB_2.out hb0)
  clear zc0 zc1 zc2 zc3 zc4 zc5 zc6 zc7 zc8 zc9 zc10
  clear hb0
  obtain ⟨zc0, zc1, zc2, zc3, zc4, zc5, zc6, zc7, zc8, zc9, zc10⟩ := kC.out _ HB_3
  go_wp2_with fail
  refine (rmember_any P Q G E1 false m2 p2 (by omega) (by omega) _).mono ?_
  rintro e w4 ⟨rfl, hb0⟩
  have HB_4 := Lib.hid (below_ext HB_3.out hb0)
  clear zc0 zc1 zc2 zc3 zc4 zc5 zc6 zc7 zc8 zc9 zc10
  clear hb0
  obtain ⟨zc0, zc1, zc2, zc3, zc4, zc5, zc6, zc7, zc8, zc9, zc10⟩ := kC.out _ HB_4
  have hbF := below_ext HBw.out HB_4.out
  go_wp2
  go_ret
  exact ⟨rfl, hbF⟩
set_option maxHeartbeats 6400000 in
theorem giv_3 (P Q G X1 X2 X3 : Int) (y ps : Int) (E1 E2 : Int) (A : Option Addr) (na ca : Nat) (C : Int) (Z : Option Addr) (nz cz : Nat) (hval : Hid (validB P Q G X1 X2 X3 = true)) (m0 : Hid (okB P Q y = true)) (m1 : Hid (okB P Q ps = true)) (m2 : Hid (memG P Q E1 = true)) (m3 : Hid (memG P Q E2 = false)) (hQ : Q < 9223372036854775808) (w : World) :
    Calls Tryz.prog 64 #[bv P Q G X1 X2 X3, .int .i64 y, .int .i64 ps, esV E1 E2 A na ca C Z nz cz] w fun e' w' => e' = .returned (.int .i64 2) ∧ Below w.heap.size w w' := by
  have HVG := Lib.hid (validB_parts hval.out).1
  obtain ⟨p1, p2, p3, p4⟩ := validG_P HVG.out
  obtain ⟨w0, HW, HBw, kC⟩ := stBE P Q G X1 X2 X3 E1 E2 A na ca C Z nz cz w
  have HB_0 : Hid (Below w0.heap.size w0 w0) := Lib.hid (Below.refl _ _)
  go_enter Tryz.func64, Tryz.ntmps64
  go_wp2_with fail
  rw [HW.out]
  obtain ⟨zc0, zc1, zc2, zc3, zc4, zc5, zc6, zc7, zc8, zc9, zc10⟩ := kC.out _ HB_0
  go_wp2_with fail
  refine (rbvalid_any P Q G X1 X2 X3 true hval hQ _).mono ?_
  rintro e w1 ⟨rfl, hb0⟩
  have HB_1 := Lib.hid (below_ext HB_0.out hb0)
  clear zc0 zc1 zc2 zc3 zc4 zc5 zc6 zc7 zc8 zc9 zc10
  clear hb0
  obtain ⟨zc0, zc1, zc2, zc3, zc4, zc5, zc6, zc7, zc8, zc9, zc10⟩ := kC.out _ HB_1
  go_wp2_with fail
  refine (rkey_any P Q G X1 X2 X3 y true m0 HVG _).mono ?_
  rintro e w2 ⟨rfl, hb0⟩
  have HB_2 := Lib.hid (below_ext HB_1.out hb0)
  clear zc0 zc1 zc2 zc3 zc4 zc5 zc6 zc7 zc8 zc9 zc10
  clear hb0
  obtain ⟨zc0, zc1, zc2, zc3, zc4, zc5, zc6, zc7, zc8, zc9, zc10⟩ := kC.out _ HB_2
  go_wp2_with fail
  refine (rkey_any P Q G X1 X2 X3 ps true m1 HVG _).mono ?_
  rintro e w3 ⟨rfl, hb0⟩
  have HB_3 := Lib.hid (below_ext HB_2.out hb0)
  clear zc0 zc1 zc2 zc3 zc4 zc5 zc6 zc7 zc8 zc9 zc10
  clear hb0
  obtain ⟨zc0, zc1, zc2, zc3, zc4, zc5, zc6, zc7, zc8, zc9, zc10⟩ := kC.out _ HB_3
  go_wp2_with fail
  refine (rmember_any P Q G E1 true m2 p2 (by omega) (by omega) _).mono ?_
  rintro e w4 ⟨rfl, hb0⟩
  have HB_4 := Lib.hid (below_ext HB_3.out hb0)
  clear zc0 zc1 zc2 zc3 zc4 zc5 zc6 zc7 zc8 zc9 zc10
  clear hb0
  obtain ⟨zc0, zc1, zc2, zc3, zc4, zc5, zc6, zc7, zc8, zc9, zc10⟩ := kC.out _ HB_4
  go_wp2_with fail
  refine (rmember_any P Q G E2 false m3 p2 (by omega) (by omega) _).mono ?_
  rintro e w5 ⟨rfl, hb0⟩
  have HB_5 := Lib.hid (below_ext HB_4.out hb0)
  clear zc0 zc1 zc2 zc3 zc4 zc5 zc6 zc7 zc8 zc9 zc10
  clear hb0
  obtain ⟨zc0, zc1, zc2, zc3, zc4, zc5, zc6, zc7, zc8, zc9, zc10⟩ := kC.out _ HB_5
  have hbF := below_ext HBw.out HB_5.out
  go_wp2
  go_ret
  exact ⟨rfl, hbF⟩
set_option maxHeartbeats 6400000 in
theorem giv_4 (P Q G X1 X2 X3 : Int) (y ps : Int) (E1 E2 : Int) (A : Option Addr) (na ca : Nat) (C : Int) (Z : Option Addr) (nz cz : Nat) (hval : Hid (validB P Q G X1 X2 X3 = true)) (m0 : Hid (okB P Q y = true)) (m1 : Hid (okB P Q ps = true)) (m2 : Hid (memG P Q E1 = true)) (m3 : Hid (memG P Q E2 = true)) (hQ : Q < 9223372036854775808) (w : World) :
    Calls Tryz.prog 64 #[bv P Q G X1 X2 X3, .int .i64 y, .int .i64 ps, esV E1 E2 A na ca C Z nz cz] w fun e' w' => e' = .returned (.int .i64 0) ∧ Below w.heap.size w w' := by
  have HVG := Lib.hid (validB_parts hval.out).1
  obtain ⟨p1, p2, p3, p4⟩ := validG_P HVG.out
  obtain ⟨w0, HW, HBw, kC⟩ := stBE P Q G X1 X2 X3 E1 E2 A na ca C Z nz cz w
  have HB_0 : Hid (Below w0.heap.size w0 w0) := Lib.hid (Below.refl _ _)
  go_enter Tryz.func64, Tryz.ntmps64
  go_wp2_with fail
  rw [HW.out]
  obtain ⟨zc0, zc1, zc2, zc3, zc4, zc5, zc6, zc7, zc8, zc9, zc10⟩ := kC.out _ HB_0
  go_wp2_with fail
  refine (rbvalid_any P Q G X1 X2 X3 true hval hQ _).mono ?_
  rintro e w1 ⟨rfl, hb0⟩
  have HB_1 := Lib.hid (below_ext HB_0.out hb0)
  clear zc0 zc1 zc2 zc3 zc4 zc5 zc6 zc7 zc8 zc9 zc10
  clear hb0
  obtain ⟨zc0, zc1, zc2, zc3, zc4, zc5, zc6, zc7, zc8, zc9, zc10⟩ := kC.out _ HB_1
  go_wp2_with fail
  refine (rkey_any P Q G X1 X2 X3 y true m0 HVG _).mono ?_
  rintro e w2 ⟨rfl, hb0⟩
  have HB_2 := Lib.hid (below_ext HB_1.out hb0)
  clear zc0 zc1 zc2 zc3 zc4 zc5 zc6 zc7 zc8 zc9 zc10
  clear hb0
  obtain ⟨zc0, zc1, zc2, zc3, zc4, zc5, zc6, zc7, zc8, zc9, zc10⟩ := kC.out _ HB_2
  go_wp2_with fail
  refine (rkey_any P Q G X1 X2 X3 ps true m1 HVG _).mono ?_
  rintro e w3 ⟨rfl, hb0⟩
  have HB_3 := Lib.hid (below_ext HB_2.out hb0)
  clear zc0 zc1 zc2 zc3 zc4 zc5 zc6 zc7 zc8 zc9 zc10
  clear hb0
  obtain ⟨zc0, zc1, zc2, zc3, zc4, zc5, zc6, zc7, zc8, zc9, zc10⟩ := kC.out _ HB_3
  go_wp2_with fail
  refine (rmember_any P Q G E1 true m2 p2 (by omega) (by omega) _).mono ?_
  rintro e w4 ⟨rfl, hb0⟩
  have HB_4 := Lib.hid (below_ext HB_3.out hb0)
  clear zc0 zc1 zc2 zc3 zc4 zc5 zc6 zc7 zc8 zc9 zc10
  clear hb0
  obtain ⟨zc0, zc1, zc2, zc3, zc4, zc5, zc6, zc7, zc8, zc9, zc10⟩ := kC.out _ HB_4
  go_wp2_with fail
  refine (rmember_any P Q G E2 true m3 p2 (by omega) (by omega) _).mono ?_
  rintro e w5 ⟨rfl, hb0⟩
  have HB_5 := Lib.hid (below_ext HB_4.out hb0)
  clear zc0 zc1 zc2 zc3 zc4 zc5 zc6 zc7 zc8 zc9 zc10
  clear hb0
  obtain ⟨zc0, zc1, zc2, zc3, zc4, zc5, zc6, zc7, zc8, zc9, zc10⟩ := kC.out _ HB_5
  have hbF := below_ext HBw.out HB_5.out
  go_wp2
  go_ret
  exact ⟨rfl, hbF⟩
theorem giv_any (P Q G X1 X2 X3 : Int) (y ps : Int) (E1 E2 : Int) (A : Option Addr) (na ca : Nat) (C : Int) (Z : Option Addr) (nz cz : Nat) (r : Int) (hr : Hid (esE P Q G X1 X2 X3 y ps E1 E2 = r)) (hQ : Q < 9223372036854775808) (w : World) :
    Calls Tryz.prog 64 #[bv P Q G X1 X2 X3, .int .i64 y, .int .i64 ps, esV E1 E2 A na ca C Z nz cz] w fun e' w' => e' = .returned (.int .i64 r) ∧ Below w.heap.size w w' := by
  have hr1 := hr.out
  unfold esE at hr1
  cases hval : validB P Q G X1 X2 X3 with
  | false =>
    obtain rfl : r = 1 := by rw [← hr1, hval]; rfl
    exact giv_n P Q G X1 X2 X3 y ps E1 E2 A na ca C Z nz cz (Lib.hid hval) hQ w
  | true =>
    rw [if_pos hval] at hr1
    cases m0 : okB P Q y with
    | false =>
      obtain rfl : r = 2 := by rw [← hr1, m0]; rfl
      exact giv_0 P Q G X1 X2 X3 y ps E1 E2 A na ca C Z nz cz (Lib.hid hval) (Lib.hid m0) hQ w
    | true =>
      cases m1 : okB P Q ps with
      | false =>
        obtain rfl : r = 2 := by rw [← hr1, m0, m1]; rfl
        exact giv_1 P Q G X1 X2 X3 y ps E1 E2 A na ca C Z nz cz (Lib.hid hval) (Lib.hid m0) (Lib.hid m1) hQ w
      | true =>
        cases m2 : memG P Q E1 with
        | false =>
          obtain rfl : r = 2 := by rw [← hr1, m0, m1, m2]; rfl
          exact giv_2 P Q G X1 X2 X3 y ps E1 E2 A na ca C Z nz cz (Lib.hid hval) (Lib.hid m0) (Lib.hid m1) (Lib.hid m2) hQ w
        | true =>
          cases m3 : memG P Q E2 with
          | false =>
            obtain rfl : r = 2 := by rw [← hr1, m0, m1, m2, m3]; rfl
            exact giv_3 P Q G X1 X2 X3 y ps E1 E2 A na ca C Z nz cz (Lib.hid hval) (Lib.hid m0) (Lib.hid m1) (Lib.hid m2) (Lib.hid m3) hQ w
          | true =>
            obtain rfl : r = 0 := by rw [← hr1, m0, m1, m2, m3]; rfl
            exact giv_4 P Q G X1 X2 X3 y ps E1 E2 A na ca C Z nz cz (Lib.hid hval) (Lib.hid m0) (Lib.hid m1) (Lib.hid m2) (Lib.hid m3) hQ w
set_option maxHeartbeats 6400000 in
theorem rescR_bad (P Q G X1 X2 X3 : Int) (y ps : Int) (E1 E2 : Int) (A : Option Addr) (na ca : Nat) (C : Int) (Z : Option Addr) (nz cz : Nat) (r : Int) (hr : Hid (esE P Q G X1 X2 X3 y ps E1 E2 = r)) (hne : (r != 0) = true) (hQ : Q < 9223372036854775808) (w : World) :
    Calls Tryz.prog 20 #[bv P Q G X1 X2 X3, .int .i64 y, .int .i64 ps, esV E1 E2 A na ca C Z nz cz] w fun e' w' => e' = .returned (.tuple #[relV none 0 0 none 0 0, .int .i64 r]) ∧ Below w.heap.size w w' := by
  obtain ⟨w0, HW, HBw, kC⟩ := stBER P Q G X1 X2 X3 E1 E2 A na ca C Z nz cz w
  have HB_0 : Hid (Below w0.heap.size w0 w0) := Lib.hid (Below.refl _ _)
  go_enter Tryz.func20, Tryz.ntmps20
  go_wp2_with fail
  rw [HW.out]
  obtain ⟨zc0, zc1, zc2, zc3, zc4, zc5, zc6, zc7, zc8, zc9, zc10, ⟨zc11, zf11⟩, ⟨zc12, zf12⟩⟩ := kC.out _ HB_0
  go_wp2_with fail
  refine (giv_any P Q G X1 X2 X3 y ps E1 E2 A na ca C Z nz cz r hr hQ _).mono ?_
  rintro e w1 ⟨rfl, hb0⟩
  have HB_1 := Lib.hid (below_ext HB_0.out hb0)
  clear zc0 zc1 zc2 zc3 zc4 zc5 zc6 zc7 zc8 zc9 zc10 zc11 zf11 zc12 zf12
  clear hb0
  obtain ⟨zc0, zc1, zc2, zc3, zc4, zc5, zc6, zc7, zc8, zc9, zc10, ⟨zc11, zf11⟩, ⟨zc12, zf12⟩⟩ := kC.out _ HB_1
  have hbF := below_ext HBw.out HB_1.out
  go_wp2
  exact bodyPost_ret (v := .tuple #[relV none 0 0 none 0 0, .int .i64 r]) (by simp [results, Tryz.results20, go_sem, zc11, zc12]) rfl ⟨rfl, below_set2' hbF (by omega) _ _⟩
set_option maxHeartbeats 12800000 in
theorem rescR_ok (P Q G X1 X2 X3 : Int) (y ps : Int) (E1 E2 : Int) (A : Option Addr) (na ca : Nat) (C : Int) (Z : Option Addr) (nz cz : Nat) (hval : Hid (validB P Q G X1 X2 X3 = true)) (m0 : Hid (okB P Q y = true)) (m1 : Hid (okB P Q ps = true)) (m2 : Hid (memG P Q E1 = true)) (m3 : Hid (memG P Q E2 = true)) (va vb vd : Int) (ha : Hid (E2 * X2 % P = va)) (hb : Hid (pw y ((Q - 1) % Q) P = vb)) (hd : Hid (pw G ((Q - 1) % Q) P = vd)) (hQ : Q < 9223372036854775808) (w : World) :
    Calls Tryz.prog 20 #[bv P Q G X1 X2 X3, .int .i64 y, .int .i64 ps, esV E1 E2 A na ca C Z nz cz] w (EsRelT ps va vb E1 vd w) := by
  have HVG := Lib.hid (validB_parts hval.out).1
  obtain ⟨p1, p2, p3, p4⟩ := validG_P HVG.out
  obtain ⟨_, v2, v3, _, _, _, _⟩ := validB_parts hval.out
  have hr : Hid (esE P Q G X1 X2 X3 y ps E1 E2 = 0) := Lib.hid (by rw [esE, if_pos hval.out, m0.out, m1.out, m2.out, m3.out]; rfl)
  have mG := gen_mem HVG.out
  have x2l := memG_lo v3
  have x2u := memG_hi v3
  have gl := memG_lo mG
  have gu := memG_hi mG
  have yl := memG_lo (okB_mem m0.out)
  have yu := memG_hi (okB_mem m0.out)
  have e2l := memG_lo m3.out
  have e2u := memG_hi m3.out
  clear v2 v3 mG
  obtain ⟨w0, HW, HBw, kC⟩ := stBER P Q G X1 X2 X3 E1 E2 A na ca C Z nz cz w
  have HB_0 : Hid (Below w0.heap.size w0 w0) := Lib.hid (Below.refl _ _)
  go_enter Tryz.func20, Tryz.ntmps20
  go_wp2_with fail
  rw [HW.out]
  obtain ⟨zc0, zc1, zc2, zc3, zc4, zc5, zc6, zc7, zc8, zc9, zc10, ⟨zc11, zf11⟩, ⟨zc12, zf12⟩⟩ := kC.out _ HB_0
  have HSZ0 : Hid (w.heap.size + 3 ≤ w0.heap.size) := Lib.hid (by rw [← HW.out]; simp)
  go_wp2_with fail
  refine (giv_any P Q G X1 X2 X3 y ps E1 E2 A na ca C Z nz cz 0 hr hQ _).mono ?_
  rintro e w1 ⟨rfl, hb0⟩
  have HB_1 := Lib.hid (below_ext HB_0.out hb0)
  clear zc0 zc1 zc2 zc3 zc4 zc5 zc6 zc7 zc8 zc9 zc10 zc11 zf11 zc12 zf12
  clear hb0
  obtain ⟨zc0, zc1, zc2, zc3, zc4, zc5, zc6, zc7, zc8, zc9, zc10, ⟨zc11, zf11⟩, ⟨zc12, zf12⟩⟩ := kC.out _ HB_1
  have hq := below_box0 w1 (gObj P Q G)
  have HB_2 := Lib.hid (below_ext HB_1.out hq)
  have hc : (w1.alloc (gObj P Q G)).cell? ⟨w1.heap.size, 0, none⟩ = some (.int .i64 P) ∧ (w1.alloc (gObj P Q G)).cell? ⟨w1.heap.size, 1, none⟩ = some (.int .i64 Q) ∧ (w1.alloc (gObj P Q G)).cell? ⟨w1.heap.size, 2, none⟩ = some (.int .i64 G) := ⟨allocs_cell rfl (by rfl), allocs_cell rfl (by rfl), allocs_cell rfl (by rfl)⟩
  have HC2 := Lib.hid hc
  clear hq
  obtain ⟨zc0x, zc1x, zc2x, zc3x, zc4x, zc5x, zc6x, zc7x, zc8x, zc9x, zc10x, ⟨zc11x, zf11x⟩, ⟨zc12x, zf12x⟩⟩ := kC.out _ HB_2
  obtain ⟨zq0, zq1, zq2⟩ := hc
  go_wp2_with fail
  obtain ⟨w2, hw⟩ : ∃ x, (w1.alloc (gObj P Q G)) = x := ⟨_, rfl⟩
  rw [hw] at HC2 HB_2 ⊢
  have HSN2 : Hid (w2.heap.size = w1.heap.size + 1) := Lib.hid (by rw [← hw]; simp)
  clear zc0 zc1 zc2 zc3 zc4 zc5 zc6 zc7 zc8 zc9 zc10 zc11 zf11 zc12 zf12 zc0x zc1x zc2x zc3x zc4x zc5x zc6x zc7x zc8x zc9x zc10x zc11x zf11x zc12x zf12x zq0 zq1 zq2
  clear hw
  have HB_w2_2 : Hid (Below w2.heap.size w2 w2) := Lib.hid (Below.refl _ _)
  have kG := Lib.hid (show ∀ u : World, Hid (Below w2.heap.size w2 u) → u.cell? ⟨w1.heap.size, 0, none⟩ = some (.int .i64 P) ∧ u.cell? ⟨w1.heap.size, 1, none⟩ = some (.int .i64 Q) ∧ u.cell? ⟨w1.heap.size, 2, none⟩ = some (.int .i64 G) from fun u h => ⟨cell_below HC2.out.1 h.out, cell_below HC2.out.2.1 h.out, cell_below HC2.out.2.2 h.out⟩)
  obtain ⟨zc0, zc1, zc2, zc3, zc4, zc5, zc6, zc7, zc8, zc9, zc10, ⟨zc11, zf11⟩, ⟨zc12, zf12⟩⟩ := kC.out _ HB_2
  obtain ⟨kG_0, kG_1, kG_2⟩ := kG.out _ HB_w2_2
  go_upto_region 5 with (fail)
  clear zc0 zc1 zc2 zc3 zc4 zc5 zc6 zc7 zc8 zc9 zc10 zc11 zf11 zc12 zf12 kG_0 kG_1 kG_2
  have hBx := Lib.hid (show ∀ u u2 : World, Hid (Below w0.heap.size w0 u ∧ Below w2.heap.size w2 u) → Below u.heap.size u u2 → Hid (Below w0.heap.size w0 u2 ∧ Below w2.heap.size w2 u2) from fun u u2 h1 h2 => Lib.hid ⟨(below_ext h1.out.1 h2), (below_ext h1.out.2 h2)⟩)
  have hS := Lib.hid (show ∀ u : World, Hid (Below w0.heap.size w0 u ∧ Below w2.heap.size w2 u) → (u.cell? ⟨w.heap.size, 0, none⟩ = some (.int .i64 P) ∧ u.cell? ⟨w.heap.size, 1, none⟩ = some (.int .i64 Q) ∧ u.cell? ⟨w.heap.size, 2, none⟩ = some (.int .i64 G) ∧ u.cell? ⟨w.heap.size, 3, none⟩ = some (.int .i64 X1) ∧ u.cell? ⟨w.heap.size, 4, none⟩ = some (.int .i64 X2) ∧ u.cell? ⟨w.heap.size, 5, none⟩ = some (.int .i64 X3) ∧ u.cell? ⟨w.heap.size + 1, 0, none⟩ = some (.int .i64 E1) ∧ u.cell? ⟨w.heap.size + 1, 1, none⟩ = some (.int .i64 E2) ∧ u.cell? ⟨w.heap.size + 1, 2, none⟩ = some (.slice A na ca) ∧ u.cell? ⟨w.heap.size + 1, 3, none⟩ = some (.int .i64 C) ∧ u.cell? ⟨w.heap.size + 1, 4, none⟩ = some (.slice Z nz cz) ∧ Own u ⟨w.heap.size + 2, 0, none⟩ (.slice none 0 0) ∧ Own u ⟨w.heap.size + 2, 1, none⟩ (.slice none 0 0) ∧ u.cell? ⟨w1.heap.size, 0, none⟩ = some (.int .i64 P) ∧ u.cell? ⟨w1.heap.size, 1, none⟩ = some (.int .i64 Q) ∧ u.cell? ⟨w1.heap.size, 2, none⟩ = some (.int .i64 G)) from fun u h1 => by
    obtain ⟨y0, y1, y2, y3, y4, y5, y6, y7, y8, y9, y10, y11, y12⟩ := kC.out _ (Lib.hid h1.out.1)
    obtain ⟨kG_0, kG_1, kG_2⟩ := kG.out _ (Lib.hid h1.out.2)
    exact ⟨y0, y1, y2, y3, y4, y5, y6, y7, y8, y9, y10, y11, y12, kG_0, kG_1, kG_2⟩)
  have HBA : Hid (Below w0.heap.size w0 w2 ∧ Below w2.heap.size w2 w2) := Lib.hid ⟨HB_2.out, HB_w2_2.out⟩
  have HBD := hBx.out _ _ HBA (Below.refl _ _).drew
  refine wp_region_T (S := fun w' => w'.cell? ⟨w.heap.size, 0, none⟩ = some (.int .i64 P) ∧ w'.cell? ⟨w.heap.size, 1, none⟩ = some (.int .i64 Q) ∧ w'.cell? ⟨w.heap.size, 2, none⟩ = some (.int .i64 G) ∧ w'.cell? ⟨w.heap.size, 3, none⟩ = some (.int .i64 X1) ∧ w'.cell? ⟨w.heap.size, 4, none⟩ = some (.int .i64 X2) ∧ w'.cell? ⟨w.heap.size, 5, none⟩ = some (.int .i64 X3) ∧ w'.cell? ⟨w.heap.size + 1, 0, none⟩ = some (.int .i64 E1) ∧ w'.cell? ⟨w.heap.size + 1, 1, none⟩ = some (.int .i64 E2) ∧ w'.cell? ⟨w.heap.size + 1, 2, none⟩ = some (.slice A na ca) ∧ w'.cell? ⟨w.heap.size + 1, 3, none⟩ = some (.int .i64 C) ∧ w'.cell? ⟨w.heap.size + 1, 4, none⟩ = some (.slice Z nz cz) ∧ Own w' ⟨w.heap.size + 2, 0, none⟩ (.slice none 0 0) ∧ Own w' ⟨w.heap.size + 2, 1, none⟩ (.slice none 0 0) ∧ w'.cell? ⟨w1.heap.size, 0, none⟩ = some (.int .i64 P) ∧ w'.cell? ⟨w1.heap.size, 1, none⟩ = some (.int .i64 Q) ∧ w'.cell? ⟨w1.heap.size, 2, none⟩ = some (.int .i64 G)) (E := []) (by kernel_rfl) (hS.out _ HBD) (fun hHeld => ?_)
  obtain ⟨wD, hwD⟩ : ∃ u, w2.drew = u := ⟨_, rfl⟩
  rw [hwD] at HBD hHeld ⊢
  have HSZD : Hid (w2.heap.size ≤ wD.heap.size) := Lib.hid (by rw [← hwD]; exact Nat.le_refl _)
  clear hwD
  refine wpT_take (i := 0) (oi := _) (v := ?_) rfl (by kernel_rfl) (by kernel_rfl) (by kernel_rfl) (by kernel_rfl) (fun _ _ _ h => h) (Or.inl ⟨by rfl, ?_⟩) (by assumption) ?_
  rotate_left; (intro wS hSw; (try dsimp only at hSw); go_simp <;> with_reducible rfl)
  try simp only [List.getElem_toArray, List.getElem_cons_zero, List.getElem_cons_succ, Act.put, List.setIfInBounds_toArray, List.set_cons_zero, List.set_cons_succ]
  refine wpT_take (i := 1) (oi := _) (v := ?_) rfl (by kernel_rfl) (by kernel_rfl) (by kernel_rfl) (by kernel_rfl) (fun _ _ _ h => h) (Or.inl ⟨by rfl, ?_⟩) (by assumption) ?_
  rotate_left; (intro wS hSw; (try dsimp only at hSw); go_simp <;> with_reducible rfl)
  try simp only [List.getElem_toArray, List.getElem_cons_zero, List.getElem_cons_succ, Act.put, List.setIfInBounds_toArray, List.set_cons_zero, List.set_cons_succ]
  refine wpT_take (i := 2) (oi := _) (v := ?_) rfl (by kernel_rfl) (by kernel_rfl) (by kernel_rfl) (by kernel_rfl) (fun _ _ _ h => h) (Or.inl ⟨by rfl, ?_⟩) (by assumption) ?_
  rotate_left; (intro wS hSw; (try dsimp only at hSw); go_simp <;> with_reducible rfl)
  try simp only [List.getElem_toArray, List.getElem_cons_zero, List.getElem_cons_succ, Act.put, List.setIfInBounds_toArray, List.set_cons_zero, List.set_cons_succ]
  refine wpT_take (i := 3) (oi := _) (v := ?_) rfl (by kernel_rfl) (by kernel_rfl) (by kernel_rfl) (by kernel_rfl) (fun _ _ _ h => h) (Or.inl ⟨by rfl, ?_⟩) (by assumption) ?_
  rotate_left; (intro wS hSw; (try dsimp only at hSw); go_simp <;> with_reducible rfl)
  try simp only [List.getElem_toArray, List.getElem_cons_zero, List.getElem_cons_succ, Act.put, List.setIfInBounds_toArray, List.set_cons_zero, List.set_cons_succ]
  refine wpT_take (i := 4) (oi := _) (v := ?_) rfl (by kernel_rfl) (by kernel_rfl) (by kernel_rfl) (by kernel_rfl) (fun _ _ _ h => h) (Or.inl ⟨by rfl, ?_⟩) (by assumption) ?_
  rotate_left; (intro wS hSw; (try dsimp only at hSw); go_simp <;> with_reducible rfl)
  try simp only [List.getElem_toArray, List.getElem_cons_zero, List.getElem_cons_succ, Act.put, List.setIfInBounds_toArray, List.set_cons_zero, List.set_cons_succ]
  refine wpT_take (i := 6) (oi := _) (v := ?_) rfl (by kernel_rfl) (by kernel_rfl) (by kernel_rfl) (by kernel_rfl) (fun _ _ _ h => h) (Or.inl ⟨by rfl, ?_⟩) (by assumption) ?_
  rotate_left; (intro wS hSw; (try dsimp only at hSw); go_simp <;> with_reducible rfl)
  try simp only [List.getElem_toArray, List.getElem_cons_zero, List.getElem_cons_succ, Act.put, List.setIfInBounds_toArray, List.set_cons_zero, List.set_cons_succ]
  refine wpT_take (i := 7) (oi := _) (v := ?_) rfl (by kernel_rfl) (by kernel_rfl) (by kernel_rfl) (by kernel_rfl) (fun _ _ _ h => h) (Or.inl ⟨by rfl, ?_⟩) (by assumption) ?_
  rotate_left; (intro wS hSw; (try dsimp only at hSw); go_simp <;> with_reducible rfl)
  try simp only [List.getElem_toArray, List.getElem_cons_zero, List.getElem_cons_succ, Act.put, List.setIfInBounds_toArray, List.set_cons_zero, List.set_cons_succ]
  refine wpT_frame (fun T a0 hT ha0 => ?_)
  clear hHeld
  have G5_8_9 : ∀ (gA : Nat) (uA : World), (Hid (Below w0.heap.size w0 uA ∧ Below w2.heap.size w2 uA)) → (Hid (IB2 uA gA va vb)) → (Hid (w.heap.size + 2 < gA)) → T 1 #[true, true, true, true, true, true, true, true, true, true, false] (((a0.put (some 30) (.int .i64 va)).put (some 33) (.int .i64 vb)).put (some 34) (.slice (some ⟨gA, 0, none⟩) 2 2)) uA := by
    intro gA uA FB FA FAl
    have hHeld := hS.out _ FB
    rw [hT, ha0]
    try simp only [List.getElem_toArray, List.getElem_cons_zero, List.getElem_cons_succ, Act.put, List.setIfInBounds_toArray, List.set_cons_zero, List.set_cons_succ]
    have HE_w0 := Lib.hid FB.out.1
    have HE_w2 := Lib.hid FB.out.2
    refine wpT_take (i := 10) (oi := _) (v := ?_) rfl (by kernel_rfl) (by kernel_rfl) (by kernel_rfl) (by kernel_rfl) (fun _ _ _ h => h) (Or.inl ⟨by rfl, ?_⟩) (by assumption) ?_
    rotate_left; (intro wS hSw; (try dsimp only at hSw); go_simp <;> with_reducible rfl)
    try simp only [List.getElem_toArray, List.getElem_cons_zero, List.getElem_cons_succ, Act.put, List.setIfInBounds_toArray, List.set_cons_zero, List.set_cons_succ]
    refine wpT_done (by kernel_rfl) ?_ _
    have GAl : Hid (w.heap.size + 2 < gA) := FAl
    clear hT ha0 hHeld
    have HB_uA_2 : Hid (Below uA.heap.size uA uA) := Lib.hid (Below.refl _ _)
    have kSA := Lib.hid (show ∀ u : World, Hid (Below uA.heap.size uA u) → Hid (IB2 u gA va vb) from fun u h => Lib.hid (FA.out.below h.out))
    have HSZ6 : Hid (w.heap.size + 2 < uA.heap.size) := Lib.hid (Nat.lt_trans FAl.out (Array.getElem?_eq_some_iff.1 FA.out).1)
    obtain ⟨zc0, zc1, zc2, zc3, zc4, zc5, zc6, zc7, zc8, zc9, zc10, ⟨zc11, zf11⟩, ⟨zc12, zf12⟩⟩ := kC.out _ HE_w0
    obtain ⟨kG_0, kG_1, kG_2⟩ := kG.out _ HE_w2
    go_upto_region 6 with (fail)
    clear zc0 zc1 zc2 zc3 zc4 zc5 zc6 zc7 zc8 zc9 zc10 zc11 zf11 zc12 zf12 kG_0 kG_1 kG_2
    have hBx := Lib.hid (show ∀ u u2 : World, Hid (Below w0.heap.size w0 u ∧ Below w2.heap.size w2 u ∧ Below uA.heap.size uA u) → Below u.heap.size u u2 → Hid (Below w0.heap.size w0 u2 ∧ Below w2.heap.size w2 u2 ∧ Below uA.heap.size uA u2) from fun u u2 h1 h2 => Lib.hid ⟨(below_ext h1.out.1 h2), (below_ext h1.out.2.1 h2), (below_ext h1.out.2.2 h2)⟩)
    have hS := Lib.hid (show ∀ u : World, Hid (Below w0.heap.size w0 u ∧ Below w2.heap.size w2 u ∧ Below uA.heap.size uA u) → (u.cell? ⟨w.heap.size, 0, none⟩ = some (.int .i64 P) ∧ u.cell? ⟨w.heap.size, 1, none⟩ = some (.int .i64 Q) ∧ u.cell? ⟨w.heap.size, 2, none⟩ = some (.int .i64 G) ∧ u.cell? ⟨w.heap.size, 3, none⟩ = some (.int .i64 X1) ∧ u.cell? ⟨w.heap.size, 4, none⟩ = some (.int .i64 X2) ∧ u.cell? ⟨w.heap.size, 5, none⟩ = some (.int .i64 X3) ∧ u.cell? ⟨w.heap.size + 1, 0, none⟩ = some (.int .i64 E1) ∧ u.cell? ⟨w.heap.size + 1, 1, none⟩ = some (.int .i64 E2) ∧ u.cell? ⟨w.heap.size + 1, 2, none⟩ = some (.slice A na ca) ∧ u.cell? ⟨w.heap.size + 1, 3, none⟩ = some (.int .i64 C) ∧ u.cell? ⟨w.heap.size + 1, 4, none⟩ = some (.slice Z nz cz) ∧ Own u ⟨w.heap.size + 2, 0, none⟩ (.slice none 0 0) ∧ Own u ⟨w.heap.size + 2, 1, none⟩ (.slice none 0 0) ∧ u.cell? ⟨w1.heap.size, 0, none⟩ = some (.int .i64 P) ∧ u.cell? ⟨w1.heap.size, 1, none⟩ = some (.int .i64 Q) ∧ u.cell? ⟨w1.heap.size, 2, none⟩ = some (.int .i64 G)) from fun u h1 => by
      obtain ⟨y0, y1, y2, y3, y4, y5, y6, y7, y8, y9, y10, y11, y12⟩ := kC.out _ (Lib.hid h1.out.1)
      obtain ⟨kG_0, kG_1, kG_2⟩ := kG.out _ (Lib.hid h1.out.2.1)
      exact ⟨y0, y1, y2, y3, y4, y5, y6, y7, y8, y9, y10, y11, y12, kG_0, kG_1, kG_2⟩)
    have HBA : Hid (Below w0.heap.size w0 uA ∧ Below w2.heap.size w2 uA ∧ Below uA.heap.size uA uA) := Lib.hid ⟨HE_w0.out, HE_w2.out, HB_uA_2.out⟩
    have HBD := hBx.out _ _ HBA (Below.refl _ _).drew
    refine wp_region_T (S := fun w' => w'.cell? ⟨w.heap.size, 0, none⟩ = some (.int .i64 P) ∧ w'.cell? ⟨w.heap.size, 1, none⟩ = some (.int .i64 Q) ∧ w'.cell? ⟨w.heap.size, 2, none⟩ = some (.int .i64 G) ∧ w'.cell? ⟨w.heap.size, 3, none⟩ = some (.int .i64 X1) ∧ w'.cell? ⟨w.heap.size, 4, none⟩ = some (.int .i64 X2) ∧ w'.cell? ⟨w.heap.size, 5, none⟩ = some (.int .i64 X3) ∧ w'.cell? ⟨w.heap.size + 1, 0, none⟩ = some (.int .i64 E1) ∧ w'.cell? ⟨w.heap.size + 1, 1, none⟩ = some (.int .i64 E2) ∧ w'.cell? ⟨w.heap.size + 1, 2, none⟩ = some (.slice A na ca) ∧ w'.cell? ⟨w.heap.size + 1, 3, none⟩ = some (.int .i64 C) ∧ w'.cell? ⟨w.heap.size + 1, 4, none⟩ = some (.slice Z nz cz) ∧ Own w' ⟨w.heap.size + 2, 0, none⟩ (.slice none 0 0) ∧ Own w' ⟨w.heap.size + 2, 1, none⟩ (.slice none 0 0) ∧ w'.cell? ⟨w1.heap.size, 0, none⟩ = some (.int .i64 P) ∧ w'.cell? ⟨w1.heap.size, 1, none⟩ = some (.int .i64 Q) ∧ w'.cell? ⟨w1.heap.size, 2, none⟩ = some (.int .i64 G)) (E := []) (by kernel_rfl) (hS.out _ HBD) (fun hHeld => ?_)
    obtain ⟨wD, hwD⟩ : ∃ u, uA.drew = u := ⟨_, rfl⟩
    rw [hwD] at HBD hHeld ⊢
    have HSZD : Hid (uA.heap.size ≤ wD.heap.size) := Lib.hid (by rw [← hwD]; exact Nat.le_refl _)
    clear hwD
    refine wpT_take (i := 0) (oi := _) (v := ?_) rfl (by kernel_rfl) (by kernel_rfl) (by kernel_rfl) (by kernel_rfl) (fun _ _ _ h => h) (Or.inl ⟨by rfl, ?_⟩) (by assumption) ?_
    rotate_left; (intro wS hSw; (try dsimp only at hSw); go_simp <;> with_reducible rfl)
    try simp only [List.getElem_toArray, List.getElem_cons_zero, List.getElem_cons_succ, Act.put, List.setIfInBounds_toArray, List.set_cons_zero, List.set_cons_succ]
    refine wpT_take (i := 1) (oi := _) (v := ?_) rfl (by kernel_rfl) (by kernel_rfl) (by kernel_rfl) (by kernel_rfl) (fun _ _ _ h => h) (Or.inl ⟨by rfl, ?_⟩) (by assumption) ?_
    rotate_left; (intro wS hSw; (try dsimp only at hSw); go_simp <;> with_reducible rfl)
    try simp only [List.getElem_toArray, List.getElem_cons_zero, List.getElem_cons_succ, Act.put, List.setIfInBounds_toArray, List.set_cons_zero, List.set_cons_succ]
    refine wpT_take (i := 2) (oi := _) (v := ?_) rfl (by kernel_rfl) (by kernel_rfl) (by kernel_rfl) (by kernel_rfl) (fun _ _ _ h => h) (Or.inl ⟨by rfl, ?_⟩) (by assumption) ?_
    rotate_left; (intro wS hSw; (try dsimp only at hSw); go_simp <;> with_reducible rfl)
    try simp only [List.getElem_toArray, List.getElem_cons_zero, List.getElem_cons_succ, Act.put, List.setIfInBounds_toArray, List.set_cons_zero, List.set_cons_succ]
    refine wpT_take (i := 3) (oi := _) (v := ?_) rfl (by kernel_rfl) (by kernel_rfl) (by kernel_rfl) (by kernel_rfl) (fun _ _ _ h => h) (Or.inl ⟨by rfl, ?_⟩) (by assumption) ?_
    rotate_left; (intro wS hSw; (try dsimp only at hSw); go_simp <;> with_reducible rfl)
    try simp only [List.getElem_toArray, List.getElem_cons_zero, List.getElem_cons_succ, Act.put, List.setIfInBounds_toArray, List.set_cons_zero, List.set_cons_succ]
    refine wpT_take (i := 4) (oi := _) (v := ?_) rfl (by kernel_rfl) (by kernel_rfl) (by kernel_rfl) (by kernel_rfl) (fun _ _ _ h => h) (Or.inl ⟨by rfl, ?_⟩) (by assumption) ?_
    rotate_left; (intro wS hSw; (try dsimp only at hSw); go_simp <;> with_reducible rfl)
    try simp only [List.getElem_toArray, List.getElem_cons_zero, List.getElem_cons_succ, Act.put, List.setIfInBounds_toArray, List.set_cons_zero, List.set_cons_succ]
    refine wpT_frame (fun T a0 hT ha0 => ?_)
    clear hHeld
    have G5_6 : ∀ (gB : Nat) (uB : World), (Hid (Below w0.heap.size w0 uB ∧ Below w2.heap.size w2 uB ∧ Below uA.heap.size uA uB)) → (Hid (IB2 uB gB E1 vd)) → (Hid (w.heap.size + 2 < gB)) → T 1 #[true, true, true, true, true, true, true, false] ((a0.put (some 40) (.int .i64 vd)).put (some 41) (.slice (some ⟨gB, 0, none⟩) 2 2)) uB := by
      intro gB uB FB FC FCl
      have hHeld := hS.out _ FB
      rw [hT, ha0]
      try simp only [List.getElem_toArray, List.getElem_cons_zero, List.getElem_cons_succ, Act.put, List.setIfInBounds_toArray, List.set_cons_zero, List.set_cons_succ]
      have HE_w0 := Lib.hid FB.out.1
      have HE_w2 := Lib.hid FB.out.2.1
      have HE_uA := Lib.hid FB.out.2.2
      refine wpT_take (i := 7) (oi := _) (v := ?_) rfl (by kernel_rfl) (by kernel_rfl) (by kernel_rfl) (by kernel_rfl) (fun _ _ _ h => h) (Or.inl ⟨by rfl, ?_⟩) (by assumption) ?_
      rotate_left; (intro wS hSw; (try dsimp only at hSw); go_simp <;> with_reducible rfl)
      try simp only [List.getElem_toArray, List.getElem_cons_zero, List.getElem_cons_succ, Act.put, List.setIfInBounds_toArray, List.set_cons_zero, List.set_cons_succ]
      refine wpT_done (by kernel_rfl) ?_ _
      have GBl : Hid (w.heap.size + 2 < gB) := FCl
      clear hT ha0 hHeld
      have HB_uB_2 : Hid (Below uB.heap.size uB uB) := Lib.hid (Below.refl _ _)
      have kSB := Lib.hid (show ∀ u : World, Hid (Below uB.heap.size uB u) → Hid (IB2 u gB E1 vd) from fun u h => Lib.hid (FC.out.below h.out))
      have HSZ7 : Hid (w.heap.size + 2 < uB.heap.size) := Lib.hid (Nat.lt_trans FCl.out (Array.getElem?_eq_some_iff.1 FC.out).1)
      have hbF := below_ext HBw.out HE_w0.out
      have hA9 := (kSA.out _ HE_uA)
      have hB9 := (kSB.out _ HB_uB_2)
      have hq := below_box0 uB (.cells #[.int .i64 ps, .int .i64 1] 3)
      have HB_3 := Lib.hid (below_ext HE_w0.out hq)
      have HB_w2_3 := Lib.hid (below_ext HE_w2.out hq)
      have HB_uA_3 := Lib.hid (below_ext HE_uA.out hq)
      have HB_uB_3 := Lib.hid (below_ext HB_uB_2.out hq)
      clear hq
      have hq := below_box0 (uB.alloc (.cells #[.int .i64 ps, .int .i64 1] 3)) (.cells #[.slice (some ⟨gA, 0, none⟩) 2 2, .slice (some ⟨gB, 0, none⟩) 2 2] 24)
      have HB_4 := Lib.hid (below_ext HB_3.out hq)
      have HB_w2_4 := Lib.hid (below_ext HB_w2_3.out hq)
      have HB_uA_4 := Lib.hid (below_ext HB_uA_3.out hq)
      have HB_uB_4 := Lib.hid (below_ext HB_uB_3.out hq)
      clear hq
      obtain ⟨zc0, zc1, zc2, zc3, zc4, zc5, zc6, zc7, zc8, zc9, zc10, ⟨zc11, zf11⟩, ⟨zc12, zf12⟩⟩ := kC.out _ HB_4
      obtain ⟨kG_0, kG_1, kG_2⟩ := kG.out _ HB_w2_4
      go_wp2
      have hE : EsBlk ps va vb E1 vd uB.heap.size gA gB (uB.heap.size + 1) ((uB.alloc (.cells #[.int .i64 ps, .int .i64 1] 3)).alloc (.cells #[.slice (some ⟨gA, 0, none⟩) 2 2, .slice (some ⟨gB, 0, none⟩) 2 2] 24)) := ⟨(IB2.new uB ps 1).below (below_box0 _ _), (hA9.out.below (below_box0 _ _)).below (below_box0 _ _), (hB9.out.below (below_box0 _ _)).below (below_box0 _ _), by have := RB2.new (uB.alloc (.cells #[.int .i64 ps, .int .i64 1] 3)) gA gB; simpa using this⟩
      have s7 := HSZ7.out
      have a7 := GAl.out
      have b7 := GBl.out
      have hbG := below_ext (below_ext hbF (below_box0 uB (.cells #[.int .i64 ps, .int .i64 1] 3))) (below_box0 _ (.cells #[.slice (some ⟨gA, 0, none⟩) 2 2, .slice (some ⟨gB, 0, none⟩) 2 2] 24))
      exact bodyPost_ret (v := .tuple #[esRV uB.heap.size (uB.heap.size + 1), .int .i64 0]) (by simp [results, Tryz.results20, go_sem, zc11, zc12]) rfl ⟨uB.heap.size, gA, gB, uB.heap.size + 1, rfl, (hE.set (by omega) (by omega) (by omega) (by omega) _ _).set (by omega) (by omega) (by omega) (by omega) _ _, below_set2' hbG (by omega) _ _⟩
    have G5 : ∀  (uB : World), (Hid (Below w0.heap.size w0 uB ∧ Below w2.heap.size w2 uB ∧ Below uA.heap.size uA uB)) → T 2 #[true, true, true, true, true, true, false, false] (a0.put (some 40) (.int .i64 vd)) uB := by
      intro  uB FB
      have hHeld := hS.out _ FB
      rw [hT, ha0]
      try simp only [List.getElem_toArray, List.getElem_cons_zero, List.getElem_cons_succ, Act.put, List.setIfInBounds_toArray, List.set_cons_zero, List.set_cons_succ]
      refine wpT_one (i := 6) (by kernel_rfl) rfl (fun K hK => ?_)
      go_simp
      have FB2 := hBx.out _ _ FB (below_box0 uB (.cells #[.int .i64 E1, .int .i64 vd] 3))
      refine hK.out _ _ ?_ (fun hHeld => ?_)
      · exact hS.out _ FB2
      clear hK K hHeld
      try simp only [List.getElem_toArray, List.getElem_cons_zero, List.getElem_cons_succ, Act.put, List.setIfInBounds_toArray, List.set_cons_zero, List.set_cons_succ]
      have hG := G5_6 uB.heap.size (uB.alloc (.cells #[.int .i64 E1, .int .i64 vd] 3)) FB2 (Lib.hid (IB2.new uB E1 vd)) (Lib.hid (by have := FB.out.2.2.size; have := HSZ6.out; omega))
      rw [hT, ha0] at hG
      (try simp only [List.getElem_toArray, List.getElem_cons_zero, List.getElem_cons_succ, Act.put, List.setIfInBounds_toArray, List.set_cons_zero, List.set_cons_succ] at hG)
      exact hG
    have G0 : ∀  (uB : World), (Hid (Below w0.heap.size w0 uB ∧ Below w2.heap.size w2 uB ∧ Below uA.heap.size uA uB)) → T 3 #[true, true, true, true, true, false, false, false] a0 uB := by
      intro  uB FB
      have hHeld := hS.out _ FB
      rw [hT, ha0]
      try simp only [List.getElem_toArray, List.getElem_cons_zero, List.getElem_cons_succ, Act.put, List.setIfInBounds_toArray, List.set_cons_zero, List.set_cons_succ]
      refine wpT_one (i := 5) (by kernel_rfl) rfl (fun K hK => ?_)
      go_simp
      refine (rinverse_any P Q G G vd hd (by omega) p2 (by omega) (by omega) (by omega) gu _).mono ?_
      rintro e wB ⟨rfl, hq⟩
      have FB2 := hBx.out _ _ FB hq
      refine hK.out _ _ ?_ (fun hHeld => ?_)
      · exact hS.out _ FB2
      clear hK K hHeld
      try simp only [List.getElem_toArray, List.getElem_cons_zero, List.getElem_cons_succ, Act.put, List.setIfInBounds_toArray, List.set_cons_zero, List.set_cons_succ]
      have hG := G5  wB FB2
      rw [hT, ha0] at hG
      (try simp only [List.getElem_toArray, List.getElem_cons_zero, List.getElem_cons_succ, Act.put, List.setIfInBounds_toArray, List.set_cons_zero, List.set_cons_succ] at hG)
      exact hG
    exact G0 _ HBD
  have G5_8 : ∀  (uA : World), (Hid (Below w0.heap.size w0 uA ∧ Below w2.heap.size w2 uA)) → T 2 #[true, true, true, true, true, true, true, true, true, false, false] ((a0.put (some 30) (.int .i64 va)).put (some 33) (.int .i64 vb)) uA := by
    intro  uA FB
    have hHeld := hS.out _ FB
    rw [hT, ha0]
    try simp only [List.getElem_toArray, List.getElem_cons_zero, List.getElem_cons_succ, Act.put, List.setIfInBounds_toArray, List.set_cons_zero, List.set_cons_succ]
    refine wpT_one (i := 9) (by kernel_rfl) rfl (fun K hK => ?_)
    go_simp
    have FB2 := hBx.out _ _ FB (below_box0 uA (.cells #[.int .i64 va, .int .i64 vb] 3))
    refine hK.out _ _ ?_ (fun hHeld => ?_)
    · exact hS.out _ FB2
    clear hK K hHeld
    try simp only [List.getElem_toArray, List.getElem_cons_zero, List.getElem_cons_succ, Act.put, List.setIfInBounds_toArray, List.set_cons_zero, List.set_cons_succ]
    have hG := G5_8_9 uA.heap.size (uA.alloc (.cells #[.int .i64 va, .int .i64 vb] 3)) FB2 (Lib.hid (IB2.new uA va vb)) (Lib.hid (by have := FB.out.1.size; have := HSZ0.out; omega))
    rw [hT, ha0] at hG
    (try simp only [List.getElem_toArray, List.getElem_cons_zero, List.getElem_cons_succ, Act.put, List.setIfInBounds_toArray, List.set_cons_zero, List.set_cons_succ] at hG)
    exact hG
  have G5 : ∀  (uA : World), (Hid (Below w0.heap.size w0 uA ∧ Below w2.heap.size w2 uA)) → T 3 #[true, true, true, true, true, true, true, true, false, false, false] (a0.put (some 30) (.int .i64 va)) uA := by
    intro  uA FB
    have hHeld := hS.out _ FB
    rw [hT, ha0]
    try simp only [List.getElem_toArray, List.getElem_cons_zero, List.getElem_cons_succ, Act.put, List.setIfInBounds_toArray, List.set_cons_zero, List.set_cons_succ]
    refine wpT_one (i := 8) (by kernel_rfl) rfl (fun K hK => ?_)
    go_simp
    refine (rinverse_any P Q G y vb hb (by omega) p2 (by omega) (by omega) (by omega) yu _).mono ?_
    rintro e wB ⟨rfl, hq⟩
    have FB2 := hBx.out _ _ FB hq
    refine hK.out _ _ ?_ (fun hHeld => ?_)
    · exact hS.out _ FB2
    clear hK K hHeld
    try simp only [List.getElem_toArray, List.getElem_cons_zero, List.getElem_cons_succ, Act.put, List.setIfInBounds_toArray, List.set_cons_zero, List.set_cons_succ]
    have hG := G5_8  wB FB2
    rw [hT, ha0] at hG
    (try simp only [List.getElem_toArray, List.getElem_cons_zero, List.getElem_cons_succ, Act.put, List.setIfInBounds_toArray, List.set_cons_zero, List.set_cons_succ] at hG)
    exact hG
  have G0 : ∀  (uA : World), (Hid (Below w0.heap.size w0 uA ∧ Below w2.heap.size w2 uA)) → T 4 #[true, true, true, true, true, false, true, true, false, false, false] a0 uA := by
    intro  uA FB
    have hHeld := hS.out _ FB
    rw [hT, ha0]
    try simp only [List.getElem_toArray, List.getElem_cons_zero, List.getElem_cons_succ, Act.put, List.setIfInBounds_toArray, List.set_cons_zero, List.set_cons_succ]
    refine wpT_one (i := 5) (by kernel_rfl) rfl (fun K hK => ?_)
    go_simp
    refine (rgmul_any P Q G E2 X2 va ha p2 (by omega) e2u (by omega) x2u _).mono ?_
    rintro e wB ⟨rfl, hq⟩
    have FB2 := hBx.out _ _ FB hq
    refine hK.out _ _ ?_ (fun hHeld => ?_)
    · exact hS.out _ FB2
    clear hK K hHeld
    try simp only [List.getElem_toArray, List.getElem_cons_zero, List.getElem_cons_succ, Act.put, List.setIfInBounds_toArray, List.set_cons_zero, List.set_cons_succ]
    have hG := G5  wB FB2
    rw [hT, ha0] at hG
    (try simp only [List.getElem_toArray, List.getElem_cons_zero, List.getElem_cons_succ, Act.put, List.setIfInBounds_toArray, List.set_cons_zero, List.set_cons_succ] at hG)
    exact hG
  exact G0 _ HBD
set_option maxHeartbeats 6400000 in
theorem rescV_n (P Q G X1 X2 X3 : Int) (y ps : Int) (E1 E2 : Int) (A : Option Addr) (na ca : Nat) (C : Int) (Z : Option Addr) (nz cz : Nat) (s : ByteArray) (r : Int) (hr : Hid (esE P Q G X1 X2 X3 y ps E1 E2 = r)) (hne : (r != 0) = true) (hQ : Q < 9223372036854775808) (w : World) :
    Calls Tryz.prog 25 #[bv P Q G X1 X2 X3, .int .i64 y, .int .i64 ps, .string s, esV E1 E2 A na ca C Z nz cz] w fun e' w' => e' = .returned (.bool false) ∧ Below w.heap.size w w' := by
  have e0 : ((r : Int) == 0) = false := by simpa using hne
  obtain ⟨w0, HW, HBw, kC⟩ := stBE P Q G X1 X2 X3 E1 E2 A na ca C Z nz cz w
  have HB_0 : Hid (Below w0.heap.size w0 w0) := Lib.hid (Below.refl _ _)
  go_enter Tryz.func25, Tryz.ntmps25
  go_wp2_with fail
  rw [HW.out]
  obtain ⟨zc0, zc1, zc2, zc3, zc4, zc5, zc6, zc7, zc8, zc9, zc10⟩ := kC.out _ HB_0
  go_wp2_with fail
  refine (rescR_bad P Q G X1 X2 X3 y ps E1 E2 A na ca C Z nz cz r hr hne hQ _).mono ?_
  rintro e w1 ⟨rfl, hb0⟩
  have HB_1 := Lib.hid (below_ext HB_0.out hb0)
  clear zc0 zc1 zc2 zc3 zc4 zc5 zc6 zc7 zc8 zc9 zc10
  clear hb0
  obtain ⟨zc0, zc1, zc2, zc3, zc4, zc5, zc6, zc7, zc8, zc9, zc10⟩ := kC.out _ HB_1
  have hq := below_box0 w1 (relO none 0 0 none 0 0)
  have HB_2 := Lib.hid (below_ext HB_1.out hq)
  have hc : (w1.alloc (relO none 0 0 none 0 0)).cell? ⟨w1.heap.size, 0, none⟩ = some (.slice none 0 0) ∧ (w1.alloc (relO none 0 0 none 0 0)).cell? ⟨w1.heap.size, 1, none⟩ = some (.slice none 0 0) := ⟨allocs_cell rfl (by rfl), allocs_cell rfl (by rfl)⟩
  have HC2 := Lib.hid hc
  clear zc0 zc1 zc2 zc3 zc4 zc5 zc6 zc7 zc8 zc9 zc10
  clear hq
  obtain ⟨zc0, zc1, zc2, zc3, zc4, zc5, zc6, zc7, zc8, zc9, zc10⟩ := kC.out _ HB_2
  obtain ⟨zq0, zq1⟩ := hc
  go_wp2_with fail
  obtain ⟨w2, hw⟩ : ∃ x, (w1.alloc (relO none 0 0 none 0 0)) = x := ⟨_, rfl⟩
  rw [hw] at HC2 HB_2 ⊢
  have HSN2 : Hid (w2.heap.size = w1.heap.size + 1) := Lib.hid (by rw [← hw]; simp)
  clear zc0 zc1 zc2 zc3 zc4 zc5 zc6 zc7 zc8 zc9 zc10 zq0 zq1
  clear hw
  have HB_w2_2 : Hid (Below w2.heap.size w2 w2) := Lib.hid (Below.refl _ _)
  have kR := Lib.hid (show ∀ u : World, Hid (Below w2.heap.size w2 u) → u.cell? ⟨w1.heap.size, 0, none⟩ = some (.slice none 0 0) ∧ u.cell? ⟨w1.heap.size, 1, none⟩ = some (.slice none 0 0) from fun u h => ⟨cell_below HC2.out.1 h.out, cell_below HC2.out.2 h.out⟩)
  obtain ⟨zc0, zc1, zc2, zc3, zc4, zc5, zc6, zc7, zc8, zc9, zc10⟩ := kC.out _ HB_2
  obtain ⟨kR_0, kR_1⟩ := kR.out _ HB_w2_2
  have hbF := below_ext HBw.out HB_2.out
  go_wp2
  go_ret
  exact ⟨rfl, hbF⟩
set_option maxHeartbeats 12800000 in
theorem rescV_y (P Q G X1 X2 X3 : Int) (y ps : Int) (E1 E2 : Int) (A : Option Addr) (na ca : Nat) (C : Int) (Z : Option Addr) (nz cz : Nat) (al zs : List Int) (han : Hid (al.length = na)) (hzn : Hid (zs.length = nz)) (hna : na < 1000000) (hnz : nz < 1000000) (s : ByteArray) (hs : s.size ≤ 1000) (hval : Hid (validB P Q G X1 X2 X3 = true)) (m0 : Hid (okB P Q y = true)) (m1 : Hid (okB P Q ps = true)) (m2 : Hid (memG P Q E1 = true)) (m3 : Hid (memG P Q E2 = true)) (va vb vd : Int) (ha : Hid (E2 * X2 % P = va)) (hb : Hid (pw y ((Q - 1) % Q) P = vb)) (hd : Hid (pw G ((Q - 1) % Q) P = vd)) (r : Bool) (hr : Kp (verL P Q G C (bys s) [ps, 1] (esRows none none va vb E1 vd) al zs = r)) (hQ : Q < 9223372036854775808) (w : World) (hA : Hid (Sl w A al)) (hZ : Hid (Sl w Z zs)) :
    Calls Tryz.prog 25 #[bv P Q G X1 X2 X3, .int .i64 y, .int .i64 ps, .string s, esV E1 E2 A na ca C Z nz cz] w fun e' w' => e' = .returned (.bool r) ∧ Below w.heap.size w w' := by
  obtain ⟨w0, HW, HBw, kC⟩ := stBE P Q G X1 X2 X3 E1 E2 A na ca C Z nz cz w
  have kA := Lib.hid (show ∀ u : World, Hid (Below w0.heap.size w0 u) → Hid (Sl u A al) from fun u h => Lib.hid ((hA.out.below) (below_ext HBw.out h.out)))
  have kZ := Lib.hid (show ∀ u : World, Hid (Below w0.heap.size w0 u) → Hid (Sl u Z zs) from fun u h => Lib.hid ((hZ.out.below) (below_ext HBw.out h.out)))
  have HB_0 : Hid (Below w0.heap.size w0 w0) := Lib.hid (Below.refl _ _)
  clear hA hZ
  go_enter Tryz.func25, Tryz.ntmps25
  go_wp2_with fail
  rw [HW.out]
  obtain ⟨zc0, zc1, zc2, zc3, zc4, zc5, zc6, zc7, zc8, zc9, zc10⟩ := kC.out _ HB_0
  go_wp2_with fail
  refine (rescR_ok P Q G X1 X2 X3 y ps E1 E2 A na ca C Z nz cz hval m0 m1 m2 m3 va vb vd ha hb hd hQ _).mono ?_
  intro e w1 hE
  obtain ⟨gY, gA, gB, gR, rfl, hE, hb0⟩ := hE
  have HE := Lib.hid hE
  clear hE
  have HB_1 := Lib.hid (below_ext HB_0.out hb0)
  clear zc0 zc1 zc2 zc3 zc4 zc5 zc6 zc7 zc8 zc9 zc10
  clear hb0
  obtain ⟨zc0, zc1, zc2, zc3, zc4, zc5, zc6, zc7, zc8, zc9, zc10⟩ := kC.out _ HB_1
  have HB_w1_1 : Hid (Below w1.heap.size w1 w1) := Lib.hid (Below.refl _ _)
  have kY1 := Lib.hid (show ∀ u : World, Hid (Below w1.heap.size w1 u) → Hid (Sl u (some ⟨gY, 0, none⟩) [ps, 1]) from fun u h => Lib.hid (HE.out.sl.1.below h.out))
  have kB1 := Lib.hid (show ∀ u : World, Hid (Below w1.heap.size w1 u) → Hid (Rw u (some ⟨gR, 0, none⟩) (esRows (some ⟨gA, 0, none⟩) (some ⟨gB, 0, none⟩) va vb E1 vd)) from fun u h => Lib.hid (HE.out.sl.2.below h.out))
  have hq := below_box0 w1 (relO (some ⟨gY, 0, none⟩) 2 2 (some ⟨gR, 0, none⟩) 2 2)
  have HB_2 := Lib.hid (below_ext HB_1.out hq)
  have HB_w1_2 := Lib.hid (below_ext HB_w1_1.out hq)
  have hc : (w1.alloc (relO (some ⟨gY, 0, none⟩) 2 2 (some ⟨gR, 0, none⟩) 2 2)).cell? ⟨w1.heap.size, 0, none⟩ = some (.slice (some ⟨gY, 0, none⟩) 2 2) ∧ (w1.alloc (relO (some ⟨gY, 0, none⟩) 2 2 (some ⟨gR, 0, none⟩) 2 2)).cell? ⟨w1.heap.size, 1, none⟩ = some (.slice (some ⟨gR, 0, none⟩) 2 2) := ⟨allocs_cell rfl (by rfl), allocs_cell rfl (by rfl)⟩
  have HC2 := Lib.hid hc
  clear zc0 zc1 zc2 zc3 zc4 zc5 zc6 zc7 zc8 zc9 zc10
  clear hq
  obtain ⟨zc0, zc1, zc2, zc3, zc4, zc5, zc6, zc7, zc8, zc9, zc10⟩ := kC.out _ HB_2
  obtain ⟨zq0, zq1⟩ := hc
  go_wp2_with fail
  obtain ⟨w2, hw⟩ : ∃ x, (w1.alloc (relO (some ⟨gY, 0, none⟩) 2 2 (some ⟨gR, 0, none⟩) 2 2)) = x := ⟨_, rfl⟩
  rw [hw] at HC2 HB_2 HB_w1_2 ⊢
  have HSN2 : Hid (w2.heap.size = w1.heap.size + 1) := Lib.hid (by rw [← hw]; simp)
  clear zc0 zc1 zc2 zc3 zc4 zc5 zc6 zc7 zc8 zc9 zc10 zq0 zq1
  clear hw
  have HB_w2_2 : Hid (Below w2.heap.size w2 w2) := Lib.hid (Below.refl _ _)
  have kR := Lib.hid (show ∀ u : World, Hid (Below w2.heap.size w2 u) → u.cell? ⟨w1.heap.size, 0, none⟩ = some (.slice (some ⟨gY, 0, none⟩) 2 2) ∧ u.cell? ⟨w1.heap.size, 1, none⟩ = some (.slice (some ⟨gR, 0, none⟩) 2 2) from fun u h => ⟨cell_below HC2.out.1 h.out, cell_below HC2.out.2 h.out⟩)
  obtain ⟨zc0, zc1, zc2, zc3, zc4, zc5, zc6, zc7, zc8, zc9, zc10⟩ := kC.out _ HB_2
  obtain ⟨kR_0, kR_1⟩ := kR.out _ HB_w2_2
  go_wp2_with fail
  refine (rver_any P Q G (some ⟨gY, 0, none⟩) [ps, 1] 2 2 (some ⟨gR, 0, none⟩) (esRows (some ⟨gA, 0, none⟩) (some ⟨gB, 0, none⟩) va vb E1 vd) 2 2 A al na ca C Z zs nz cz (Lib.hid rfl) (Lib.hid rfl) han hzn hna hnz hQ s hs r ⟨(verL_esaddr _ _).trans hr.1⟩ _ (kY1.out _ HB_w1_2) (kB1.out _ HB_w1_2) (kA.out _ HB_2) (kZ.out _ HB_2)).mono ?_
  rintro e w3 ⟨rfl, hb0⟩
  have HB_3 := Lib.hid (below_ext HB_2.out hb0)
  have HB_w1_3 := Lib.hid (below_ext HB_w1_2.out hb0)
  have HB_w2_3 := Lib.hid (below_ext HB_w2_2.out hb0)
  clear zc0 zc1 zc2 zc3 zc4 zc5 zc6 zc7 zc8 zc9 zc10 kR_0 kR_1
  clear hb0
  obtain ⟨zc0, zc1, zc2, zc3, zc4, zc5, zc6, zc7, zc8, zc9, zc10⟩ := kC.out _ HB_3
  obtain ⟨kR_0, kR_1⟩ := kR.out _ HB_w2_3
  have hbF := below_ext HBw.out HB_3.out
  go_wp2
  go_ret
  exact ⟨rfl, hbF⟩
/-- specieref36.Verify. -/
theorem rescV_any (P Q G X1 X2 X3 : Int) (y ps : Int) (E1 E2 : Int) (A : Option Addr) (na ca : Nat) (C : Int) (Z : Option Addr) (nz cz : Nat) (al zs : List Int) (han : Hid (al.length = na)) (hzn : Hid (zs.length = nz)) (hna : na < 1000000) (hnz : nz < 1000000) (s : ByteArray) (hs : s.size ≤ 1000) (r : Bool) (hr : Kp (esVer P Q G X1 X2 X3 y ps E1 E2 C (bys s) al zs = r)) (hQ : Q < 9223372036854775808) (w : World) (hA : Hid (Sl w A al)) (hZ : Hid (Sl w Z zs)) :
    Calls Tryz.prog 25 #[bv P Q G X1 X2 X3, .int .i64 y, .int .i64 ps, .string s, esV E1 E2 A na ca C Z nz cz] w fun e' w' => e' = .returned (.bool r) ∧ Below w.heap.size w w' := by
  obtain ⟨k, hk⟩ : ∃ k, esE P Q G X1 X2 X3 y ps E1 E2 = k := ⟨_, rfl⟩
  have hr' := hr.1
  rw [esVer, hk] at hr'
  cases h0 : (k == 0) with
  | false =>
    obtain rfl : r = false := by rw [← hr', h0]; rfl
    exact rescV_n P Q G X1 X2 X3 y ps E1 E2 A na ca C Z nz cz s k (Lib.hid hk) (by simpa using h0) hQ w
  | true =>
    obtain rfl : k = 0 := by simpa using h0
    obtain ⟨h1, h2, h3, h4, h5⟩ := esE_zero hk
    exact rescV_y P Q G X1 X2 X3 y ps E1 E2 A na ca C Z nz cz al zs han hzn hna hnz s hs (Lib.hid h1) (Lib.hid h2) (Lib.hid h3) (Lib.hid h4) (Lib.hid h5) _ _ _ (Lib.hid rfl) (Lib.hid rfl) (Lib.hid rfl) r ⟨by rw [← hr']; simp⟩ hQ w hA hZ
set_option maxHeartbeats 6400000 in
theorem ropn_n (P Q G X1 X2 X3 : Int) (k : Int) (E1 E2 : Int) (A : Option Addr) (na ca : Nat) (C : Int) (Z : Option Addr) (nz cz : Nat) (hval : Hid (validB P Q G X1 X2 X3 = false)) (hQ : Q < 9223372036854775808) (w : World) :
    Calls Tryz.prog 22 #[bv P Q G X1 X2 X3, .int .i64 k, esV E1 E2 A na ca C Z nz cz] w fun e' w' => e' = .returned (.tuple #[.int .i64 0, .int .i64 1]) ∧ Below w.heap.size w w' := by
  obtain ⟨w0, HW, HBw, kC⟩ := stBE P Q G X1 X2 X3 E1 E2 A na ca C Z nz cz w
  have HB_0 : Hid (Below w0.heap.size w0 w0) := Lib.hid (Below.refl _ _)
  go_enter Tryz.func22, Tryz.ntmps22
  go_wp2_with fail
  rw [HW.out]
  obtain ⟨zc0, zc1, zc2, zc3, zc4, zc5, zc6, zc7, zc8, zc9, zc10⟩ := kC.out _ HB_0
  go_wp2_with fail
  refine (rbvalid_any P Q G X1 X2 X3 false hval hQ _).mono ?_
  rintro e w1 ⟨rfl, hb0⟩
  have HB_1 := Lib.hid (below_ext HB_0.out hb0)
  clear zc0 zc1 zc2 zc3 zc4 zc5 zc6 zc7 zc8 zc9 zc10
  clear hb0
  obtain ⟨zc0, zc1, zc2, zc3, zc4, zc5, zc6, zc7, zc8, zc9, zc10⟩ := kC.out _ HB_1
  have hbF := below_ext HBw.out HB_1.out
  go_wp2
  go_ret2
  exact ⟨rfl, hbF⟩
set_option maxHeartbeats 6400000 in
theorem ropn_0 (P Q G X1 X2 X3 : Int) (k : Int) (E1 E2 : Int) (A : Option Addr) (na ca : Nat) (C : Int) (Z : Option Addr) (nz cz : Nat) (hval : Hid (validB P Q G X1 X2 X3 = true)) (k0 : ¬ (1 ≤ k)) (hQ : Q < 9223372036854775808) (w : World) :
    Calls Tryz.prog 22 #[bv P Q G X1 X2 X3, .int .i64 k, esV E1 E2 A na ca C Z nz cz] w fun e' w' => e' = .returned (.tuple #[.int .i64 0, .int .i64 2]) ∧ Below w.heap.size w w' := by
  have HVG := Lib.hid (validB_parts hval.out).1
  obtain ⟨p1, p2, p3, p4⟩ := validG_P HVG.out
  have d0 : decide (k < 1) = true := by simp; omega
  obtain ⟨w0, HW, HBw, kC⟩ := stBE P Q G X1 X2 X3 E1 E2 A na ca C Z nz cz w
  have HB_0 : Hid (Below w0.heap.size w0 w0) := Lib.hid (Below.refl _ _)
  go_enter Tryz.func22, Tryz.ntmps22
  go_wp2_with fail
  rw [HW.out]
  obtain ⟨zc0, zc1, zc2, zc3, zc4, zc5, zc6, zc7, zc8, zc9, zc10⟩ := kC.out _ HB_0
  go_wp2_with fail
  refine (rbvalid_any P Q G X1 X2 X3 true hval hQ _).mono ?_
  rintro e w1 ⟨rfl, hb0⟩
  have HB_1 := Lib.hid (below_ext HB_0.out hb0)
  clear zc0 zc1 zc2 zc3 zc4 zc5 zc6 zc7 zc8 zc9 zc10
  clear hb0
  obtain ⟨zc0, zc1, zc2, zc3, zc4, zc5, zc6, zc7, zc8, zc9, zc10⟩ := kC.out _ HB_1
  have hq := below_box0 w1 (gObj P Q G)
  have HB_2 := Lib.hid (below_ext HB_1.out hq)
  have hc : (w1.alloc (gObj P Q G)).cell? ⟨w1.heap.size, 0, none⟩ = some (.int .i64 P) ∧ (w1.alloc (gObj P Q G)).cell? ⟨w1.heap.size, 1, none⟩ = some (.int .i64 Q) ∧ (w1.alloc (gObj P Q G)).cell? ⟨w1.heap.size, 2, none⟩ = some (.int .i64 G) := ⟨allocs_cell rfl (by rfl), allocs_cell rfl (by rfl), allocs_cell rfl (by rfl)⟩
  have HC2 := Lib.hid hc
  clear hq
  obtain ⟨zc0x, zc1x, zc2x, zc3x, zc4x, zc5x, zc6x, zc7x, zc8x, zc9x, zc10x⟩ := kC.out _ HB_2
  obtain ⟨zq0, zq1, zq2⟩ := hc
  go_wp2_with fail
  obtain ⟨w2, hw⟩ : ∃ x, (w1.alloc (gObj P Q G)) = x := ⟨_, rfl⟩
  rw [hw] at HC2 HB_2 ⊢
  have HSN2 : Hid (w2.heap.size = w1.heap.size + 1) := Lib.hid (by rw [← hw]; simp)
  clear zc0 zc1 zc2 zc3 zc4 zc5 zc6 zc7 zc8 zc9 zc10 zc0x zc1x zc2x zc3x zc4x zc5x zc6x zc7x zc8x zc9x zc10x zq0 zq1 zq2
  clear hw
  have HB_w2_2 : Hid (Below w2.heap.size w2 w2) := Lib.hid (Below.refl _ _)
  have kG := Lib.hid (show ∀ u : World, Hid (Below w2.heap.size w2 u) → u.cell? ⟨w1.heap.size, 0, none⟩ = some (.int .i64 P) ∧ u.cell? ⟨w1.heap.size, 1, none⟩ = some (.int .i64 Q) ∧ u.cell? ⟨w1.heap.size, 2, none⟩ = some (.int .i64 G) from fun u h => ⟨cell_below HC2.out.1 h.out, cell_below HC2.out.2.1 h.out, cell_below HC2.out.2.2 h.out⟩)
  obtain ⟨zc0, zc1, zc2, zc3, zc4, zc5, zc6, zc7, zc8, zc9, zc10⟩ := kC.out _ HB_2
  obtain ⟨kG_0, kG_1, kG_2⟩ := kG.out _ HB_w2_2
  have hbF := below_ext HBw.out HB_2.out
  go_wp2
  go_ret2
  exact ⟨rfl, hbF⟩
set_option maxHeartbeats 6400000 in
theorem ropn_1 (P Q G X1 X2 X3 : Int) (k : Int) (E1 E2 : Int) (A : Option Addr) (na ca : Nat) (C : Int) (Z : Option Addr) (nz cz : Nat) (hval : Hid (validB P Q G X1 X2 X3 = true)) (k0 : 1 ≤ k) (k1 : ¬ (k < Q)) (hQ : Q < 9223372036854775808) (w : World) :
    Calls Tryz.prog 22 #[bv P Q G X1 X2 X3, .int .i64 k, esV E1 E2 A na ca C Z nz cz] w fun e' w' => e' = .returned (.tuple #[.int .i64 0, .int .i64 2]) ∧ Below w.heap.size w w' := by
  have HVG := Lib.hid (validB_parts hval.out).1
  obtain ⟨p1, p2, p3, p4⟩ := validG_P HVG.out
  have d0 : decide (k < 1) = false := by simp; omega
  have d1 : decide (Q ≤ k) = true := by simp; omega
  obtain ⟨w0, HW, HBw, kC⟩ := stBE P Q G X1 X2 X3 E1 E2 A na ca C Z nz cz w
  have HB_0 : Hid (Below w0.heap.size w0 w0) := Lib.hid (Below.refl _ _)
  go_enter Tryz.func22, Tryz.ntmps22
  go_wp2_with fail
  rw [HW.out]
  obtain ⟨zc0, zc1, zc2, zc3, zc4, zc5, zc6, zc7, zc8, zc9, zc10⟩ := kC.out _ HB_0
  go_wp2_with fail
  refine (rbvalid_any P Q G X1 X2 X3 true hval hQ _).mono ?_
  rintro e w1 ⟨rfl, hb0⟩
  have HB_1 := Lib.hid (below_ext HB_0.out hb0)
  clear zc0 zc1 zc2 zc3 zc4 zc5 zc6 zc7 zc8 zc9 zc10
  clear hb0
  obtain ⟨zc0, zc1, zc2, zc3, zc4, zc5, zc6, zc7, zc8, zc9, zc10⟩ := kC.out _ HB_1
  have hq := below_box0 w1 (gObj P Q G)
  have HB_2 := Lib.hid (below_ext HB_1.out hq)
  have hc : (w1.alloc (gObj P Q G)).cell? ⟨w1.heap.size, 0, none⟩ = some (.int .i64 P) ∧ (w1.alloc (gObj P Q G)).cell? ⟨w1.heap.size, 1, none⟩ = some (.int .i64 Q) ∧ (w1.alloc (gObj P Q G)).cell? ⟨w1.heap.size, 2, none⟩ = some (.int .i64 G) := ⟨allocs_cell rfl (by rfl), allocs_cell rfl (by rfl), allocs_cell rfl (by rfl)⟩
  have HC2 := Lib.hid hc
  clear hq
  obtain ⟨zc0x, zc1x, zc2x, zc3x, zc4x, zc5x, zc6x, zc7x, zc8x, zc9x, zc10x⟩ := kC.out _ HB_2
  obtain ⟨zq0, zq1, zq2⟩ := hc
  go_wp2_with fail
  obtain ⟨w2, hw⟩ : ∃ x, (w1.alloc (gObj P Q G)) = x := ⟨_, rfl⟩
  rw [hw] at HC2 HB_2 ⊢
  have HSN2 : Hid (w2.heap.size = w1.heap.size + 1) := Lib.hid (by rw [← hw]; simp)
  clear zc0 zc1 zc2 zc3 zc4 zc5 zc6 zc7 zc8 zc9 zc10 zc0x zc1x zc2x zc3x zc4x zc5x zc6x zc7x zc8x zc9x zc10x zq0 zq1 zq2
  clear hw
  have HB_w2_2 : Hid (Below w2.heap.size w2 w2) := Lib.hid (Below.refl _ _)
  have kG := Lib.hid (show ∀ u : World, Hid (Below w2.heap.size w2 u) → u.cell? ⟨w1.heap.size, 0, none⟩ = some (.int .i64 P) ∧ u.cell? ⟨w1.heap.size, 1, none⟩ = some (.int .i64 Q) ∧ u.cell? ⟨w1.heap.size, 2, none⟩ = some (.int .i64 G) from fun u h => ⟨cell_below HC2.out.1 h.out, cell_below HC2.out.2.1 h.out, cell_below HC2.out.2.2 h.out⟩)
  obtain ⟨zc0, zc1, zc2, zc3, zc4, zc5, zc6, zc7, zc8, zc9, zc10⟩ := kC.out _ HB_2
  obtain ⟨kG_0, kG_1, kG_2⟩ := kG.out _ HB_w2_2
  have hbF := below_ext HBw.out HB_2.out
  go_wp2
  go_ret2
  exact ⟨rfl, hbF⟩
set_option maxHeartbeats 6400000 in
theorem ropn_2 (P Q G X1 X2 X3 : Int) (k : Int) (E1 E2 : Int) (A : Option Addr) (na ca : Nat) (C : Int) (Z : Option Addr) (nz cz : Nat) (hval : Hid (validB P Q G X1 X2 X3 = true)) (k0 : 1 ≤ k) (k1 : k < Q) (m2 : Hid (memG P Q E1 = false)) (hQ : Q < 9223372036854775808) (w : World) :
    Calls Tryz.prog 22 #[bv P Q G X1 X2 X3, .int .i64 k, esV E1 E2 A na ca C Z nz cz] w fun e' w' => e' = .returned (.tuple #[.int .i64 0, .int .i64 2]) ∧ Below w.heap.size w w' := by
  have HVG := Lib.hid (validB_parts hval.out).1
  obtain ⟨p1, p2, p3, p4⟩ := validG_P HVG.out
  have d0 : decide (k < 1) = false := by simp; omega
  have d1 : decide (Q ≤ k) = false := by simp; omega
  obtain ⟨w0, HW, HBw, kC⟩ := stBE P Q G X1 X2 X3 E1 E2 A na ca C Z nz cz w
  have HB_0 : Hid (Below w0.heap.size w0 w0) := Lib.hid (Below.refl _ _)
  go_enter Tryz.func22, Tryz.ntmps22
  go_wp2_with fail
  rw [HW.out]
  obtain ⟨zc0, zc1, zc2, zc3, zc4, zc5, zc6, zc7, zc8, zc9, zc10⟩ := kC.out _ HB_0
  go_wp2_with fail
  refine (rbvalid_any P Q G X1 X2 X3 true hval hQ _).mono ?_
  rintro e w1 ⟨rfl, hb0⟩
  have HB_1 := Lib.hid (below_ext HB_0.out hb0)
  clear zc0 zc1 zc2 zc3 zc4 zc5 zc6 zc7 zc8 zc9 zc10
  clear hb0
  obtain ⟨zc0, zc1, zc2, zc3, zc4, zc5, zc6, zc7, zc8, zc9, zc10⟩ := kC.out _ HB_1
  have hq := below_box0 w1 (gObj P Q G)
  have HB_2 := Lib.hid (below_ext HB_1.out hq)
  have hc : (w1.alloc (gObj P Q G)).cell? ⟨w1.heap.size, 0, none⟩ = some (.int .i64 P) ∧ (w1.alloc (gObj P Q G)).cell? ⟨w1.heap.size, 1, none⟩ = some (.int .i64 Q) ∧ (w1.alloc (gObj P Q G)).cell? ⟨w1.heap.size, 2, none⟩ = some (.int .i64 G) := ⟨allocs_cell rfl (by rfl), allocs_cell rfl (by rfl), allocs_cell rfl (by rfl)⟩
  have HC2 := Lib.hid hc
  clear hq
  obtain ⟨zc0x, zc1x, zc2x, zc3x, zc4x, zc5x, zc6x, zc7x, zc8x, zc9x, zc10x⟩ := kC.out _ HB_2
  obtain ⟨zq0, zq1, zq2⟩ := hc
  go_wp2_with fail
  obtain ⟨w2, hw⟩ : ∃ x, (w1.alloc (gObj P Q G)) = x := ⟨_, rfl⟩
  rw [hw] at HC2 HB_2 ⊢
  have HSN2 : Hid (w2.heap.size = w1.heap.size + 1) := Lib.hid (by rw [← hw]; simp)
  clear zc0 zc1 zc2 zc3 zc4 zc5 zc6 zc7 zc8 zc9 zc10 zc0x zc1x zc2x zc3x zc4x zc5x zc6x zc7x zc8x zc9x zc10x zq0 zq1 zq2
  clear hw
  have HB_w2_2 : Hid (Below w2.heap.size w2 w2) := Lib.hid (Below.refl _ _)
  have kG := Lib.hid (show ∀ u : World, Hid (Below w2.heap.size w2 u) → u.cell? ⟨w1.heap.size, 0, none⟩ = some (.int .i64 P) ∧ u.cell? ⟨w1.heap.size, 1, none⟩ = some (.int .i64 Q) ∧ u.cell? ⟨w1.heap.size, 2, none⟩ = some (.int .i64 G) from fun u h => ⟨cell_below HC2.out.1 h.out, cell_below HC2.out.2.1 h.out, cell_below HC2.out.2.2 h.out⟩)
  obtain ⟨zc0, zc1, zc2, zc3, zc4, zc5, zc6, zc7, zc8, zc9, zc10⟩ := kC.out _ HB_2
  obtain ⟨kG_0, kG_1, kG_2⟩ := kG.out _ HB_w2_2
  go_wp2_with fail
  refine (rmember_any P Q G E1 false m2 p2 (by omega) (by omega) _).mono ?_
  rintro e w3 ⟨rfl, hb0⟩
  have HB_3 := Lib.hid (below_ext HB_2.out hb0)
  have HB_w2_3 := Lib.hid (below_ext HB_w2_2.out hb0)
  clear zc0 zc1 zc2 zc3 zc4 zc5 zc6 zc7 zc8 zc9 zc10 kG_0 kG_1 kG_2
  clear hb0
  obtain ⟨zc0, zc1, zc2, zc3, zc4, zc5, zc6, zc7, zc8, zc9, zc10⟩ := kC.out _ HB_3
  obtain ⟨kG_0, kG_1, kG_2⟩ := kG.out _ HB_w2_3
  have hbF := below_ext HBw.out HB_3.out
  go_wp2
  go_ret2
  exact ⟨rfl, hbF⟩
set_option maxHeartbeats 6400000 in
theorem ropn_3 (P Q G X1 X2 X3 : Int) (k : Int) (E1 E2 : Int) (A : Option Addr) (na ca : Nat) (C : Int) (Z : Option Addr) (nz cz : Nat) (hval : Hid (validB P Q G X1 X2 X3 = true)) (k0 : 1 ≤ k) (k1 : k < Q) (m2 : Hid (memG P Q E1 = true)) (m3 : Hid (memG P Q E2 = false)) (hQ : Q < 9223372036854775808) (w : World) :
    Calls Tryz.prog 22 #[bv P Q G X1 X2 X3, .int .i64 k, esV E1 E2 A na ca C Z nz cz] w fun e' w' => e' = .returned (.tuple #[.int .i64 0, .int .i64 2]) ∧ Below w.heap.size w w' := by
  have HVG := Lib.hid (validB_parts hval.out).1
  obtain ⟨p1, p2, p3, p4⟩ := validG_P HVG.out
  have d0 : decide (k < 1) = false := by simp; omega
  have d1 : decide (Q ≤ k) = false := by simp; omega
  obtain ⟨w0, HW, HBw, kC⟩ := stBE P Q G X1 X2 X3 E1 E2 A na ca C Z nz cz w
  have HB_0 : Hid (Below w0.heap.size w0 w0) := Lib.hid (Below.refl _ _)
  go_enter Tryz.func22, Tryz.ntmps22
  go_wp2_with fail
  rw [HW.out]
  obtain ⟨zc0, zc1, zc2, zc3, zc4, zc5, zc6, zc7, zc8, zc9, zc10⟩ := kC.out _ HB_0
  go_wp2_with fail
  refine (rbvalid_any P Q G X1 X2 X3 true hval hQ _).mono ?_
  rintro e w1 ⟨rfl, hb0⟩
  have HB_1 := Lib.hid (below_ext HB_0.out hb0)
  clear zc0 zc1 zc2 zc3 zc4 zc5 zc6 zc7 zc8 zc9 zc10
  clear hb0
  obtain ⟨zc0, zc1, zc2, zc3, zc4, zc5, zc6, zc7, zc8, zc9, zc10⟩ := kC.out _ HB_1
  have hq := below_box0 w1 (gObj P Q G)
  have HB_2 := Lib.hid (below_ext HB_1.out hq)
  have hc : (w1.alloc (gObj P Q G)).cell? ⟨w1.heap.size, 0, none⟩ = some (.int .i64 P) ∧ (w1.alloc (gObj P Q G)).cell? ⟨w1.heap.size, 1, none⟩ = some (.int .i64 Q) ∧ (w1.alloc (gObj P Q G)).cell? ⟨w1.heap.size, 2, none⟩ = some (.int .i64 G) := ⟨allocs_cell rfl (by rfl), allocs_cell rfl (by rfl), allocs_cell rfl (by rfl)⟩
  have HC2 := Lib.hid hc
  clear hq
  obtain ⟨zc0x, zc1x, zc2x, zc3x, zc4x, zc5x, zc6x, zc7x, zc8x, zc9x, zc10x⟩ := kC.out _ HB_2
  obtain ⟨zq0, zq1, zq2⟩ := hc
  go_wp2_with fail
  obtain ⟨w2, hw⟩ : ∃ x, (w1.alloc (gObj P Q G)) = x := ⟨_, rfl⟩
  rw [hw] at HC2 HB_2 ⊢
  have HSN2 : Hid (w2.heap.size = w1.heap.size + 1) := Lib.hid (by rw [← hw]; simp)
  clear zc0 zc1 zc2 zc3 zc4 zc5 zc6 zc7 zc8 zc9 zc10 zc0x zc1x zc2x zc3x zc4x zc5x zc6x zc7x zc8x zc9x zc10x zq0 zq1 zq2
  clear hw
  have HB_w2_2 : Hid (Below w2.heap.size w2 w2) := Lib.hid (Below.refl _ _)
  have kG := Lib.hid (show ∀ u : World, Hid (Below w2.heap.size w2 u) → u.cell? ⟨w1.heap.size, 0, none⟩ = some (.int .i64 P) ∧ u.cell? ⟨w1.heap.size, 1, none⟩ = some (.int .i64 Q) ∧ u.cell? ⟨w1.heap.size, 2, none⟩ = some (.int .i64 G) from fun u h => ⟨cell_below HC2.out.1 h.out, cell_below HC2.out.2.1 h.out, cell_below HC2.out.2.2 h.out⟩)
  obtain ⟨zc0, zc1, zc2, zc3, zc4, zc5, zc6, zc7, zc8, zc9, zc10⟩ := kC.out _ HB_2
  obtain ⟨kG_0, kG_1, kG_2⟩ := kG.out _ HB_w2_2
  go_wp2_with fail
  refine (rmember_any P Q G E1 true m2 p2 (by omega) (by omega) _).mono ?_
  rintro e w3 ⟨rfl, hb0⟩
  have HB_3 := Lib.hid (below_ext HB_2.out hb0)
  have HB_w2_3 := Lib.hid (below_ext HB_w2_2.out hb0)
  clear zc0 zc1 zc2 zc3 zc4 zc5 zc6 zc7 zc8 zc9 zc10 kG_0 kG_1 kG_2
  clear hb0
  obtain ⟨zc0, zc1, zc2, zc3, zc4, zc5, zc6, zc7, zc8, zc9, zc10⟩ := kC.out _ HB_3
  obtain ⟨kG_0, kG_1, kG_2⟩ := kG.out _ HB_w2_3
  go_wp2_with fail
  refine (rmember_any P Q G E2 false m3 p2 (by omega) (by omega) _).mono ?_
  rintro e w4 ⟨rfl, hb0⟩
  have HB_4 := Lib.hid (below_ext HB_3.out hb0)
  have HB_w2_4 := Lib.hid (below_ext HB_w2_3.out hb0)
  clear zc0 zc1 zc2 zc3 zc4 zc5 zc6 zc7 zc8 zc9 zc10 kG_0 kG_1 kG_2
  clear hb0
  obtain ⟨zc0, zc1, zc2, zc3, zc4, zc5, zc6, zc7, zc8, zc9, zc10⟩ := kC.out _ HB_4
  obtain ⟨kG_0, kG_1, kG_2⟩ := kG.out _ HB_w2_4
  have hbF := below_ext HBw.out HB_4.out
  go_wp2
  go_ret2
  exact ⟨rfl, hbF⟩
set_option maxHeartbeats 12800000 in
theorem ropn_ok (P Q G X1 X2 X3 : Int) (k : Int) (E1 E2 : Int) (A : Option Addr) (na ca : Nat) (C : Int) (Z : Option Addr) (nz cz : Nat) (hval : Hid (validB P Q G X1 X2 X3 = true)) (k0 : 1 ≤ k) (k1 : k < Q) (m2 : Hid (memG P Q E1 = true)) (m3 : Hid (memG P Q E2 = true)) (u1 u2 v2 : Int) (hu1 : Hid (pw E1 (k % Q) P = u1)) (hu2 : Hid (pw u1 ((Q - 1) % Q) P = u2)) (h2 : Hid (E2 * u2 % P = v2)) (hQ : Q < 9223372036854775808) (w : World) :
    Calls Tryz.prog 22 #[bv P Q G X1 X2 X3, .int .i64 k, esV E1 E2 A na ca C Z nz cz] w fun e' w' => e' = .returned (.tuple #[.int .i64 v2, .int .i64 0]) ∧ Below w.heap.size w w' := by
  have HVG := Lib.hid (validB_parts hval.out).1
  obtain ⟨p1, p2, p3, p4⟩ := validG_P HVG.out
  have d0 : decide (k < 1) = false := by simp; omega
  have d1 : decide (Q ≤ k) = false := by simp; omega
  have e1l := memG_lo m2.out
  have e1u := memG_hi m2.out
  have e2l := memG_lo m3.out
  have e2u := memG_hi m3.out
  obtain ⟨u1l, u1u⟩ : 0 ≤ u1 ∧ u1 < P := by rw [← hu1.out]; exact pw_lt _ _ _ (by omega)
  obtain ⟨u2l, u2u⟩ : 0 ≤ u2 ∧ u2 < P := by rw [← hu2.out]; exact pw_lt _ _ _ (by omega)
  obtain ⟨w0, HW, HBw, kC⟩ := stBE P Q G X1 X2 X3 E1 E2 A na ca C Z nz cz w
  have HB_0 : Hid (Below w0.heap.size w0 w0) := Lib.hid (Below.refl _ _)
  go_enter Tryz.func22, Tryz.ntmps22
  go_wp2_with fail
  rw [HW.out]
  obtain ⟨zc0, zc1, zc2, zc3, zc4, zc5, zc6, zc7, zc8, zc9, zc10⟩ := kC.out _ HB_0
  go_wp2_with fail
  refine (rbvalid_any P Q G X1 X2 X3 true hval hQ _).mono ?_
  rintro e w1 ⟨rfl, hb0⟩
  have HB_1 := Lib.hid (below_ext HB_0.out hb0)
  clear zc0 zc1 zc2 zc3 zc4 zc5 zc6 zc7 zc8 zc9 zc10
  clear hb0
  obtain ⟨zc0, zc1, zc2, zc3, zc4, zc5, zc6, zc7, zc8, zc9, zc10⟩ := kC.out _ HB_1
  have hq := below_box0 w1 (gObj P Q G)
  have HB_2 := Lib.hid (below_ext HB_1.out hq)
  have hc : (w1.alloc (gObj P Q G)).cell? ⟨w1.heap.size, 0, none⟩ = some (.int .i64 P) ∧ (w1.alloc (gObj P Q G)).cell? ⟨w1.heap.size, 1, none⟩ = some (.int .i64 Q) ∧ (w1.alloc (gObj P Q G)).cell? ⟨w1.heap.size, 2, none⟩ = some (.int .i64 G) := ⟨allocs_cell rfl (by rfl), allocs_cell rfl (by rfl), allocs_cell rfl (by rfl)⟩
  have HC2 := Lib.hid hc
  clear hq
  obtain ⟨zc0x, zc1x, zc2x, zc3x, zc4x, zc5x, zc6x, zc7x, zc8x, zc9x, zc10x⟩ := kC.out _ HB_2
  obtain ⟨zq0, zq1, zq2⟩ := hc
  go_wp2_with fail
  obtain ⟨w2, hw⟩ : ∃ x, (w1.alloc (gObj P Q G)) = x := ⟨_, rfl⟩
  rw [hw] at HC2 HB_2 ⊢
  have HSN2 : Hid (w2.heap.size = w1.heap.size + 1) := Lib.hid (by rw [← hw]; simp)
  clear zc0 zc1 zc2 zc3 zc4 zc5 zc6 zc7 zc8 zc9 zc10 zc0x zc1x zc2x zc3x zc4x zc5x zc6x zc7x zc8x zc9x zc10x zq0 zq1 zq2
  clear hw
  have HB_w2_2 : Hid (Below w2.heap.size w2 w2) := Lib.hid (Below.refl _ _)
  have kG := Lib.hid (show ∀ u : World, Hid (Below w2.heap.size w2 u) → u.cell? ⟨w1.heap.size, 0, none⟩ = some (.int .i64 P) ∧ u.cell? ⟨w1.heap.size, 1, none⟩ = some (.int .i64 Q) ∧ u.cell? ⟨w1.heap.size, 2, none⟩ = some (.int .i64 G) from fun u h => ⟨cell_below HC2.out.1 h.out, cell_below HC2.out.2.1 h.out, cell_below HC2.out.2.2 h.out⟩)
  obtain ⟨zc0, zc1, zc2, zc3, zc4, zc5, zc6, zc7, zc8, zc9, zc10⟩ := kC.out _ HB_2
  obtain ⟨kG_0, kG_1, kG_2⟩ := kG.out _ HB_w2_2
  go_wp2_with fail
  refine (rmember_any P Q G E1 true m2 p2 (by omega) (by omega) _).mono ?_
  rintro e w3 ⟨rfl, hb0⟩
  have HB_3 := Lib.hid (below_ext HB_2.out hb0)
  have HB_w2_3 := Lib.hid (below_ext HB_w2_2.out hb0)
  clear zc0 zc1 zc2 zc3 zc4 zc5 zc6 zc7 zc8 zc9 zc10 kG_0 kG_1 kG_2
  clear hb0
  obtain ⟨zc0, zc1, zc2, zc3, zc4, zc5, zc6, zc7, zc8, zc9, zc10⟩ := kC.out _ HB_3
  obtain ⟨kG_0, kG_1, kG_2⟩ := kG.out _ HB_w2_3
  go_wp2_with fail
  refine (rmember_any P Q G E2 true m3 p2 (by omega) (by omega) _).mono ?_
  rintro e w4 ⟨rfl, hb0⟩
  have HB_4 := Lib.hid (below_ext HB_3.out hb0)
  have HB_w2_4 := Lib.hid (below_ext HB_w2_3.out hb0)
  clear zc0 zc1 zc2 zc3 zc4 zc5 zc6 zc7 zc8 zc9 zc10 kG_0 kG_1 kG_2
  clear hb0
  obtain ⟨zc0, zc1, zc2, zc3, zc4, zc5, zc6, zc7, zc8, zc9, zc10⟩ := kC.out _ HB_4
  obtain ⟨kG_0, kG_1, kG_2⟩ := kG.out _ HB_w2_4
  go_wp2_with fail
  clear zc0 zc1 zc2 zc3 zc4 zc5 zc6 zc7 zc8 zc9 zc10 kG_0 kG_1 kG_2
  have hS5 := Lib.hid (show ∀ u1 u2 : World, (Hid (Below w0.heap.size w0 u1) ∧ Hid (Below w2.heap.size w2 u1)) → Below u1.heap.size u1 u2 → (u2.cell? ⟨w.heap.size, 0, none⟩ = some (.int .i64 P) ∧ u2.cell? ⟨w.heap.size, 1, none⟩ = some (.int .i64 Q) ∧ u2.cell? ⟨w.heap.size, 2, none⟩ = some (.int .i64 G) ∧ u2.cell? ⟨w.heap.size, 3, none⟩ = some (.int .i64 X1) ∧ u2.cell? ⟨w.heap.size, 4, none⟩ = some (.int .i64 X2) ∧ u2.cell? ⟨w.heap.size, 5, none⟩ = some (.int .i64 X3) ∧ u2.cell? ⟨w.heap.size + 1, 0, none⟩ = some (.int .i64 E1) ∧ u2.cell? ⟨w.heap.size + 1, 1, none⟩ = some (.int .i64 E2) ∧ u2.cell? ⟨w.heap.size + 1, 2, none⟩ = some (.slice A na ca) ∧ u2.cell? ⟨w.heap.size + 1, 3, none⟩ = some (.int .i64 C) ∧ u2.cell? ⟨w.heap.size + 1, 4, none⟩ = some (.slice Z nz cz) ∧ u2.cell? ⟨w1.heap.size, 0, none⟩ = some (.int .i64 P) ∧ u2.cell? ⟨w1.heap.size, 1, none⟩ = some (.int .i64 Q) ∧ u2.cell? ⟨w1.heap.size, 2, none⟩ = some (.int .i64 G) ∧ Hid (Below w0.heap.size w0 u2) ∧ Hid (Below w2.heap.size w2 u2)) from fun u1 u2 h1 h2 => by
    obtain ⟨q0, q1⟩ := h1
    have r0 := Lib.hid (below_ext q0.out h2)
    have r1 := Lib.hid (below_ext q1.out h2)
    obtain ⟨y0, y1, y2, y3, y4, y5, y6, y7, y8, y9, y10⟩ := kC.out _ r0
    obtain ⟨kG_0, kG_1, kG_2⟩ := kG.out _ r1
    exact ⟨y0, y1, y2, y3, y4, y5, y6, y7, y8, y9, y10, kG_0, kG_1, kG_2, r0, r1⟩)
  have HR5 := Lib.hid (show Hid (Below w0.heap.size w0 w4) ∧ Hid (Below w2.heap.size w2 w4) from ⟨HB_4, HB_w2_4⟩)
  go_region_held3 (fun w' => w'.cell? ⟨w.heap.size, 0, none⟩ = some (.int .i64 P) ∧ w'.cell? ⟨w.heap.size, 1, none⟩ = some (.int .i64 Q) ∧ w'.cell? ⟨w.heap.size, 2, none⟩ = some (.int .i64 G) ∧ w'.cell? ⟨w.heap.size, 3, none⟩ = some (.int .i64 X1) ∧ w'.cell? ⟨w.heap.size, 4, none⟩ = some (.int .i64 X2) ∧ w'.cell? ⟨w.heap.size, 5, none⟩ = some (.int .i64 X3) ∧ w'.cell? ⟨w.heap.size + 1, 0, none⟩ = some (.int .i64 E1) ∧ w'.cell? ⟨w.heap.size + 1, 1, none⟩ = some (.int .i64 E2) ∧ w'.cell? ⟨w.heap.size + 1, 2, none⟩ = some (.slice A na ca) ∧ w'.cell? ⟨w.heap.size + 1, 3, none⟩ = some (.int .i64 C) ∧ w'.cell? ⟨w.heap.size + 1, 4, none⟩ = some (.slice Z nz cz) ∧ w'.cell? ⟨w1.heap.size, 0, none⟩ = some (.int .i64 P) ∧ w'.cell? ⟨w1.heap.size, 1, none⟩ = some (.int .i64 Q) ∧ w'.cell? ⟨w1.heap.size, 2, none⟩ = some (.int .i64 G) ∧ Hid (Below w0.heap.size w0 w') ∧ Hid (Below w2.heap.size w2 w'))
    (first | exact hS5.out _ _ HR5.out ((Below.refl _ _).drew) | (exact hS5.out _ _ (by go_split_ands; exact ⟨(by assumption), (by assumption)⟩) hbA) | go_keep)
    ((first
      | (go_at_call 48; (with_reducible refine (rpower_any P Q G E1 k u1 hu1 (by omega) p2 (by omega) (by omega) (by omega) e1u (by omega) (by omega) _).mono ?_); rintro e wA ⟨rfl, hbA⟩)
      | (go_at_call 65; (with_reducible refine (rinverse_any P Q G u1 u2 hu2 (by omega) p2 (by omega) (by omega) u1l u1u _).mono ?_); rintro e wA ⟨rfl, hbA⟩)
      | (go_at_call 47; (with_reducible refine (rgmul_any P Q G E2 u2 v2 h2 p2 (by omega) e2u u2l u2u _).mono ?_); rintro e wA ⟨rfl, hbA⟩)))
  rename_i hHeld
  obtain ⟨x0, x1, x2, x3, x4, x5, x6, x7, x8, x9, x10, x11, x12, x13, HN5_0, HN5_1⟩ := hHeld
  clear hS5 HR5 x0 x1 x2 x3 x4 x5 x6 x7 x8 x9 x10 x11 x12 x13
  obtain ⟨zc0, zc1, zc2, zc3, zc4, zc5, zc6, zc7, zc8, zc9, zc10⟩ := kC.out _ HN5_0
  obtain ⟨kG_0, kG_1, kG_2⟩ := kG.out _ HN5_1
  have hbF := below_ext HBw.out HN5_0.out
  go_wp2
  go_ret2
  exact ⟨rfl, hbF⟩
theorem inv_pow {P Q x k : Int} (hP : 2 ≤ P) (hQ : 1 ≤ Q) (hk : 0 ≤ k) (hx : pw x Q P = 1) : pw (pw x (k % Q) P) ((Q - 1) % Q) P = pw x ((-k) % Q) P := by
  have h1 : 0 ≤ k % Q := Int.emod_nonneg _ (by omega)
  have h2 : 0 ≤ (Q - 1) % Q := Int.emod_nonneg _ (by omega)
  rw [pw_pw _ _ _ _ h1 h2, pw_mod hP hQ (Int.mul_nonneg h1 h2) hx]
  congr 1
  rw [← Int.mul_emod, show k * (Q - 1) = -k + Q * k by grind, Int.add_mul_emod_self_left]
/-- escrow.Open. -/
theorem ropn_any (P Q G X1 X2 X3 : Int) (k : Int) (E1 E2 : Int) (A : Option Addr) (na ca : Nat) (C : Int) (Z : Option Addr) (nz cz : Nat) (v r : Int) (hr : Hid (opE P Q G X1 X2 X3 k E1 E2 = r)) (hv9 : Hid (opV P Q G X1 X2 X3 k E1 E2 = v)) (hQ : Q < 9223372036854775808) (w : World) :
    Calls Tryz.prog 22 #[bv P Q G X1 X2 X3, .int .i64 k, esV E1 E2 A na ca C Z nz cz] w fun e' w' => e' = .returned (.tuple #[.int .i64 v, .int .i64 r]) ∧ Below w.heap.size w w' := by
  have hr1 := hr.out
  have hv1 := hv9.out
  unfold opV at hv1
  rw [hr1] at hv1
  unfold opE at hr1
  cases hval : validB P Q G X1 X2 X3 with
  | false =>
    obtain rfl : r = 1 := by rw [← hr1, hval]; rfl
    obtain rfl : v = 0 := by rw [← hv1]; rfl
    exact ropn_n P Q G X1 X2 X3 k E1 E2 A na ca C Z nz cz (Lib.hid hval) hQ w
  | true =>
    rw [if_pos hval] at hr1
    by_cases k0 : 1 ≤ k
    · by_cases k1 : k < Q
      · cases m2 : memG P Q E1 with
        | false =>
          obtain rfl : r = 2 := by rw [← hr1, m2]; simp
          obtain rfl : v = 0 := by rw [← hv1]; rfl
          exact ropn_2 P Q G X1 X2 X3 k E1 E2 A na ca C Z nz cz (Lib.hid hval) k0 k1 (Lib.hid m2) hQ w
        | true =>
          cases m3 : memG P Q E2 with
          | false =>
            obtain rfl : r = 2 := by rw [← hr1, m2, m3]; simp
            obtain rfl : v = 0 := by rw [← hv1]; rfl
            exact ropn_3 P Q G X1 X2 X3 k E1 E2 A na ca C Z nz cz (Lib.hid hval) k0 k1 (Lib.hid m2) (Lib.hid m3) hQ w
          | true =>
            obtain rfl : r = 0 := by rw [← hr1, m2, m3]; simp; omega
            obtain ⟨p1, p2, p3, p4⟩ := validG_P (validB_parts hval).1
            exact ropn_ok P Q G X1 X2 X3 k E1 E2 A na ca C Z nz cz (Lib.hid hval) k0 k1 (Lib.hid m2) (Lib.hid m3) _ _ _ (Lib.hid rfl) (Lib.hid (inv_pow p1 (by omega) (by omega) (memG_pw m2))) (Lib.hid (by rw [← hv1]; rfl)) hQ w
      · obtain rfl : r = 2 := by rw [← hr1]; simp; omega
        obtain rfl : v = 0 := by rw [← hv1]; rfl
        exact ropn_1 P Q G X1 X2 X3 k E1 E2 A na ca C Z nz cz (Lib.hid hval) k0 k1 hQ w
    · obtain rfl : r = 2 := by rw [← hr1]; simp; omega
      obtain rfl : v = 0 := by rw [← hv1]; rfl
      exact ropn_0 P Q G X1 X2 X3 k E1 E2 A na ca C Z nz cz (Lib.hid hval) k0 hQ w
end Go.Proofs.YtojedhnglobddaaGreatDoor
namespace Go.Proofs.YtojedhnglobddaaGreatDoor
open Go.RowKit SpM
set_option linter.unusedVariables false
set_option linter.unusedSimpArgs false
set_option maxRecDepth 100000
set_option maxHeartbeats 3200000 in
theorem srel_nil (w : World) :
    Calls Tryz.prog 23 #[relV none 0 0 none 0 0, relV none 0 0 none 0 0] w fun e' w' => e' = .returned (.bool true) ∧ Below w.heap.size w w' := by
  obtain ⟨w0, hW⟩ : ∃ W, ((w.alloc (relO none 0 0 none 0 0)).alloc (relO none 0 0 none 0 0)) = W := ⟨_, rfl⟩
  have HBw : Hid (Below w.heap.size w w0) := Lib.hid (by rw [← hW]; exact below_two (Below.refl _ _))
  have hc : w0.cell? ⟨w.heap.size, 0, none⟩ = some (.slice none 0 0) ∧ w0.cell? ⟨w.heap.size, 1, none⟩ = some (.slice none 0 0) ∧ w0.cell? ⟨w.heap.size + 1, 0, none⟩ = some (.slice none 0 0) ∧ w0.cell? ⟨w.heap.size + 1, 1, none⟩ = some (.slice none 0 0) := by rw [← hW]; exact ⟨cell_below (allocs_cell (by simp) (by rfl)) (below_box0 _ _), cell_below (allocs_cell (by simp) (by rfl)) (below_box0 _ _), allocs_cell (by simp) (by rfl), allocs_cell (by simp) (by rfl)⟩
  have kC := Lib.hid (show ∀ u : World, Hid (Below w0.heap.size w0 u) → u.cell? ⟨w.heap.size, 0, none⟩ = some (.slice none 0 0) ∧ u.cell? ⟨w.heap.size, 1, none⟩ = some (.slice none 0 0) ∧ u.cell? ⟨w.heap.size + 1, 0, none⟩ = some (.slice none 0 0) ∧ u.cell? ⟨w.heap.size + 1, 1, none⟩ = some (.slice none 0 0) from fun u h => ⟨cell_below hc.1 h.out, cell_below hc.2.1 h.out, cell_below hc.2.2.1 h.out, cell_below hc.2.2.2 h.out⟩)
  have HB_0 : Hid (Below w0.heap.size w0 w0) := Lib.hid (Below.refl _ _)
  have HW := Lib.hid hW
  clear hW hc 
  go_enter Tryz.func23, Tryz.ntmps23
  go_wp2_with fail
  rw [HW.out]
  obtain ⟨zc0, zc1, zc2, zc3⟩ := kC.out _ HB_0
  go_wp2_with fail
  refine (rsame_any none [] 0 0 none [] 0 true (Lib.hid rfl) (Lib.hid rfl) (Lib.hid rfl) (by decide) _ (Lib.hid (sl_nil _)) (Lib.hid (sl_nil _))).mono ?_
  rintro e w1 ⟨rfl, hb0⟩
  have HB_1 := Lib.hid (below_ext HB_0.out hb0)
  clear zc0 zc1 zc2 zc3
  clear hb0
  obtain ⟨zc0, zc1, zc2, zc3⟩ := kC.out _ HB_1
  go_wp2
  clear zc0 zc1 zc2 zc3
  go_loopw [5] (fun i wr => ∃ k : Nat, k ≤ 0 ∧ i = .int .i64 k ∧ Hid (Below w0.heap.size w0 wr)) (fun i _ => 0 - (intOf i).toNat)
  case atStart => exact ⟨0, by omega, rfl, HB_1⟩
  case round =>
    obtain ⟨k, hk, rfl, HBr⟩ := hrel
    obtain rfl : k = 0 := by omega
    obtain ⟨zc0, zc1, zc2, zc3⟩ := kC.out _ HBr
    have hbF := below_ext HBw.out HBr.out
    go_wp2
    go_ret
    exact ⟨rfl, hbF⟩
set_option maxHeartbeats 6400000 in
theorem srel_ok (ps a b c d : Int) (gY gA gB gR gY2 gA2 gB2 gR2 : Nat) (w : World) (h1 : Hid (EsBlk ps a b c d gY gA gB gR w)) (h2 : Hid (EsBlk ps a b c d gY2 gA2 gB2 gR2 w)) :
    Calls Tryz.prog 23 #[esRV gY gR, esRV gY2 gR2] w fun e' w' => e' = .returned (.bool true) ∧ Below w.heap.size w w' := by
  have HSY : Hid (sameB [ps, 1] [ps, 1] = true) := Lib.hid (sameB_refl _)
  have HSA : Hid (sameB [a, b] [a, b] = true) := Lib.hid (sameB_refl _)
  have HSB : Hid (sameB [c, d] [c, d] = true) := Lib.hid (sameB_refl _)
  obtain ⟨w0, hW⟩ : ∃ W, ((w.alloc (relO (some ⟨gY, 0, none⟩) 2 2 (some ⟨gR, 0, none⟩) 2 2)).alloc (relO (some ⟨gY2, 0, none⟩) 2 2 (some ⟨gR2, 0, none⟩) 2 2)) = W := ⟨_, rfl⟩
  have HBw : Hid (Below w.heap.size w w0) := Lib.hid (by rw [← hW]; exact below_two (Below.refl _ _))
  have hc : w0.cell? ⟨w.heap.size, 0, none⟩ = some (.slice (some ⟨gY, 0, none⟩) 2 2) ∧ w0.cell? ⟨w.heap.size, 1, none⟩ = some (.slice (some ⟨gR, 0, none⟩) 2 2) ∧ w0.cell? ⟨w.heap.size + 1, 0, none⟩ = some (.slice (some ⟨gY2, 0, none⟩) 2 2) ∧ w0.cell? ⟨w.heap.size + 1, 1, none⟩ = some (.slice (some ⟨gR2, 0, none⟩) 2 2) := by rw [← hW]; exact ⟨cell_below (allocs_cell (by simp) (by rfl)) (below_box0 _ _), cell_below (allocs_cell (by simp) (by rfl)) (below_box0 _ _), allocs_cell (by simp) (by rfl), allocs_cell (by simp) (by rfl)⟩
  have kC := Lib.hid (show ∀ u : World, Hid (Below w0.heap.size w0 u) → u.cell? ⟨w.heap.size, 0, none⟩ = some (.slice (some ⟨gY, 0, none⟩) 2 2) ∧ u.cell? ⟨w.heap.size, 1, none⟩ = some (.slice (some ⟨gR, 0, none⟩) 2 2) ∧ u.cell? ⟨w.heap.size + 1, 0, none⟩ = some (.slice (some ⟨gY2, 0, none⟩) 2 2) ∧ u.cell? ⟨w.heap.size + 1, 1, none⟩ = some (.slice (some ⟨gR2, 0, none⟩) 2 2) from fun u h => ⟨cell_below hc.1 h.out, cell_below hc.2.1 h.out, cell_below hc.2.2.1 h.out, cell_below hc.2.2.2 h.out⟩)
  have kY := Lib.hid (show ∀ u : World, Hid (Below w0.heap.size w0 u) → Hid (Sl u (some ⟨gY, 0, none⟩) [ps, 1]) from fun u h => Lib.hid (((fun hb => (h1.out.below hb).sl.1)) (below_ext HBw.out h.out)))
  have kA := Lib.hid (show ∀ u : World, Hid (Below w0.heap.size w0 u) → Hid (Sl u (some ⟨gA, 0, none⟩) [a, b]) from fun u h => Lib.hid (((fun hb => (h1.out.below hb).2.1.sl)) (below_ext HBw.out h.out)))
  have kB := Lib.hid (show ∀ u : World, Hid (Below w0.heap.size w0 u) → Hid (Sl u (some ⟨gB, 0, none⟩) [c, d]) from fun u h => Lib.hid (((fun hb => (h1.out.below hb).2.2.1.sl)) (below_ext HBw.out h.out)))
  have kY2 := Lib.hid (show ∀ u : World, Hid (Below w0.heap.size w0 u) → Hid (Sl u (some ⟨gY2, 0, none⟩) [ps, 1]) from fun u h => Lib.hid (((fun hb => (h2.out.below hb).sl.1)) (below_ext HBw.out h.out)))
  have kA2 := Lib.hid (show ∀ u : World, Hid (Below w0.heap.size w0 u) → Hid (Sl u (some ⟨gA2, 0, none⟩) [a, b]) from fun u h => Lib.hid (((fun hb => (h2.out.below hb).2.1.sl)) (below_ext HBw.out h.out)))
  have kB2 := Lib.hid (show ∀ u : World, Hid (Below w0.heap.size w0 u) → Hid (Sl u (some ⟨gB2, 0, none⟩) [c, d]) from fun u h => Lib.hid (((fun hb => (h2.out.below hb).2.2.1.sl)) (below_ext HBw.out h.out)))
  have HB_0 : Hid (Below w0.heap.size w0 w0) := Lib.hid (Below.refl _ _)
  have HW := Lib.hid hW
  clear hW hc 
  have kRW := Lib.hid (show ∀ u : World, Hid (Below w0.heap.size w0 u) → u.cell? ⟨gR, 0, none⟩ = some (.slice (some ⟨gA, 0, none⟩) 2 2) ∧ u.cell? ⟨gR, 1, none⟩ = some (.slice (some ⟨gB, 0, none⟩) 2 2) ∧ u.cell? ⟨gR2, 0, none⟩ = some (.slice (some ⟨gA2, 0, none⟩) 2 2) ∧ u.cell? ⟨gR2, 1, none⟩ = some (.slice (some ⟨gB2, 0, none⟩) 2 2) from fun u h => by
    have z1 := (h1.out.below (below_ext HBw.out h.out)).2.2.2
    have z2 := (h2.out.below (below_ext HBw.out h.out)).2.2.2
    exact ⟨cell_blk z1 0, cell_blk z1 1, cell_blk z2 0, cell_blk z2 1⟩)
  clear h1 h2
  go_enter Tryz.func23, Tryz.ntmps23
  go_wp2_with fail
  rw [HW.out]
  obtain ⟨zc0, zc1, zc2, zc3⟩ := kC.out _ HB_0
  obtain ⟨kRW_0, kRW_1, kRW_2, kRW_3⟩ := kRW.out _ HB_0
  go_wp2_with fail
  refine (rsame_any (some ⟨gY, 0, none⟩) [ps, 1] 2 2 (some ⟨gY2, 0, none⟩) [ps, 1] 2 true HSY (Lib.hid rfl) (Lib.hid rfl) (by decide) _ (kY.out _ HB_0) (kY2.out _ HB_0)).mono ?_
  rintro e w1 ⟨rfl, hb0⟩
  have HB_1 := Lib.hid (below_ext HB_0.out hb0)
  clear zc0 zc1 zc2 zc3 kRW_0 kRW_1 kRW_2 kRW_3
  clear hb0
  obtain ⟨zc0, zc1, zc2, zc3⟩ := kC.out _ HB_1
  obtain ⟨kRW_0, kRW_1, kRW_2, kRW_3⟩ := kRW.out _ HB_1
  go_wp2
  clear zc0 zc1 zc2 zc3 kRW_0 kRW_1 kRW_2 kRW_3
  go_loopw [5] (fun i wr => ∃ k : Nat, k ≤ 2 ∧ i = .int .i64 k ∧ Hid (Below w0.heap.size w0 wr)) (fun i _ => 2 - (intOf i).toNat)
  case atStart => exact ⟨0, by omega, rfl, HB_1⟩
  case round =>
    obtain ⟨k, hk, rfl, HBr⟩ := hrel
    rcases (show k = 0 ∨ k = 1 ∨ k = 2 by omega) with rfl | rfl | rfl
    · skip
      obtain ⟨zc0, zc1, zc2, zc3⟩ := kC.out _ HBr
      obtain ⟨kRW_0, kRW_1, kRW_2, kRW_3⟩ := kRW.out _ HBr
      go_wp2_with fail
      clear zc0 zc1 zc2 zc3 kRW_0 kRW_1 kRW_2 kRW_3
      have hS2 := Lib.hid (show ∀ u1 u2 : World, (Hid (Below w0.heap.size w0 u1)) → Below u1.heap.size u1 u2 → (u2.cell? ⟨w.heap.size, 0, none⟩ = some (.slice (some ⟨gY, 0, none⟩) 2 2) ∧ u2.cell? ⟨w.heap.size, 1, none⟩ = some (.slice (some ⟨gR, 0, none⟩) 2 2) ∧ u2.cell? ⟨w.heap.size + 1, 0, none⟩ = some (.slice (some ⟨gY2, 0, none⟩) 2 2) ∧ u2.cell? ⟨w.heap.size + 1, 1, none⟩ = some (.slice (some ⟨gR2, 0, none⟩) 2 2) ∧ u2.cell? ⟨gR, 0, none⟩ = some (.slice (some ⟨gA, 0, none⟩) 2 2) ∧ u2.cell? ⟨gR, 1, none⟩ = some (.slice (some ⟨gB, 0, none⟩) 2 2) ∧ u2.cell? ⟨gR2, 0, none⟩ = some (.slice (some ⟨gA2, 0, none⟩) 2 2) ∧ u2.cell? ⟨gR2, 1, none⟩ = some (.slice (some ⟨gB2, 0, none⟩) 2 2) ∧ Hid (Below w0.heap.size w0 u2)) from fun u1 u2 h1 h2 => by
        have q0 := h1
        have r0 := Lib.hid (below_ext q0.out h2)
        obtain ⟨y0, y1, y2, y3⟩ := kC.out _ r0
        obtain ⟨kRW_0, kRW_1, kRW_2, kRW_3⟩ := kRW.out _ r0
        exact ⟨y0, y1, y2, y3, kRW_0, kRW_1, kRW_2, kRW_3, r0⟩)
      have HR2 := Lib.hid (show Hid (Below w0.heap.size w0 wr) from HBr)
      go_region_held3 (fun w' => w'.cell? ⟨w.heap.size, 0, none⟩ = some (.slice (some ⟨gY, 0, none⟩) 2 2) ∧ w'.cell? ⟨w.heap.size, 1, none⟩ = some (.slice (some ⟨gR, 0, none⟩) 2 2) ∧ w'.cell? ⟨w.heap.size + 1, 0, none⟩ = some (.slice (some ⟨gY2, 0, none⟩) 2 2) ∧ w'.cell? ⟨w.heap.size + 1, 1, none⟩ = some (.slice (some ⟨gR2, 0, none⟩) 2 2) ∧ w'.cell? ⟨gR, 0, none⟩ = some (.slice (some ⟨gA, 0, none⟩) 2 2) ∧ w'.cell? ⟨gR, 1, none⟩ = some (.slice (some ⟨gB, 0, none⟩) 2 2) ∧ w'.cell? ⟨gR2, 0, none⟩ = some (.slice (some ⟨gA2, 0, none⟩) 2 2) ∧ w'.cell? ⟨gR2, 1, none⟩ = some (.slice (some ⟨gB2, 0, none⟩) 2 2) ∧ Hid (Below w0.heap.size w0 w'))
        (first | exact hS2.out _ _ HR2.out ((Below.refl _ _).drew) | (exact hS2.out _ _ (by go_split_ands; exact (by assumption)) hbA) | go_keep)
        ((first
          | (go_at_call 70; (with_reducible refine (rsame_any (some ⟨gA, 0, none⟩) [a, b] 2 2 (some ⟨gA2, 0, none⟩) [a, b] 2 true HSA (Lib.hid rfl) (Lib.hid rfl) (by decide) _ ?_ ?_).mono ?_); (go_split_ands; exact kA.out _ (by assumption)); (go_split_ands; exact kA2.out _ (by assumption)); rintro e wA ⟨rfl, hbA⟩)))
      rename_i hHeld
      obtain ⟨x0, x1, x2, x3, x4, x5, x6, x7, HN2_0⟩ := hHeld
      clear hS2 HR2 x0 x1 x2 x3 x4 x5 x6 x7
      obtain ⟨zc0, zc1, zc2, zc3⟩ := kC.out _ HN2_0
      obtain ⟨kRW_0, kRW_1, kRW_2, kRW_3⟩ := kRW.out _ HN2_0
      go_wp2
      go_roundw
      case rel => exact ⟨1, by omega, by go_num, HN2_0⟩
      case measure => simp [intOf]
    · skip
      obtain ⟨zc0, zc1, zc2, zc3⟩ := kC.out _ HBr
      obtain ⟨kRW_0, kRW_1, kRW_2, kRW_3⟩ := kRW.out _ HBr
      go_wp2_with fail
      clear zc0 zc1 zc2 zc3 kRW_0 kRW_1 kRW_2 kRW_3
      have hS2 := Lib.hid (show ∀ u1 u2 : World, (Hid (Below w0.heap.size w0 u1)) → Below u1.heap.size u1 u2 → (u2.cell? ⟨w.heap.size, 0, none⟩ = some (.slice (some ⟨gY, 0, none⟩) 2 2) ∧ u2.cell? ⟨w.heap.size, 1, none⟩ = some (.slice (some ⟨gR, 0, none⟩) 2 2) ∧ u2.cell? ⟨w.heap.size + 1, 0, none⟩ = some (.slice (some ⟨gY2, 0, none⟩) 2 2) ∧ u2.cell? ⟨w.heap.size + 1, 1, none⟩ = some (.slice (some ⟨gR2, 0, none⟩) 2 2) ∧ u2.cell? ⟨gR, 0, none⟩ = some (.slice (some ⟨gA, 0, none⟩) 2 2) ∧ u2.cell? ⟨gR, 1, none⟩ = some (.slice (some ⟨gB, 0, none⟩) 2 2) ∧ u2.cell? ⟨gR2, 0, none⟩ = some (.slice (some ⟨gA2, 0, none⟩) 2 2) ∧ u2.cell? ⟨gR2, 1, none⟩ = some (.slice (some ⟨gB2, 0, none⟩) 2 2) ∧ Hid (Below w0.heap.size w0 u2)) from fun u1 u2 h1 h2 => by
        have q0 := h1
        have r0 := Lib.hid (below_ext q0.out h2)
        obtain ⟨y0, y1, y2, y3⟩ := kC.out _ r0
        obtain ⟨kRW_0, kRW_1, kRW_2, kRW_3⟩ := kRW.out _ r0
        exact ⟨y0, y1, y2, y3, kRW_0, kRW_1, kRW_2, kRW_3, r0⟩)
      have HR2 := Lib.hid (show Hid (Below w0.heap.size w0 wr) from HBr)
      go_region_held3 (fun w' => w'.cell? ⟨w.heap.size, 0, none⟩ = some (.slice (some ⟨gY, 0, none⟩) 2 2) ∧ w'.cell? ⟨w.heap.size, 1, none⟩ = some (.slice (some ⟨gR, 0, none⟩) 2 2) ∧ w'.cell? ⟨w.heap.size + 1, 0, none⟩ = some (.slice (some ⟨gY2, 0, none⟩) 2 2) ∧ w'.cell? ⟨w.heap.size + 1, 1, none⟩ = some (.slice (some ⟨gR2, 0, none⟩) 2 2) ∧ w'.cell? ⟨gR, 0, none⟩ = some (.slice (some ⟨gA, 0, none⟩) 2 2) ∧ w'.cell? ⟨gR, 1, none⟩ = some (.slice (some ⟨gB, 0, none⟩) 2 2) ∧ w'.cell? ⟨gR2, 0, none⟩ = some (.slice (some ⟨gA2, 0, none⟩) 2 2) ∧ w'.cell? ⟨gR2, 1, none⟩ = some (.slice (some ⟨gB2, 0, none⟩) 2 2) ∧ Hid (Below w0.heap.size w0 w'))
        (first | exact hS2.out _ _ HR2.out ((Below.refl _ _).drew) | (exact hS2.out _ _ (by go_split_ands; exact (by assumption)) hbA) | go_keep)
        ((first
          | (go_at_call 70; (with_reducible refine (rsame_any (some ⟨gB, 0, none⟩) [c, d] 2 2 (some ⟨gB2, 0, none⟩) [c, d] 2 true HSB (Lib.hid rfl) (Lib.hid rfl) (by decide) _ ?_ ?_).mono ?_); (go_split_ands; exact kB.out _ (by assumption)); (go_split_ands; exact kB2.out _ (by assumption)); rintro e wA ⟨rfl, hbA⟩)))
      rename_i hHeld
      obtain ⟨x0, x1, x2, x3, x4, x5, x6, x7, HN2_0⟩ := hHeld
      clear hS2 HR2 x0 x1 x2 x3 x4 x5 x6 x7
      obtain ⟨zc0, zc1, zc2, zc3⟩ := kC.out _ HN2_0
      obtain ⟨kRW_0, kRW_1, kRW_2, kRW_3⟩ := kRW.out _ HN2_0
      go_wp2
      go_roundw
      case rel => exact ⟨2, by omega, by go_num, HN2_0⟩
      case measure => simp [intOf]
    · skip
      obtain ⟨zc0, zc1, zc2, zc3⟩ := kC.out _ HBr
      obtain ⟨kRW_0, kRW_1, kRW_2, kRW_3⟩ := kRW.out _ HBr
      have hbF := below_ext HBw.out HBr.out
      go_wp2
      go_ret
      exact ⟨rfl, hbF⟩
set_option maxHeartbeats 3200000 in
theorem great36_any (E1 E2 : Int) (A : Option Addr) (na ca : Nat) (C : Int) (Z : Option Addr) (nz cz : Nat) (r : Bool) (hr : Hid ((decide (100 < na) || decide (100 < nz)) = r)) (w : World) :
    Calls Tryz.prog 18 #[esV E1 E2 A na ca C Z nz cz] w fun e' w' => e' = .returned (.bool r) ∧ Below w.heap.size w w' := by
  have hb := below_box0 w (esO E1 E2 A na ca C Z nz cz)
  by_cases h1 : 100 < na
  · have d1 : decide ((100 : Int) < (na : Int)) = true := by simp; omega
    obtain rfl : r = true := by rw [← hr.out, decide_eq_true h1]; rfl
    go_enter Tryz.func18, Tryz.ntmps18
    go_wp2
    go_ret
    exact ⟨rfl, hb⟩
  · have d1 : decide ((100 : Int) < (na : Int)) = false := by simp; omega
    by_cases h2 : 100 < nz
    · have d2 : decide ((100 : Int) < (nz : Int)) = true := by simp; omega
      obtain rfl : r = true := by rw [← hr.out, decide_eq_true h2, Bool.or_true]
      go_enter Tryz.func18, Tryz.ntmps18
      go_wp2
      go_ret
      exact ⟨rfl, hb⟩
    · have d2 : decide ((100 : Int) < (nz : Int)) = false := by simp; omega
      obtain rfl : r = false := by rw [← hr.out, decide_eq_false h1, decide_eq_false h2]; rfl
      go_enter Tryz.func18, Tryz.ntmps18
      go_wp2
      go_ret
      exact ⟨rfl, hb⟩
set_option maxHeartbeats 1600000 in
theorem bases36 (w : World) : Calls Tryz.prog 60 #[] w fun e' w' => e' = .returned (bv 23 11 4 2 3 9) ∧ Below w.heap.size w w' := by
  have hb := below_box0 w (bObj 23 11 4 2 3 9)
  have hblk := heap_alloc_new w (bObj 23 11 4 2 3 9)
  go_enter Tryz.func60, Tryz.ntmps60
  go_wp2
  exact bodyPost_ret (v := bv 23 11 4 2 3 9) (results_cell1 (p := 0) (ty := 41) rfl _ _ ⟨w.heap.size, 0, none⟩ _ rfl (run_loadVar_row _ _ _ _ _ _ _ hblk Tryz.underlying41 rfl (by kernel_rfl))) rfl ⟨rfl, hb⟩
theorem ex36v : Hid (validB 23 11 4 2 3 9 = true) := Lib.hid (by kernel_rfl)
theorem ex36o : Hid (opE 23 11 4 2 3 9 2 18 4 = 0) := Lib.hid (by kernel_rfl)
theorem ex36w : Hid (opV 23 11 4 2 3 9 2 18 4 = 2) := Lib.hid (by kernel_rfl)
theorem ex36a : Hid (okB 23 11 16 = true) := Lib.hid (by kernel_rfl)
theorem ex36b : Hid (okB 23 11 13 = true) := Lib.hid (by kernel_rfl)
theorem ex36c : Hid (memG 23 11 18 = true) := Lib.hid (by kernel_rfl)
theorem ex36d : Hid (memG 23 11 4 = true) := Lib.hid (by kernel_rfl)
set_option maxHeartbeats 6400000 in
theorem awake36 (w : World) (hv : Hid (Vars w)) :
    Calls Tryz.prog 17 #[] w fun e' w' => e' = .returned (.bool true) ∧ Below w.heap.size w w' := by
  obtain ⟨w0, hW⟩ : ∃ W, w = W := ⟨_, rfl⟩
  have HBw : Hid (Below w.heap.size w w0) := Lib.hid (by rw [← hW]; exact Below.refl _ _)
  have kC := Lib.hid (show ∀ u : World, Hid (Below w0.heap.size w0 u) → True from fun _ _ => trivial)
  have kV := Lib.hid (show ∀ u : World, Hid (Below w0.heap.size w0 u) → Hid (Vars u) from fun u h => Lib.hid ((hv.out.below) (below_ext HBw.out h.out)))
  have HB_0 : Hid (Below w0.heap.size w0 w0) := Lib.hid (Below.refl _ _)
  have HW := Lib.hid hW
  clear hW hv
  go_enter Tryz.func17, Tryz.ntmps17
  go_wp2_with fail
  rw [HW.out]
  go_wp2_with fail
  refine (bases36 _).mono ?_
  rintro e w1 ⟨rfl, hb0⟩
  have HB_1 := Lib.hid (below_ext HB_0.out hb0)
  clear hb0
  go_wp2_with fail
  refine (opn_any 23 11 4 2 3 9 2 18 4 none 0 0 0 none 0 0 2 0 ex36o ex36w (by decide) _ (kV.out _ HB_1)).mono ?_
  rintro e w2 ⟨rfl, hb0⟩
  have HB_2 := Lib.hid (below_ext HB_1.out hb0)
  clear hb0
  go_wp2_with fail
  refine (bases36 _).mono ?_
  rintro e w3 ⟨rfl, hb0⟩
  have HB_3 := Lib.hid (below_ext HB_2.out hb0)
  clear hb0
  go_wp2_with fail
  refine (escR_ok 23 11 4 2 3 9 16 13 18 4 none 0 0 0 none 0 0 ex36v ex36a ex36b ex36c ex36d _ _ _ (Lib.hid rfl) (Lib.hid rfl) (Lib.hid rfl) (by decide) _ (kV.out _ HB_3)).mono ?_
  intro e w4 hE
  obtain ⟨gY, gA, gB, gR, rfl, hE, hb0⟩ := hE
  have HE := Lib.hid hE
  clear hE
  have HB_4 := Lib.hid (below_ext HB_3.out hb0)
  clear hb0
  have HB_w4_4 : Hid (Below w4.heap.size w4 w4) := Lib.hid (Below.refl _ _)
  have kYC := Lib.hid (show ∀ u : World, Hid (Below w4.heap.size w4 u) → u.cell? ⟨gY, 0, none⟩ = some (.int .i64 13) ∧ u.cell? ⟨gY, 1, none⟩ = some (.int .i64 1) from fun u h => ⟨cell_blk (HE.out.below h.out).1 0, cell_blk (HE.out.below h.out).1 1⟩)
  obtain ⟨kYC_0, kYC_1⟩ := kYC.out _ HB_w4_4
  have hq := below_box0 w4 (relO (some ⟨gY, 0, none⟩) 2 2 (some ⟨gR, 0, none⟩) 2 2)
  have HB_5 := Lib.hid (below_ext HB_4.out hq)
  have HB_w4_5 := Lib.hid (below_ext HB_w4_4.out hq)
  have hc : (w4.alloc (relO (some ⟨gY, 0, none⟩) 2 2 (some ⟨gR, 0, none⟩) 2 2)).cell? ⟨w4.heap.size, 0, none⟩ = some (.slice (some ⟨gY, 0, none⟩) 2 2) ∧ (w4.alloc (relO (some ⟨gY, 0, none⟩) 2 2 (some ⟨gR, 0, none⟩) 2 2)).cell? ⟨w4.heap.size, 1, none⟩ = some (.slice (some ⟨gR, 0, none⟩) 2 2) := ⟨allocs_cell rfl (by rfl), allocs_cell rfl (by rfl)⟩
  have HC5 := Lib.hid hc
  clear kYC_0 kYC_1
  clear hq
  obtain ⟨kYC_0, kYC_1⟩ := kYC.out _ HB_w4_5
  obtain ⟨zq0, zq1⟩ := hc
  go_wp2_with fail
  obtain ⟨w5, hw⟩ : ∃ x, (w4.alloc (relO (some ⟨gY, 0, none⟩) 2 2 (some ⟨gR, 0, none⟩) 2 2)) = x := ⟨_, rfl⟩
  rw [hw] at HC5 HB_5 HB_w4_5 ⊢
  have HSN5 : Hid (w5.heap.size = w4.heap.size + 1) := Lib.hid (by rw [← hw]; simp)
  clear kYC_0 kYC_1 zq0 zq1
  clear hw
  have HB_w5_5 : Hid (Below w5.heap.size w5 w5) := Lib.hid (Below.refl _ _)
  have kR := Lib.hid (show ∀ u : World, Hid (Below w5.heap.size w5 u) → u.cell? ⟨w4.heap.size, 0, none⟩ = some (.slice (some ⟨gY, 0, none⟩) 2 2) ∧ u.cell? ⟨w4.heap.size, 1, none⟩ = some (.slice (some ⟨gR, 0, none⟩) 2 2) from fun u h => ⟨cell_below HC5.out.1 h.out, cell_below HC5.out.2 h.out⟩)
  obtain ⟨kYC_0, kYC_1⟩ := kYC.out _ HB_w4_5
  obtain ⟨kR_0, kR_1⟩ := kR.out _ HB_w5_5
  have hbF := below_ext HBw.out HB_5.out
  go_ret
  exact ⟨rfl, hbF⟩
set_option maxHeartbeats 6400000 in
theorem er_great (P Q G X1 X2 X3 : Int) (y ps k : Int) (s : ByteArray) (E1 E2 : Int) (A : Option Addr) (na ca : Nat) (C : Int) (Z : Option Addr) (nz cz : Nat) (al zs : List Int) (han : Hid (al.length = na)) (hzn : Hid (zs.length = nz)) (hQ : Q < 9223372036854775808) (hgr : Hid ((decide (100 < na) || decide (100 < nz)) = true)) (w : World) (hv : Hid (Vars w)) (hd0 : Hid (VarsD w)) (hA : Hid (Sl w A al)) (hZ : Hid (Sl w Z zs)) :
    Calls Tryz.prog 4 #[bv P Q G X1 X2 X3, .int .i64 y, .int .i64 ps, .int .i64 k, .string s, esV E1 E2 A na ca C Z nz cz] w fun e' w' => e' = .returned (.bool true) ∧ Below w.heap.size w w' := by
  obtain ⟨w0, HW, HBw, kC⟩ := stBE P Q G X1 X2 X3 E1 E2 A na ca C Z nz cz w
  have kV := Lib.hid (show ∀ u : World, Hid (Below w0.heap.size w0 u) → Hid (Vars u) from fun u h => Lib.hid ((hv.out.below) (below_ext HBw.out h.out)))
  have HB_0 : Hid (Below w0.heap.size w0 w0) := Lib.hid (Below.refl _ _)
  clear hv hd0 hA hZ
  go_enter Tryz.func4, Tryz.ntmps4
  go_wp2_with fail
  rw [HW.out]
  obtain ⟨zc0, zc1, zc2, zc3, zc4, zc5, zc6, zc7, zc8, zc9, zc10⟩ := kC.out _ HB_0
  go_wp2_with fail
  refine (awake36 _ (kV.out _ HB_0)).mono ?_
  rintro e w1 ⟨rfl, hb0⟩
  have HB_1 := Lib.hid (below_ext HB_0.out hb0)
  clear zc0 zc1 zc2 zc3 zc4 zc5 zc6 zc7 zc8 zc9 zc10
  clear hb0
  obtain ⟨zc0, zc1, zc2, zc3, zc4, zc5, zc6, zc7, zc8, zc9, zc10⟩ := kC.out _ HB_1
  go_wp2_with fail
  refine (great36_any E1 E2 A na ca C Z nz cz true hgr _).mono ?_
  rintro e w2 ⟨rfl, hb0⟩
  have HB_2 := Lib.hid (below_ext HB_1.out hb0)
  clear zc0 zc1 zc2 zc3 zc4 zc5 zc6 zc7 zc8 zc9 zc10
  clear hb0
  obtain ⟨zc0, zc1, zc2, zc3, zc4, zc5, zc6, zc7, zc8, zc9, zc10⟩ := kC.out _ HB_2
  have hbF := below_ext HBw.out HB_2.out
  go_wp2
  go_ret
  exact ⟨rfl, hbF⟩
set_option maxHeartbeats 6400000 in
theorem er_long (P Q G X1 X2 X3 : Int) (y ps k : Int) (s : ByteArray) (E1 E2 : Int) (A : Option Addr) (na ca : Nat) (C : Int) (Z : Option Addr) (nz cz : Nat) (al zs : List Int) (han : Hid (al.length = na)) (hzn : Hid (zs.length = nz)) (hQ : Q < 9223372036854775808) (hgr : Hid ((decide (100 < na) || decide (100 < nz)) = false)) (hl : 100 < s.size) (w : World) (hv : Hid (Vars w)) (hd0 : Hid (VarsD w)) (hA : Hid (Sl w A al)) (hZ : Hid (Sl w Z zs)) :
    Calls Tryz.prog 4 #[bv P Q G X1 X2 X3, .int .i64 y, .int .i64 ps, .int .i64 k, .string s, esV E1 E2 A na ca C Z nz cz] w fun e' w' => e' = .returned (.bool true) ∧ Below w.heap.size w w' := by
  have dl : decide ((100 : Int) < (s.size : Int)) = true := by simp; omega
  obtain ⟨w0, HW, HBw, kC⟩ := stBE P Q G X1 X2 X3 E1 E2 A na ca C Z nz cz w
  have kV := Lib.hid (show ∀ u : World, Hid (Below w0.heap.size w0 u) → Hid (Vars u) from fun u h => Lib.hid ((hv.out.below) (below_ext HBw.out h.out)))
  have HB_0 : Hid (Below w0.heap.size w0 w0) := Lib.hid (Below.refl _ _)
  clear hv hd0 hA hZ
  go_enter Tryz.func4, Tryz.ntmps4
  go_wp2_with fail
  rw [HW.out]
  obtain ⟨zc0, zc1, zc2, zc3, zc4, zc5, zc6, zc7, zc8, zc9, zc10⟩ := kC.out _ HB_0
  go_wp2_with fail
  refine (awake36 _ (kV.out _ HB_0)).mono ?_
  rintro e w1 ⟨rfl, hb0⟩
  have HB_1 := Lib.hid (below_ext HB_0.out hb0)
  clear zc0 zc1 zc2 zc3 zc4 zc5 zc6 zc7 zc8 zc9 zc10
  clear hb0
  obtain ⟨zc0, zc1, zc2, zc3, zc4, zc5, zc6, zc7, zc8, zc9, zc10⟩ := kC.out _ HB_1
  go_wp2_with fail
  refine (great36_any E1 E2 A na ca C Z nz cz false hgr _).mono ?_
  rintro e w2 ⟨rfl, hb0⟩
  have HB_2 := Lib.hid (below_ext HB_1.out hb0)
  clear zc0 zc1 zc2 zc3 zc4 zc5 zc6 zc7 zc8 zc9 zc10
  clear hb0
  obtain ⟨zc0, zc1, zc2, zc3, zc4, zc5, zc6, zc7, zc8, zc9, zc10⟩ := kC.out _ HB_2
  have hbF := below_ext HBw.out HB_2.out
  go_wp2
  go_ret
  exact ⟨rfl, hbF⟩
set_option maxHeartbeats 12800000 in
theorem er_bad (P Q G X1 X2 X3 : Int) (y ps k : Int) (s : ByteArray) (E1 E2 : Int) (A : Option Addr) (na ca : Nat) (C : Int) (Z : Option Addr) (nz cz : Nat) (al zs : List Int) (han : Hid (al.length = na)) (hzn : Hid (zs.length = nz)) (hQ : Q < 9223372036854775808) (hgr : Hid ((decide (100 < na) || decide (100 < nz)) = false)) (hl : s.size ≤ 100) (hna : na < 1000000) (hnz : nz < 1000000) (v r2 : Int) (hop : Hid (opE P Q G X1 X2 X3 k E1 E2 = r2)) (hov : Hid (opV P Q G X1 X2 X3 k E1 E2 = v)) (r : Int) (hr : Hid (esE P Q G X1 X2 X3 y ps E1 E2 = r)) (hne : (r != 0) = true) (w : World) (hv : Hid (Vars w)) (hd0 : Hid (VarsD w)) (hA : Hid (Sl w A al)) (hZ : Hid (Sl w Z zs)) :
    Calls Tryz.prog 4 #[bv P Q G X1 X2 X3, .int .i64 y, .int .i64 ps, .int .i64 k, .string s, esV E1 E2 A na ca C Z nz cz] w fun e' w' => e' = .returned (.bool true) ∧ Below w.heap.size w w' := by
  have dl : decide ((100 : Int) < (s.size : Int)) = false := by simp; omega
  have hs9 : s.size ≤ 1000 := by omega
  obtain ⟨cb, hcb⟩ : ∃ x, esVer P Q G X1 X2 X3 y ps E1 E2 C (bys s) al zs = x := ⟨_, rfl⟩
  have HCB : Kp (esVer P Q G X1 X2 X3 y ps E1 E2 C (bys s) al zs = cb) := ⟨hcb⟩
  have ecc : (cb == cb) = true := by simp
  have ev : (v == v) = true := by simp
  have er2 : (r2 == r2) = true := by simp
  clear hcb
  have er : (r == r) = true := by simp
  obtain ⟨w0, HW, HBw, kC⟩ := stBE P Q G X1 X2 X3 E1 E2 A na ca C Z nz cz w
  have kV := Lib.hid (show ∀ u : World, Hid (Below w0.heap.size w0 u) → Hid (Vars u) from fun u h => Lib.hid ((hv.out.below) (below_ext HBw.out h.out)))
  have kD := Lib.hid (show ∀ u : World, Hid (Below w0.heap.size w0 u) → Hid (VarsD u) from fun u h => Lib.hid ((hd0.out.below) (below_ext HBw.out h.out)))
  have kA := Lib.hid (show ∀ u : World, Hid (Below w0.heap.size w0 u) → Hid (Sl u A al) from fun u h => Lib.hid ((hA.out.below) (below_ext HBw.out h.out)))
  have kZ := Lib.hid (show ∀ u : World, Hid (Below w0.heap.size w0 u) → Hid (Sl u Z zs) from fun u h => Lib.hid ((hZ.out.below) (below_ext HBw.out h.out)))
  have HB_0 : Hid (Below w0.heap.size w0 w0) := Lib.hid (Below.refl _ _)
  clear hv hd0 hA hZ
  go_enter Tryz.func4, Tryz.ntmps4
  go_wp2_with fail
  rw [HW.out]
  obtain ⟨zc0, zc1, zc2, zc3, zc4, zc5, zc6, zc7, zc8, zc9, zc10⟩ := kC.out _ HB_0
  go_wp2_with fail
  refine (awake36 _ (kV.out _ HB_0)).mono ?_
  rintro e w1 ⟨rfl, hb0⟩
  have HB_1 := Lib.hid (below_ext HB_0.out hb0)
  clear zc0 zc1 zc2 zc3 zc4 zc5 zc6 zc7 zc8 zc9 zc10
  clear hb0
  obtain ⟨zc0, zc1, zc2, zc3, zc4, zc5, zc6, zc7, zc8, zc9, zc10⟩ := kC.out _ HB_1
  go_wp2_with fail
  refine (great36_any E1 E2 A na ca C Z nz cz false hgr _).mono ?_
  rintro e w2 ⟨rfl, hb0⟩
  have HB_2 := Lib.hid (below_ext HB_1.out hb0)
  clear zc0 zc1 zc2 zc3 zc4 zc5 zc6 zc7 zc8 zc9 zc10
  clear hb0
  obtain ⟨zc0, zc1, zc2, zc3, zc4, zc5, zc6, zc7, zc8, zc9, zc10⟩ := kC.out _ HB_2
  go_wp2_with fail
  refine (escR_bad P Q G X1 X2 X3 y ps E1 E2 A na ca C Z nz cz r hr hne hQ _ (kV.out _ HB_2)).mono ?_
  rintro e w3 ⟨rfl, hb0⟩
  have HB_3 := Lib.hid (below_ext HB_2.out hb0)
  clear zc0 zc1 zc2 zc3 zc4 zc5 zc6 zc7 zc8 zc9 zc10
  clear hb0
  obtain ⟨zc0, zc1, zc2, zc3, zc4, zc5, zc6, zc7, zc8, zc9, zc10⟩ := kC.out _ HB_3
  have hq := below_box0 w3 (relO none 0 0 none 0 0)
  have HB_4 := Lib.hid (below_ext HB_3.out hq)
  have hc : (w3.alloc (relO none 0 0 none 0 0)).cell? ⟨w3.heap.size, 0, none⟩ = some (.slice none 0 0) ∧ (w3.alloc (relO none 0 0 none 0 0)).cell? ⟨w3.heap.size, 1, none⟩ = some (.slice none 0 0) := ⟨allocs_cell rfl (by rfl), allocs_cell rfl (by rfl)⟩
  have HC4 := Lib.hid hc
  clear zc0 zc1 zc2 zc3 zc4 zc5 zc6 zc7 zc8 zc9 zc10
  clear hq
  obtain ⟨zc0, zc1, zc2, zc3, zc4, zc5, zc6, zc7, zc8, zc9, zc10⟩ := kC.out _ HB_4
  obtain ⟨zq0, zq1⟩ := hc
  go_wp2_with fail
  obtain ⟨w4, hw⟩ : ∃ x, (w3.alloc (relO none 0 0 none 0 0)) = x := ⟨_, rfl⟩
  rw [hw] at HC4 HB_4 ⊢
  have HSN4 : Hid (w4.heap.size = w3.heap.size + 1) := Lib.hid (by rw [← hw]; simp)
  clear zc0 zc1 zc2 zc3 zc4 zc5 zc6 zc7 zc8 zc9 zc10 zq0 zq1
  clear hw
  have HB_w4_4 : Hid (Below w4.heap.size w4 w4) := Lib.hid (Below.refl _ _)
  have kR := Lib.hid (show ∀ u : World, Hid (Below w4.heap.size w4 u) → u.cell? ⟨w3.heap.size, 0, none⟩ = some (.slice none 0 0) ∧ u.cell? ⟨w3.heap.size, 1, none⟩ = some (.slice none 0 0) from fun u h => ⟨cell_below HC4.out.1 h.out, cell_below HC4.out.2 h.out⟩)
  obtain ⟨zc0, zc1, zc2, zc3, zc4, zc5, zc6, zc7, zc8, zc9, zc10⟩ := kC.out _ HB_4
  obtain ⟨kR_0, kR_1⟩ := kR.out _ HB_w4_4
  go_wp2_with fail
  refine (rescR_bad P Q G X1 X2 X3 y ps E1 E2 A na ca C Z nz cz r hr hne hQ _).mono ?_
  rintro e w5 ⟨rfl, hb0⟩
  have HB_5 := Lib.hid (below_ext HB_4.out hb0)
  have HB_w4_5 := Lib.hid (below_ext HB_w4_4.out hb0)
  clear zc0 zc1 zc2 zc3 zc4 zc5 zc6 zc7 zc8 zc9 zc10 kR_0 kR_1
  clear hb0
  obtain ⟨zc0, zc1, zc2, zc3, zc4, zc5, zc6, zc7, zc8, zc9, zc10⟩ := kC.out _ HB_5
  obtain ⟨kR_0, kR_1⟩ := kR.out _ HB_w4_5
  have hq := below_box0 w5 (relO none 0 0 none 0 0)
  have HB_6 := Lib.hid (below_ext HB_5.out hq)
  have HB_w4_6 := Lib.hid (below_ext HB_w4_5.out hq)
  have hc : (w5.alloc (relO none 0 0 none 0 0)).cell? ⟨w5.heap.size, 0, none⟩ = some (.slice none 0 0) ∧ (w5.alloc (relO none 0 0 none 0 0)).cell? ⟨w5.heap.size, 1, none⟩ = some (.slice none 0 0) := ⟨allocs_cell rfl (by rfl), allocs_cell rfl (by rfl)⟩
  have HC6 := Lib.hid hc
  clear zc0 zc1 zc2 zc3 zc4 zc5 zc6 zc7 zc8 zc9 zc10 kR_0 kR_1
  clear hq
  obtain ⟨zc0, zc1, zc2, zc3, zc4, zc5, zc6, zc7, zc8, zc9, zc10⟩ := kC.out _ HB_6
  obtain ⟨kR_0, kR_1⟩ := kR.out _ HB_w4_6
  obtain ⟨zq0, zq1⟩ := hc
  go_wp2_with fail
  obtain ⟨w6, hw⟩ : ∃ x, (w5.alloc (relO none 0 0 none 0 0)) = x := ⟨_, rfl⟩
  rw [hw] at HC6 HB_6 HB_w4_6 ⊢
  have HSN6 : Hid (w6.heap.size = w5.heap.size + 1) := Lib.hid (by rw [← hw]; simp)
  clear zc0 zc1 zc2 zc3 zc4 zc5 zc6 zc7 zc8 zc9 zc10 kR_0 kR_1 zq0 zq1
  clear hw
  have HB_w6_6 : Hid (Below w6.heap.size w6 w6) := Lib.hid (Below.refl _ _)
  have kR2 := Lib.hid (show ∀ u : World, Hid (Below w6.heap.size w6 u) → u.cell? ⟨w5.heap.size, 0, none⟩ = some (.slice none 0 0) ∧ u.cell? ⟨w5.heap.size, 1, none⟩ = some (.slice none 0 0) from fun u h => ⟨cell_below HC6.out.1 h.out, cell_below HC6.out.2 h.out⟩)
  obtain ⟨zc0, zc1, zc2, zc3, zc4, zc5, zc6, zc7, zc8, zc9, zc10⟩ := kC.out _ HB_6
  obtain ⟨kR_0, kR_1⟩ := kR.out _ HB_w4_6
  obtain ⟨kR2_0, kR2_1⟩ := kR2.out _ HB_w6_6
  go_wp2_with fail
  refine (opn_any P Q G X1 X2 X3 k E1 E2 A na ca C Z nz cz v r2 hop hov hQ _ (kV.out _ HB_6)).mono ?_
  rintro e w7 ⟨rfl, hb0⟩
  have HB_7 := Lib.hid (below_ext HB_6.out hb0)
  have HB_w4_7 := Lib.hid (below_ext HB_w4_6.out hb0)
  have HB_w6_7 := Lib.hid (below_ext HB_w6_6.out hb0)
  clear zc0 zc1 zc2 zc3 zc4 zc5 zc6 zc7 zc8 zc9 zc10 kR_0 kR_1 kR2_0 kR2_1
  clear hb0
  obtain ⟨zc0, zc1, zc2, zc3, zc4, zc5, zc6, zc7, zc8, zc9, zc10⟩ := kC.out _ HB_7
  obtain ⟨kR_0, kR_1⟩ := kR.out _ HB_w4_7
  obtain ⟨kR2_0, kR2_1⟩ := kR2.out _ HB_w6_7
  go_wp2_with fail
  refine (ropn_any P Q G X1 X2 X3 k E1 E2 A na ca C Z nz cz v r2 hop hov hQ _).mono ?_
  rintro e w8 ⟨rfl, hb0⟩
  have HB_8 := Lib.hid (below_ext HB_7.out hb0)
  have HB_w4_8 := Lib.hid (below_ext HB_w4_7.out hb0)
  have HB_w6_8 := Lib.hid (below_ext HB_w6_7.out hb0)
  clear zc0 zc1 zc2 zc3 zc4 zc5 zc6 zc7 zc8 zc9 zc10 kR_0 kR_1 kR2_0 kR2_1
  clear hb0
  obtain ⟨zc0, zc1, zc2, zc3, zc4, zc5, zc6, zc7, zc8, zc9, zc10⟩ := kC.out _ HB_8
  obtain ⟨kR_0, kR_1⟩ := kR.out _ HB_w4_8
  obtain ⟨kR2_0, kR2_1⟩ := kR2.out _ HB_w6_8
  go_wp2_with fail
  clear zc0 zc1 zc2 zc3 zc4 zc5 zc6 zc7 zc8 zc9 zc10 kR_0 kR_1 kR2_0 kR2_1
  have hS9 := Lib.hid (show ∀ u1 u2 : World, (Hid (Below w0.heap.size w0 u1) ∧ Hid (Below w4.heap.size w4 u1) ∧ Hid (Below w6.heap.size w6 u1)) → Below u1.heap.size u1 u2 → (u2.cell? ⟨w.heap.size, 0, none⟩ = some (.int .i64 P) ∧ u2.cell? ⟨w.heap.size, 1, none⟩ = some (.int .i64 Q) ∧ u2.cell? ⟨w.heap.size, 2, none⟩ = some (.int .i64 G) ∧ u2.cell? ⟨w.heap.size, 3, none⟩ = some (.int .i64 X1) ∧ u2.cell? ⟨w.heap.size, 4, none⟩ = some (.int .i64 X2) ∧ u2.cell? ⟨w.heap.size, 5, none⟩ = some (.int .i64 X3) ∧ u2.cell? ⟨w.heap.size + 1, 0, none⟩ = some (.int .i64 E1) ∧ u2.cell? ⟨w.heap.size + 1, 1, none⟩ = some (.int .i64 E2) ∧ u2.cell? ⟨w.heap.size + 1, 2, none⟩ = some (.slice A na ca) ∧ u2.cell? ⟨w.heap.size + 1, 3, none⟩ = some (.int .i64 C) ∧ u2.cell? ⟨w.heap.size + 1, 4, none⟩ = some (.slice Z nz cz) ∧ u2.cell? ⟨w3.heap.size, 0, none⟩ = some (.slice none 0 0) ∧ u2.cell? ⟨w3.heap.size, 1, none⟩ = some (.slice none 0 0) ∧ u2.cell? ⟨w5.heap.size, 0, none⟩ = some (.slice none 0 0) ∧ u2.cell? ⟨w5.heap.size, 1, none⟩ = some (.slice none 0 0) ∧ Hid (Below w0.heap.size w0 u2) ∧ Hid (Below w4.heap.size w4 u2) ∧ Hid (Below w6.heap.size w6 u2)) from fun u1 u2 h1 h2 => by
    obtain ⟨q0, q1, q2⟩ := h1
    have r0 := Lib.hid (below_ext q0.out h2)
    have r1 := Lib.hid (below_ext q1.out h2)
    have r2 := Lib.hid (below_ext q2.out h2)
    obtain ⟨y0, y1, y2, y3, y4, y5, y6, y7, y8, y9, y10⟩ := kC.out _ r0
    obtain ⟨kR_0, kR_1⟩ := kR.out _ r1
    obtain ⟨kR2_0, kR2_1⟩ := kR2.out _ r2
    exact ⟨y0, y1, y2, y3, y4, y5, y6, y7, y8, y9, y10, kR_0, kR_1, kR2_0, kR2_1, r0, r1, r2⟩)
  have HR9 := Lib.hid (show Hid (Below w0.heap.size w0 w8) ∧ Hid (Below w4.heap.size w4 w8) ∧ Hid (Below w6.heap.size w6 w8) from ⟨HB_8, HB_w4_8, HB_w6_8⟩)
  go_region_held3 (fun w' => w'.cell? ⟨w.heap.size, 0, none⟩ = some (.int .i64 P) ∧ w'.cell? ⟨w.heap.size, 1, none⟩ = some (.int .i64 Q) ∧ w'.cell? ⟨w.heap.size, 2, none⟩ = some (.int .i64 G) ∧ w'.cell? ⟨w.heap.size, 3, none⟩ = some (.int .i64 X1) ∧ w'.cell? ⟨w.heap.size, 4, none⟩ = some (.int .i64 X2) ∧ w'.cell? ⟨w.heap.size, 5, none⟩ = some (.int .i64 X3) ∧ w'.cell? ⟨w.heap.size + 1, 0, none⟩ = some (.int .i64 E1) ∧ w'.cell? ⟨w.heap.size + 1, 1, none⟩ = some (.int .i64 E2) ∧ w'.cell? ⟨w.heap.size + 1, 2, none⟩ = some (.slice A na ca) ∧ w'.cell? ⟨w.heap.size + 1, 3, none⟩ = some (.int .i64 C) ∧ w'.cell? ⟨w.heap.size + 1, 4, none⟩ = some (.slice Z nz cz) ∧ w'.cell? ⟨w3.heap.size, 0, none⟩ = some (.slice none 0 0) ∧ w'.cell? ⟨w3.heap.size, 1, none⟩ = some (.slice none 0 0) ∧ w'.cell? ⟨w5.heap.size, 0, none⟩ = some (.slice none 0 0) ∧ w'.cell? ⟨w5.heap.size, 1, none⟩ = some (.slice none 0 0) ∧ Hid (Below w0.heap.size w0 w') ∧ Hid (Below w4.heap.size w4 w') ∧ Hid (Below w6.heap.size w6 w'))
    (first | exact hS9.out _ _ HR9.out ((Below.refl _ _).drew) | (exact hS9.out _ _ (by go_split_ands; exact ⟨(by assumption), (by assumption), (by assumption)⟩) hbA) | go_keep)
    ((first
      | (go_at_call 23; (with_reducible refine (srel_nil _).mono ?_); rintro e wA ⟨rfl, hbA⟩)
      | (go_at_call 24; (with_reducible refine (escV_any P Q G X1 X2 X3 y ps E1 E2 A na ca C Z nz cz al zs han hzn hna hnz s hs9 cb HCB hQ _ ?_ ?_ ?_ ?_).mono ?_); (go_split_ands; exact kV.out _ (by assumption)); (go_split_ands; exact kD.out _ (by assumption)); (go_split_ands; exact kA.out _ (by assumption)); (go_split_ands; exact kZ.out _ (by assumption)); rintro e wA ⟨rfl, hbA⟩)
      | (go_at_call 25; (with_reducible refine (rescV_any P Q G X1 X2 X3 y ps E1 E2 A na ca C Z nz cz al zs han hzn hna hnz s hs9 cb HCB hQ _ ?_ ?_).mono ?_); (go_split_ands; exact kA.out _ (by assumption)); (go_split_ands; exact kZ.out _ (by assumption)); rintro e wA ⟨rfl, hbA⟩)))
  rename_i hHeld
  obtain ⟨x0, x1, x2, x3, x4, x5, x6, x7, x8, x9, x10, x11, x12, x13, x14, HN9_0, HN9_1, HN9_2⟩ := hHeld
  clear hS9 HR9 x0 x1 x2 x3 x4 x5 x6 x7 x8 x9 x10 x11 x12 x13 x14
  obtain ⟨zc0, zc1, zc2, zc3, zc4, zc5, zc6, zc7, zc8, zc9, zc10⟩ := kC.out _ HN9_0
  obtain ⟨kR_0, kR_1⟩ := kR.out _ HN9_1
  obtain ⟨kR2_0, kR2_1⟩ := kR2.out _ HN9_2
  have hbF := below_ext HBw.out HN9_0.out
  go_wp2
  go_ret
  exact ⟨rfl, hbF⟩
set_option maxHeartbeats 12800000 in
theorem er_ok (P Q G X1 X2 X3 : Int) (y ps k : Int) (s : ByteArray) (E1 E2 : Int) (A : Option Addr) (na ca : Nat) (C : Int) (Z : Option Addr) (nz cz : Nat) (al zs : List Int) (han : Hid (al.length = na)) (hzn : Hid (zs.length = nz)) (hQ : Q < 9223372036854775808) (hgr : Hid ((decide (100 < na) || decide (100 < nz)) = false)) (hl : s.size ≤ 100) (hna : na < 1000000) (hnz : nz < 1000000) (v r2 : Int) (hop : Hid (opE P Q G X1 X2 X3 k E1 E2 = r2)) (hov : Hid (opV P Q G X1 X2 X3 k E1 E2 = v)) (h1 : Hid (validB P Q G X1 X2 X3 = true)) (h2 : Hid (okB P Q y = true)) (h3 : Hid (okB P Q ps = true)) (h4 : Hid (memG P Q E1 = true)) (h5 : Hid (memG P Q E2 = true)) (va vb vd : Int) (ha : Hid (E2 * X2 % P = va)) (hb : Hid (pw y ((Q - 1) % Q) P = vb)) (hd : Hid (pw G ((Q - 1) % Q) P = vd)) (w : World) (hv : Hid (Vars w)) (hd0 : Hid (VarsD w)) (hA : Hid (Sl w A al)) (hZ : Hid (Sl w Z zs)) :
    Calls Tryz.prog 4 #[bv P Q G X1 X2 X3, .int .i64 y, .int .i64 ps, .int .i64 k, .string s, esV E1 E2 A na ca C Z nz cz] w fun e' w' => e' = .returned (.bool true) ∧ Below w.heap.size w w' := by
  have dl : decide ((100 : Int) < (s.size : Int)) = false := by simp; omega
  have hs9 : s.size ≤ 1000 := by omega
  obtain ⟨cb, hcb⟩ : ∃ x, esVer P Q G X1 X2 X3 y ps E1 E2 C (bys s) al zs = x := ⟨_, rfl⟩
  have HCB : Kp (esVer P Q G X1 X2 X3 y ps E1 E2 C (bys s) al zs = cb) := ⟨hcb⟩
  have ecc : (cb == cb) = true := by simp
  have ev : (v == v) = true := by simp
  have er2 : (r2 == r2) = true := by simp
  clear hcb
  obtain ⟨w0, HW, HBw, kC⟩ := stBE P Q G X1 X2 X3 E1 E2 A na ca C Z nz cz w
  have kV := Lib.hid (show ∀ u : World, Hid (Below w0.heap.size w0 u) → Hid (Vars u) from fun u h => Lib.hid ((hv.out.below) (below_ext HBw.out h.out)))
  have kD := Lib.hid (show ∀ u : World, Hid (Below w0.heap.size w0 u) → Hid (VarsD u) from fun u h => Lib.hid ((hd0.out.below) (below_ext HBw.out h.out)))
  have kA := Lib.hid (show ∀ u : World, Hid (Below w0.heap.size w0 u) → Hid (Sl u A al) from fun u h => Lib.hid ((hA.out.below) (below_ext HBw.out h.out)))
  have kZ := Lib.hid (show ∀ u : World, Hid (Below w0.heap.size w0 u) → Hid (Sl u Z zs) from fun u h => Lib.hid ((hZ.out.below) (below_ext HBw.out h.out)))
  have HB_0 : Hid (Below w0.heap.size w0 w0) := Lib.hid (Below.refl _ _)
  clear hv hd0 hA hZ
  go_enter Tryz.func4, Tryz.ntmps4
  go_wp2_with fail
  rw [HW.out]
  obtain ⟨zc0, zc1, zc2, zc3, zc4, zc5, zc6, zc7, zc8, zc9, zc10⟩ := kC.out _ HB_0
  go_wp2_with fail
  refine (awake36 _ (kV.out _ HB_0)).mono ?_
  rintro e w1 ⟨rfl, hb0⟩
  have HB_1 := Lib.hid (below_ext HB_0.out hb0)
  clear zc0 zc1 zc2 zc3 zc4 zc5 zc6 zc7 zc8 zc9 zc10
  clear hb0
  obtain ⟨zc0, zc1, zc2, zc3, zc4, zc5, zc6, zc7, zc8, zc9, zc10⟩ := kC.out _ HB_1
  go_wp2_with fail
  refine (great36_any E1 E2 A na ca C Z nz cz false hgr _).mono ?_
  rintro e w2 ⟨rfl, hb0⟩
  have HB_2 := Lib.hid (below_ext HB_1.out hb0)
  clear zc0 zc1 zc2 zc3 zc4 zc5 zc6 zc7 zc8 zc9 zc10
  clear hb0
  obtain ⟨zc0, zc1, zc2, zc3, zc4, zc5, zc6, zc7, zc8, zc9, zc10⟩ := kC.out _ HB_2
  go_wp2_with fail
  refine (escR_ok P Q G X1 X2 X3 y ps E1 E2 A na ca C Z nz cz h1 h2 h3 h4 h5 va vb vd ha hb hd hQ _ (kV.out _ HB_2)).mono ?_
  intro e w3 hE
  obtain ⟨gY, gA, gB, gR, rfl, hE, hb0⟩ := hE
  have HE := Lib.hid hE
  clear hE
  have HB_3 := Lib.hid (below_ext HB_2.out hb0)
  clear zc0 zc1 zc2 zc3 zc4 zc5 zc6 zc7 zc8 zc9 zc10
  clear hb0
  obtain ⟨zc0, zc1, zc2, zc3, zc4, zc5, zc6, zc7, zc8, zc9, zc10⟩ := kC.out _ HB_3
  have HB_w3_3 : Hid (Below w3.heap.size w3 w3) := Lib.hid (Below.refl _ _)
  have kE := Lib.hid (show ∀ u : World, Hid (Below w3.heap.size w3 u) → Hid (EsBlk ps va vb E1 vd gY gA gB gR u) from fun u h => Lib.hid (HE.out.below h.out))
  have hq := below_box0 w3 (relO (some ⟨gY, 0, none⟩) 2 2 (some ⟨gR, 0, none⟩) 2 2)
  have HB_4 := Lib.hid (below_ext HB_3.out hq)
  have HB_w3_4 := Lib.hid (below_ext HB_w3_3.out hq)
  have hc : (w3.alloc (relO (some ⟨gY, 0, none⟩) 2 2 (some ⟨gR, 0, none⟩) 2 2)).cell? ⟨w3.heap.size, 0, none⟩ = some (.slice (some ⟨gY, 0, none⟩) 2 2) ∧ (w3.alloc (relO (some ⟨gY, 0, none⟩) 2 2 (some ⟨gR, 0, none⟩) 2 2)).cell? ⟨w3.heap.size, 1, none⟩ = some (.slice (some ⟨gR, 0, none⟩) 2 2) := ⟨allocs_cell rfl (by rfl), allocs_cell rfl (by rfl)⟩
  have HC4 := Lib.hid hc
  clear zc0 zc1 zc2 zc3 zc4 zc5 zc6 zc7 zc8 zc9 zc10
  clear hq
  obtain ⟨zc0, zc1, zc2, zc3, zc4, zc5, zc6, zc7, zc8, zc9, zc10⟩ := kC.out _ HB_4
  obtain ⟨zq0, zq1⟩ := hc
  go_wp2_with fail
  obtain ⟨w4, hw⟩ : ∃ x, (w3.alloc (relO (some ⟨gY, 0, none⟩) 2 2 (some ⟨gR, 0, none⟩) 2 2)) = x := ⟨_, rfl⟩
  rw [hw] at HC4 HB_4 HB_w3_4 ⊢
  have HSN4 : Hid (w4.heap.size = w3.heap.size + 1) := Lib.hid (by rw [← hw]; simp)
  clear zc0 zc1 zc2 zc3 zc4 zc5 zc6 zc7 zc8 zc9 zc10 zq0 zq1
  clear hw
  have HB_w4_4 : Hid (Below w4.heap.size w4 w4) := Lib.hid (Below.refl _ _)
  have kR := Lib.hid (show ∀ u : World, Hid (Below w4.heap.size w4 u) → u.cell? ⟨w3.heap.size, 0, none⟩ = some (.slice (some ⟨gY, 0, none⟩) 2 2) ∧ u.cell? ⟨w3.heap.size, 1, none⟩ = some (.slice (some ⟨gR, 0, none⟩) 2 2) from fun u h => ⟨cell_below HC4.out.1 h.out, cell_below HC4.out.2 h.out⟩)
  obtain ⟨zc0, zc1, zc2, zc3, zc4, zc5, zc6, zc7, zc8, zc9, zc10⟩ := kC.out _ HB_4
  obtain ⟨kR_0, kR_1⟩ := kR.out _ HB_w4_4
  go_wp2_with fail
  refine (rescR_ok P Q G X1 X2 X3 y ps E1 E2 A na ca C Z nz cz h1 h2 h3 h4 h5 va vb vd ha hb hd hQ _).mono ?_
  intro e w5 hE
  obtain ⟨gY2, gA2, gB2, gR2, rfl, hE, hb0⟩ := hE
  have HE2 := Lib.hid hE
  clear hE
  have HB_5 := Lib.hid (below_ext HB_4.out hb0)
  have HB_w3_5 := Lib.hid (below_ext HB_w3_4.out hb0)
  have HB_w4_5 := Lib.hid (below_ext HB_w4_4.out hb0)
  clear zc0 zc1 zc2 zc3 zc4 zc5 zc6 zc7 zc8 zc9 zc10 kR_0 kR_1
  clear hb0
  obtain ⟨zc0, zc1, zc2, zc3, zc4, zc5, zc6, zc7, zc8, zc9, zc10⟩ := kC.out _ HB_5
  obtain ⟨kR_0, kR_1⟩ := kR.out _ HB_w4_5
  have HB_w5_5 : Hid (Below w5.heap.size w5 w5) := Lib.hid (Below.refl _ _)
  have kE2 := Lib.hid (show ∀ u : World, Hid (Below w5.heap.size w5 u) → Hid (EsBlk ps va vb E1 vd gY2 gA2 gB2 gR2 u) from fun u h => Lib.hid (HE2.out.below h.out))
  have hq := below_box0 w5 (relO (some ⟨gY2, 0, none⟩) 2 2 (some ⟨gR2, 0, none⟩) 2 2)
  have HB_6 := Lib.hid (below_ext HB_5.out hq)
  have HB_w3_6 := Lib.hid (below_ext HB_w3_5.out hq)
  have HB_w4_6 := Lib.hid (below_ext HB_w4_5.out hq)
  have HB_w5_6 := Lib.hid (below_ext HB_w5_5.out hq)
  have hc : (w5.alloc (relO (some ⟨gY2, 0, none⟩) 2 2 (some ⟨gR2, 0, none⟩) 2 2)).cell? ⟨w5.heap.size, 0, none⟩ = some (.slice (some ⟨gY2, 0, none⟩) 2 2) ∧ (w5.alloc (relO (some ⟨gY2, 0, none⟩) 2 2 (some ⟨gR2, 0, none⟩) 2 2)).cell? ⟨w5.heap.size, 1, none⟩ = some (.slice (some ⟨gR2, 0, none⟩) 2 2) := ⟨allocs_cell rfl (by rfl), allocs_cell rfl (by rfl)⟩
  have HC6 := Lib.hid hc
  clear zc0 zc1 zc2 zc3 zc4 zc5 zc6 zc7 zc8 zc9 zc10 kR_0 kR_1
  clear hq
  obtain ⟨zc0, zc1, zc2, zc3, zc4, zc5, zc6, zc7, zc8, zc9, zc10⟩ := kC.out _ HB_6
  obtain ⟨kR_0, kR_1⟩ := kR.out _ HB_w4_6
  obtain ⟨zq0, zq1⟩ := hc
  go_wp2_with fail
  obtain ⟨w6, hw⟩ : ∃ x, (w5.alloc (relO (some ⟨gY2, 0, none⟩) 2 2 (some ⟨gR2, 0, none⟩) 2 2)) = x := ⟨_, rfl⟩
  rw [hw] at HC6 HB_6 HB_w3_6 HB_w4_6 HB_w5_6 ⊢
  have HSN6 : Hid (w6.heap.size = w5.heap.size + 1) := Lib.hid (by rw [← hw]; simp)
  clear zc0 zc1 zc2 zc3 zc4 zc5 zc6 zc7 zc8 zc9 zc10 kR_0 kR_1 zq0 zq1
  clear hw
  have HB_w6_6 : Hid (Below w6.heap.size w6 w6) := Lib.hid (Below.refl _ _)
  have kR2 := Lib.hid (show ∀ u : World, Hid (Below w6.heap.size w6 u) → u.cell? ⟨w5.heap.size, 0, none⟩ = some (.slice (some ⟨gY2, 0, none⟩) 2 2) ∧ u.cell? ⟨w5.heap.size, 1, none⟩ = some (.slice (some ⟨gR2, 0, none⟩) 2 2) from fun u h => ⟨cell_below HC6.out.1 h.out, cell_below HC6.out.2 h.out⟩)
  obtain ⟨zc0, zc1, zc2, zc3, zc4, zc5, zc6, zc7, zc8, zc9, zc10⟩ := kC.out _ HB_6
  obtain ⟨kR_0, kR_1⟩ := kR.out _ HB_w4_6
  obtain ⟨kR2_0, kR2_1⟩ := kR2.out _ HB_w6_6
  go_wp2_with fail
  refine (opn_any P Q G X1 X2 X3 k E1 E2 A na ca C Z nz cz v r2 hop hov hQ _ (kV.out _ HB_6)).mono ?_
  rintro e w7 ⟨rfl, hb0⟩
  have HB_7 := Lib.hid (below_ext HB_6.out hb0)
  have HB_w3_7 := Lib.hid (below_ext HB_w3_6.out hb0)
  have HB_w4_7 := Lib.hid (below_ext HB_w4_6.out hb0)
  have HB_w5_7 := Lib.hid (below_ext HB_w5_6.out hb0)
  have HB_w6_7 := Lib.hid (below_ext HB_w6_6.out hb0)
  clear zc0 zc1 zc2 zc3 zc4 zc5 zc6 zc7 zc8 zc9 zc10 kR_0 kR_1 kR2_0 kR2_1
  clear hb0
  obtain ⟨zc0, zc1, zc2, zc3, zc4, zc5, zc6, zc7, zc8, zc9, zc10⟩ := kC.out _ HB_7
  obtain ⟨kR_0, kR_1⟩ := kR.out _ HB_w4_7
  obtain ⟨kR2_0, kR2_1⟩ := kR2.out _ HB_w6_7
  go_wp2_with fail
  refine (ropn_any P Q G X1 X2 X3 k E1 E2 A na ca C Z nz cz v r2 hop hov hQ _).mono ?_
  rintro e w8 ⟨rfl, hb0⟩
  have HB_8 := Lib.hid (below_ext HB_7.out hb0)
  have HB_w3_8 := Lib.hid (below_ext HB_w3_7.out hb0)
  have HB_w4_8 := Lib.hid (below_ext HB_w4_7.out hb0)
  have HB_w5_8 := Lib.hid (below_ext HB_w5_7.out hb0)
  have HB_w6_8 := Lib.hid (below_ext HB_w6_7.out hb0)
  clear zc0 zc1 zc2 zc3 zc4 zc5 zc6 zc7 zc8 zc9 zc10 kR_0 kR_1 kR2_0 kR2_1
  clear hb0
  obtain ⟨zc0, zc1, zc2, zc3, zc4, zc5, zc6, zc7, zc8, zc9, zc10⟩ := kC.out _ HB_8
  obtain ⟨kR_0, kR_1⟩ := kR.out _ HB_w4_8
  obtain ⟨kR2_0, kR2_1⟩ := kR2.out _ HB_w6_8
  go_wp2_with fail
  clear zc0 zc1 zc2 zc3 zc4 zc5 zc6 zc7 zc8 zc9 zc10 kR_0 kR_1 kR2_0 kR2_1
  have hS9 := Lib.hid (show ∀ u1 u2 : World, (Hid (Below w0.heap.size w0 u1) ∧ Hid (Below w3.heap.size w3 u1) ∧ Hid (Below w4.heap.size w4 u1) ∧ Hid (Below w5.heap.size w5 u1) ∧ Hid (Below w6.heap.size w6 u1)) → Below u1.heap.size u1 u2 → (u2.cell? ⟨w.heap.size, 0, none⟩ = some (.int .i64 P) ∧ u2.cell? ⟨w.heap.size, 1, none⟩ = some (.int .i64 Q) ∧ u2.cell? ⟨w.heap.size, 2, none⟩ = some (.int .i64 G) ∧ u2.cell? ⟨w.heap.size, 3, none⟩ = some (.int .i64 X1) ∧ u2.cell? ⟨w.heap.size, 4, none⟩ = some (.int .i64 X2) ∧ u2.cell? ⟨w.heap.size, 5, none⟩ = some (.int .i64 X3) ∧ u2.cell? ⟨w.heap.size + 1, 0, none⟩ = some (.int .i64 E1) ∧ u2.cell? ⟨w.heap.size + 1, 1, none⟩ = some (.int .i64 E2) ∧ u2.cell? ⟨w.heap.size + 1, 2, none⟩ = some (.slice A na ca) ∧ u2.cell? ⟨w.heap.size + 1, 3, none⟩ = some (.int .i64 C) ∧ u2.cell? ⟨w.heap.size + 1, 4, none⟩ = some (.slice Z nz cz) ∧ u2.cell? ⟨w3.heap.size, 0, none⟩ = some (.slice (some ⟨gY, 0, none⟩) 2 2) ∧ u2.cell? ⟨w3.heap.size, 1, none⟩ = some (.slice (some ⟨gR, 0, none⟩) 2 2) ∧ u2.cell? ⟨w5.heap.size, 0, none⟩ = some (.slice (some ⟨gY2, 0, none⟩) 2 2) ∧ u2.cell? ⟨w5.heap.size, 1, none⟩ = some (.slice (some ⟨gR2, 0, none⟩) 2 2) ∧ Hid (Below w0.heap.size w0 u2) ∧ Hid (Below w3.heap.size w3 u2) ∧ Hid (Below w4.heap.size w4 u2) ∧ Hid (Below w5.heap.size w5 u2) ∧ Hid (Below w6.heap.size w6 u2)) from fun u1 u2 h1 h2 => by
    obtain ⟨q0, q1, q2, q3, q4⟩ := h1
    have r0 := Lib.hid (below_ext q0.out h2)
    have r1 := Lib.hid (below_ext q1.out h2)
    have r2 := Lib.hid (below_ext q2.out h2)
    have r3 := Lib.hid (below_ext q3.out h2)
    have r4 := Lib.hid (below_ext q4.out h2)
    obtain ⟨y0, y1, y2, y3, y4, y5, y6, y7, y8, y9, y10⟩ := kC.out _ r0
    obtain ⟨kR_0, kR_1⟩ := kR.out _ r2
    obtain ⟨kR2_0, kR2_1⟩ := kR2.out _ r4
    exact ⟨y0, y1, y2, y3, y4, y5, y6, y7, y8, y9, y10, kR_0, kR_1, kR2_0, kR2_1, r0, r1, r2, r3, r4⟩)
  have HR9 := Lib.hid (show Hid (Below w0.heap.size w0 w8) ∧ Hid (Below w3.heap.size w3 w8) ∧ Hid (Below w4.heap.size w4 w8) ∧ Hid (Below w5.heap.size w5 w8) ∧ Hid (Below w6.heap.size w6 w8) from ⟨HB_8, HB_w3_8, HB_w4_8, HB_w5_8, HB_w6_8⟩)
  go_region_held3 (fun w' => w'.cell? ⟨w.heap.size, 0, none⟩ = some (.int .i64 P) ∧ w'.cell? ⟨w.heap.size, 1, none⟩ = some (.int .i64 Q) ∧ w'.cell? ⟨w.heap.size, 2, none⟩ = some (.int .i64 G) ∧ w'.cell? ⟨w.heap.size, 3, none⟩ = some (.int .i64 X1) ∧ w'.cell? ⟨w.heap.size, 4, none⟩ = some (.int .i64 X2) ∧ w'.cell? ⟨w.heap.size, 5, none⟩ = some (.int .i64 X3) ∧ w'.cell? ⟨w.heap.size + 1, 0, none⟩ = some (.int .i64 E1) ∧ w'.cell? ⟨w.heap.size + 1, 1, none⟩ = some (.int .i64 E2) ∧ w'.cell? ⟨w.heap.size + 1, 2, none⟩ = some (.slice A na ca) ∧ w'.cell? ⟨w.heap.size + 1, 3, none⟩ = some (.int .i64 C) ∧ w'.cell? ⟨w.heap.size + 1, 4, none⟩ = some (.slice Z nz cz) ∧ w'.cell? ⟨w3.heap.size, 0, none⟩ = some (.slice (some ⟨gY, 0, none⟩) 2 2) ∧ w'.cell? ⟨w3.heap.size, 1, none⟩ = some (.slice (some ⟨gR, 0, none⟩) 2 2) ∧ w'.cell? ⟨w5.heap.size, 0, none⟩ = some (.slice (some ⟨gY2, 0, none⟩) 2 2) ∧ w'.cell? ⟨w5.heap.size, 1, none⟩ = some (.slice (some ⟨gR2, 0, none⟩) 2 2) ∧ Hid (Below w0.heap.size w0 w') ∧ Hid (Below w3.heap.size w3 w') ∧ Hid (Below w4.heap.size w4 w') ∧ Hid (Below w5.heap.size w5 w') ∧ Hid (Below w6.heap.size w6 w'))
    (first | exact hS9.out _ _ HR9.out ((Below.refl _ _).drew) | (exact hS9.out _ _ (by go_split_ands; exact ⟨(by assumption), (by assumption), (by assumption), (by assumption), (by assumption)⟩) hbA) | go_keep)
    ((first
      | (go_at_call 23; (with_reducible refine (srel_ok ps va vb E1 vd gY gA gB gR gY2 gA2 gB2 gR2 _ ?_ ?_).mono ?_); (go_split_ands; exact kE.out _ (by assumption)); (go_split_ands; exact kE2.out _ (by assumption)); rintro e wA ⟨rfl, hbA⟩)
      | (go_at_call 24; (with_reducible refine (escV_any P Q G X1 X2 X3 y ps E1 E2 A na ca C Z nz cz al zs han hzn hna hnz s hs9 cb HCB hQ _ ?_ ?_ ?_ ?_).mono ?_); (go_split_ands; exact kV.out _ (by assumption)); (go_split_ands; exact kD.out _ (by assumption)); (go_split_ands; exact kA.out _ (by assumption)); (go_split_ands; exact kZ.out _ (by assumption)); rintro e wA ⟨rfl, hbA⟩)
      | (go_at_call 25; (with_reducible refine (rescV_any P Q G X1 X2 X3 y ps E1 E2 A na ca C Z nz cz al zs han hzn hna hnz s hs9 cb HCB hQ _ ?_ ?_).mono ?_); (go_split_ands; exact kA.out _ (by assumption)); (go_split_ands; exact kZ.out _ (by assumption)); rintro e wA ⟨rfl, hbA⟩)))
  rename_i hHeld
  obtain ⟨x0, x1, x2, x3, x4, x5, x6, x7, x8, x9, x10, x11, x12, x13, x14, HN9_0, HN9_1, HN9_2, HN9_3, HN9_4⟩ := hHeld
  clear hS9 HR9 x0 x1 x2 x3 x4 x5 x6 x7 x8 x9 x10 x11 x12 x13 x14
  obtain ⟨zc0, zc1, zc2, zc3, zc4, zc5, zc6, zc7, zc8, zc9, zc10⟩ := kC.out _ HN9_0
  obtain ⟨kR_0, kR_1⟩ := kR.out _ HN9_2
  obtain ⟨kR2_0, kR2_1⟩ := kR2.out _ HN9_4
  have hbF := below_ext HBw.out HN9_0.out
  go_wp2
  go_ret
  exact ⟨rfl, hbF⟩
/-- THE LAW: true for every input. -/
theorem er_true (P Q G X1 X2 X3 : Int) (y ps k : Int) (s : ByteArray) (E1 E2 : Int) (A : Option Addr) (na ca : Nat) (C : Int) (Z : Option Addr) (nz cz : Nat) (al zs : List Int) (han : Hid (al.length = na)) (hzn : Hid (zs.length = nz)) (hQ : Q < 9223372036854775808) (w : World) (hv : Hid (Vars w)) (hd0 : Hid (VarsD w)) (hA : Hid (Sl w A al)) (hZ : Hid (Sl w Z zs)) :
    Calls Tryz.prog 4 #[bv P Q G X1 X2 X3, .int .i64 y, .int .i64 ps, .int .i64 k, .string s, esV E1 E2 A na ca C Z nz cz] w fun e' w' => e' = .returned (.bool true) ∧ Below w.heap.size w w' := by
  cases hgr : (decide (100 < na) || decide (100 < nz)) with
  | true => exact er_great P Q G X1 X2 X3 y ps k s E1 E2 A na ca C Z nz cz al zs han hzn hQ (Lib.hid hgr) w hv hd0 hA hZ
  | false =>
    by_cases hl : 100 < s.size
    · exact er_long P Q G X1 X2 X3 y ps k s E1 E2 A na ca C Z nz cz al zs han hzn hQ (Lib.hid hgr) hl w hv hd0 hA hZ
    · have h9 : na ≤ 100 ∧ nz ≤ 100 := by simpa using hgr
      by_cases h0 : esE P Q G X1 X2 X3 y ps E1 E2 = 0
      · obtain ⟨h1, h2, h3, h4, h5⟩ := esE_zero h0
        exact er_ok P Q G X1 X2 X3 y ps k s E1 E2 A na ca C Z nz cz al zs han hzn hQ (Lib.hid hgr) (by omega) (by omega) (by omega) _ _ (Lib.hid rfl) (Lib.hid rfl) (Lib.hid h1) (Lib.hid h2) (Lib.hid h3) (Lib.hid h4) (Lib.hid h5) _ _ _ (Lib.hid rfl) (Lib.hid rfl) (Lib.hid rfl) w hv hd0 hA hZ
      · exact er_bad P Q G X1 X2 X3 y ps k s E1 E2 A na ca C Z nz cz al zs han hzn hQ (Lib.hid hgr) (by omega) (by omega) (by omega) _ _ (Lib.hid rfl) (Lib.hid rfl) _ (Lib.hid rfl) (by simpa using h0) w hv hd0 hA hZ
end Go.Proofs.YtojedhnglobddaaGreatDoor
