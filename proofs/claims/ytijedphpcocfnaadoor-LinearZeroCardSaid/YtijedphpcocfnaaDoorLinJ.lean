/- The reference of layer 17: Valid, whole. -/
import Derived.Test.YtijedphpcocfnaaDoorLinI
namespace Go.Proofs.YtijedphpcocfnaaDoor
open Go.RowKit SpM
set_option linter.unusedVariables false
set_option linter.unusedSimpArgs false
set_option maxRecDepth 20000

set_option maxHeartbeats 3200000 in
theorem rv17_g (P Q G : Int) (Y : Option Addr) (ys : List Int) (yn yc : Nat) (B : Option Addr) (rows : List Row) (bn bc : Nat) (HG : Hid (validG P Q G = false)) (hyn : Hid (ys.length = yn)) (hbn : Hid (rows.length = bn)) (hQ : Q < 9223372036854775808) (w : World) (hY : Hid (Sl w Y ys)) (hB : Hid (Rw w B rows)) :
    Calls Tryd.prog 14 #[gv P Q G, relV Y yn yc B bn bc] w fun e' w' => e' = .returned (.bool false) ∧ Below w.heap.size w w' := by
  obtain ⟨w0, hW⟩ : ∃ W, (w.alloc (gObj P Q G)).alloc (relO Y yn yc B bn bc) = W := ⟨_, rfl⟩
  have HBw : Hid (Below w.heap.size w w0) := Lib.hid (by rw [← hW]; exact below_two (Below.refl _ _))
  have HX0 : Hid (GBox w0 w.heap.size P Q G) := Lib.hid (by rw [← hW]; exact (gbox_alloc w P Q G).below (below_box0 _ _))
  have HR0 : Hid (RBox w0 (w.heap.size + 1) (.slice Y yn yc) (.slice B bn bc)) := Lib.hid (by rw [← hW]; exact rbox_alloc1 _ _ _ _ _)
  have HY0 : Hid (Sl w0 Y ys) := Lib.hid (hY.out.below HBw.out)
  have HW_0 : Hid (Rw w0 B rows) := Lib.hid (hB.out.below HBw.out)
  have HW := Lib.hid hW
  clear hW hY hB
  go_enter Tryd.func14, Tryd.ntmps14
  go_wp2_with fail
  rw [HW.out]
  go_wp2_with fail
  refine (rvalid_any P Q G false HG hQ _).mono ?_
  rintro e w1 ⟨rfl, hb0⟩
  have hb1 := below_ext (HBw.out) hb0
  have HX1 := Lib.hid (HX0.out.below hb0)
  have HR1 := Lib.hid (HR0.out.below hb0)
  have HY1 := Lib.hid (HY0.out.below hb0)
  have HW_1 := Lib.hid (HW_0.out.below hb0)
  clear hb0
  obtain ⟨c0, c1, c2⟩ := HX1.out
  obtain ⟨d0, d1⟩ := HR1.out
  go_wp2
  go_ret
  exact ⟨rfl, hb1⟩

set_option maxHeartbeats 3200000 in
theorem rv17_1 (P Q G : Int) (Y : Option Addr) (ys : List Int) (yn yc : Nat) (B : Option Addr) (rows : List Row) (bn bc : Nat) (HG : Hid (validG P Q G = true)) (h1 : yn < 1) (hyn : Hid (ys.length = yn)) (hbn : Hid (rows.length = bn)) (hQ : Q < 9223372036854775808) (w : World) (hY : Hid (Sl w Y ys)) (hB : Hid (Rw w B rows)) :
    Calls Tryd.prog 14 #[gv P Q G, relV Y yn yc B bn bc] w fun e' w' => e' = .returned (.bool false) ∧ Below w.heap.size w w' := by
  obtain ⟨w0, hW⟩ : ∃ W, (w.alloc (gObj P Q G)).alloc (relO Y yn yc B bn bc) = W := ⟨_, rfl⟩
  have HBw : Hid (Below w.heap.size w w0) := Lib.hid (by rw [← hW]; exact below_two (Below.refl _ _))
  have HX0 : Hid (GBox w0 w.heap.size P Q G) := Lib.hid (by rw [← hW]; exact (gbox_alloc w P Q G).below (below_box0 _ _))
  have HR0 : Hid (RBox w0 (w.heap.size + 1) (.slice Y yn yc) (.slice B bn bc)) := Lib.hid (by rw [← hW]; exact rbox_alloc1 _ _ _ _ _)
  have HY0 : Hid (Sl w0 Y ys) := Lib.hid (hY.out.below HBw.out)
  have HW_0 : Hid (Rw w0 B rows) := Lib.hid (hB.out.below HBw.out)
  have HW := Lib.hid hW
  clear hW hY hB
  have d1 : decide ((yn : Int) < 1) = true := by simp; omega
  go_enter Tryd.func14, Tryd.ntmps14
  go_wp2_with fail
  rw [HW.out]
  go_wp2_with fail
  refine (rvalid_any P Q G true HG hQ _).mono ?_
  rintro e w1 ⟨rfl, hb0⟩
  have hb1 := below_ext (HBw.out) hb0
  have HX1 := Lib.hid (HX0.out.below hb0)
  have HR1 := Lib.hid (HR0.out.below hb0)
  have HY1 := Lib.hid (HY0.out.below hb0)
  have HW_1 := Lib.hid (HW_0.out.below hb0)
  clear hb0
  obtain ⟨c0, c1, c2⟩ := HX1.out
  obtain ⟨d0, d1⟩ := HR1.out
  go_wp2
  go_ret
  exact ⟨rfl, hb1⟩

set_option maxHeartbeats 3200000 in
theorem rv17_2 (P Q G : Int) (Y : Option Addr) (ys : List Int) (yn yc : Nat) (B : Option Addr) (rows : List Row) (bn bc : Nat) (HG : Hid (validG P Q G = true)) (h1 : 1 ≤ yn) (h2 : 8 < yn) (hyn : Hid (ys.length = yn)) (hbn : Hid (rows.length = bn)) (hQ : Q < 9223372036854775808) (w : World) (hY : Hid (Sl w Y ys)) (hB : Hid (Rw w B rows)) :
    Calls Tryd.prog 14 #[gv P Q G, relV Y yn yc B bn bc] w fun e' w' => e' = .returned (.bool false) ∧ Below w.heap.size w w' := by
  obtain ⟨w0, hW⟩ : ∃ W, (w.alloc (gObj P Q G)).alloc (relO Y yn yc B bn bc) = W := ⟨_, rfl⟩
  have HBw : Hid (Below w.heap.size w w0) := Lib.hid (by rw [← hW]; exact below_two (Below.refl _ _))
  have HX0 : Hid (GBox w0 w.heap.size P Q G) := Lib.hid (by rw [← hW]; exact (gbox_alloc w P Q G).below (below_box0 _ _))
  have HR0 : Hid (RBox w0 (w.heap.size + 1) (.slice Y yn yc) (.slice B bn bc)) := Lib.hid (by rw [← hW]; exact rbox_alloc1 _ _ _ _ _)
  have HY0 : Hid (Sl w0 Y ys) := Lib.hid (hY.out.below HBw.out)
  have HW_0 : Hid (Rw w0 B rows) := Lib.hid (hB.out.below HBw.out)
  have HW := Lib.hid hW
  clear hW hY hB
  have d1 : decide ((yn : Int) < 1) = false := by simp; omega
  have d2 : decide ((8 : Int) < (yn : Int)) = true := by simp; omega
  go_enter Tryd.func14, Tryd.ntmps14
  go_wp2_with fail
  rw [HW.out]
  go_wp2_with fail
  refine (rvalid_any P Q G true HG hQ _).mono ?_
  rintro e w1 ⟨rfl, hb0⟩
  have hb1 := below_ext (HBw.out) hb0
  have HX1 := Lib.hid (HX0.out.below hb0)
  have HR1 := Lib.hid (HR0.out.below hb0)
  have HY1 := Lib.hid (HY0.out.below hb0)
  have HW_1 := Lib.hid (HW_0.out.below hb0)
  clear hb0
  obtain ⟨c0, c1, c2⟩ := HX1.out
  obtain ⟨d0, d1⟩ := HR1.out
  go_wp2
  go_ret
  exact ⟨rfl, hb1⟩

set_option maxHeartbeats 3200000 in
theorem rv17_3 (P Q G : Int) (Y : Option Addr) (ys : List Int) (yn yc : Nat) (B : Option Addr) (rows : List Row) (bn bc : Nat) (HG : Hid (validG P Q G = true)) (h1 : 1 ≤ yn) (h2 : yn ≤ 8) (h3 : bn ≠ yn) (hyn : Hid (ys.length = yn)) (hbn : Hid (rows.length = bn)) (hQ : Q < 9223372036854775808) (w : World) (hY : Hid (Sl w Y ys)) (hB : Hid (Rw w B rows)) :
    Calls Tryd.prog 14 #[gv P Q G, relV Y yn yc B bn bc] w fun e' w' => e' = .returned (.bool false) ∧ Below w.heap.size w w' := by
  obtain ⟨w0, hW⟩ : ∃ W, (w.alloc (gObj P Q G)).alloc (relO Y yn yc B bn bc) = W := ⟨_, rfl⟩
  have HBw : Hid (Below w.heap.size w w0) := Lib.hid (by rw [← hW]; exact below_two (Below.refl _ _))
  have HX0 : Hid (GBox w0 w.heap.size P Q G) := Lib.hid (by rw [← hW]; exact (gbox_alloc w P Q G).below (below_box0 _ _))
  have HR0 : Hid (RBox w0 (w.heap.size + 1) (.slice Y yn yc) (.slice B bn bc)) := Lib.hid (by rw [← hW]; exact rbox_alloc1 _ _ _ _ _)
  have HY0 : Hid (Sl w0 Y ys) := Lib.hid (hY.out.below HBw.out)
  have HW_0 : Hid (Rw w0 B rows) := Lib.hid (hB.out.below HBw.out)
  have HW := Lib.hid hW
  clear hW hY hB
  have d1 : decide ((yn : Int) < 1) = false := by simp; omega
  have d2 : decide ((8 : Int) < (yn : Int)) = false := by simp; omega
  have d3 : ((bn : Int) != (yn : Int)) = true := by simp; omega
  go_enter Tryd.func14, Tryd.ntmps14
  go_wp2_with fail
  rw [HW.out]
  go_wp2_with fail
  refine (rvalid_any P Q G true HG hQ _).mono ?_
  rintro e w1 ⟨rfl, hb0⟩
  have hb1 := below_ext (HBw.out) hb0
  have HX1 := Lib.hid (HX0.out.below hb0)
  have HR1 := Lib.hid (HR0.out.below hb0)
  have HY1 := Lib.hid (HY0.out.below hb0)
  have HW_1 := Lib.hid (HW_0.out.below hb0)
  clear hb0
  obtain ⟨c0, c1, c2⟩ := HX1.out
  obtain ⟨d0, d1⟩ := HR1.out
  go_wp2
  go_ret
  exact ⟨rfl, hb1⟩

set_option maxHeartbeats 3200000 in
theorem rv17_4 (P Q G : Int) (Y : Option Addr) (ys : List Int) (yc : Nat) (B : Option Addr) (rows : List Row) (bn bc : Nat) (n0 : Nat) (hN : Hid (rowN rows = n0)) (HG : Hid (validG P Q G = true)) (h1 : 1 ≤ bn) (h2 : bn ≤ 8) (h4 : n0 < 1) (hyn : Hid (ys.length = bn)) (hbn : Hid (rows.length = bn)) (hQ : Q < 9223372036854775808) (w : World) (hY : Hid (Sl w Y ys)) (hB : Hid (Rw w B rows)) :
    Calls Tryd.prog 14 #[gv P Q G, relV Y bn yc B bn bc] w fun e' w' => e' = .returned (.bool false) ∧ Below w.heap.size w w' := by
  obtain ⟨w0, hW⟩ : ∃ W, (w.alloc (gObj P Q G)).alloc (relO Y bn yc B bn bc) = W := ⟨_, rfl⟩
  have HBw : Hid (Below w.heap.size w w0) := Lib.hid (by rw [← hW]; exact below_two (Below.refl _ _))
  have HX0 : Hid (GBox w0 w.heap.size P Q G) := Lib.hid (by rw [← hW]; exact (gbox_alloc w P Q G).below (below_box0 _ _))
  have HR0 : Hid (RBox w0 (w.heap.size + 1) (.slice Y bn yc) (.slice B bn bc)) := Lib.hid (by rw [← hW]; exact rbox_alloc1 _ _ _ _ _)
  have HY0 : Hid (Sl w0 Y ys) := Lib.hid (hY.out.below HBw.out)
  have HW_0 : Hid (Rw w0 B rows) := Lib.hid (hB.out.below HBw.out)
  have HW := Lib.hid hW
  clear hW hY hB
  have d1 : decide ((bn : Int) < 1) = false := by simp; omega
  have d2 : decide ((8 : Int) < (bn : Int)) = false := by simp; omega
  have d4 : decide ((n0 : Int) < 1) = true := by simp; omega
  go_enter Tryd.func14, Tryd.ntmps14
  go_wp2_with fail
  rw [HW.out]
  go_wp2_with fail
  refine (rvalid_any P Q G true HG hQ _).mono ?_
  rintro e w1 ⟨rfl, hb0⟩
  have hb1 := below_ext (HBw.out) hb0
  have HX1 := Lib.hid (HX0.out.below hb0)
  have HR1 := Lib.hid (HR0.out.below hb0)
  have HY1 := Lib.hid (HY0.out.below hb0)
  have HW_1 := Lib.hid (HW_0.out.below hb0)
  clear hb0
  obtain ⟨c0, c1, c2⟩ := HX1.out
  obtain ⟨d0, d1⟩ := HR1.out
  go_wp2_with fail
  refine (runknowns_any Y bn yc B rows bn bc n0 hbn (by omega) hN _ HW_1).mono ?_
  rintro e w2 ⟨rfl, hb0⟩
  have hb2 := below_ext hb1 hb0
  have HX2 := Lib.hid (HX1.out.below hb0)
  have HR2 := Lib.hid (HR1.out.below hb0)
  have HY2 := Lib.hid (HY1.out.below hb0)
  have HW_2 := Lib.hid (HW_1.out.below hb0)
  clear c0 c1 c2 d0 d1 hb0
  obtain ⟨c0, c1, c2⟩ := HX2.out
  obtain ⟨d0, d1⟩ := HR2.out
  go_wp2
  go_ret
  exact ⟨rfl, hb2⟩

set_option maxHeartbeats 3200000 in
theorem rv17_5 (P Q G : Int) (Y : Option Addr) (ys : List Int) (yc : Nat) (B : Option Addr) (rows : List Row) (bn bc : Nat) (n0 : Nat) (hN : Hid (rowN rows = n0)) (HG : Hid (validG P Q G = true)) (h1 : 1 ≤ bn) (h2 : bn ≤ 8) (h4 : 1 ≤ n0) (h5 : 12 < n0) (hyn : Hid (ys.length = bn)) (hbn : Hid (rows.length = bn)) (hQ : Q < 9223372036854775808) (w : World) (hY : Hid (Sl w Y ys)) (hB : Hid (Rw w B rows)) :
    Calls Tryd.prog 14 #[gv P Q G, relV Y bn yc B bn bc] w fun e' w' => e' = .returned (.bool false) ∧ Below w.heap.size w w' := by
  obtain ⟨w0, hW⟩ : ∃ W, (w.alloc (gObj P Q G)).alloc (relO Y bn yc B bn bc) = W := ⟨_, rfl⟩
  have HBw : Hid (Below w.heap.size w w0) := Lib.hid (by rw [← hW]; exact below_two (Below.refl _ _))
  have HX0 : Hid (GBox w0 w.heap.size P Q G) := Lib.hid (by rw [← hW]; exact (gbox_alloc w P Q G).below (below_box0 _ _))
  have HR0 : Hid (RBox w0 (w.heap.size + 1) (.slice Y bn yc) (.slice B bn bc)) := Lib.hid (by rw [← hW]; exact rbox_alloc1 _ _ _ _ _)
  have HY0 : Hid (Sl w0 Y ys) := Lib.hid (hY.out.below HBw.out)
  have HW_0 : Hid (Rw w0 B rows) := Lib.hid (hB.out.below HBw.out)
  have HW := Lib.hid hW
  clear hW hY hB
  have d1 : decide ((bn : Int) < 1) = false := by simp; omega
  have d2 : decide ((8 : Int) < (bn : Int)) = false := by simp; omega
  have d4 : decide ((n0 : Int) < 1) = false := by simp; omega
  have d5 : decide ((12 : Int) < (n0 : Int)) = true := by simp; omega
  go_enter Tryd.func14, Tryd.ntmps14
  go_wp2_with fail
  rw [HW.out]
  go_wp2_with fail
  refine (rvalid_any P Q G true HG hQ _).mono ?_
  rintro e w1 ⟨rfl, hb0⟩
  have hb1 := below_ext (HBw.out) hb0
  have HX1 := Lib.hid (HX0.out.below hb0)
  have HR1 := Lib.hid (HR0.out.below hb0)
  have HY1 := Lib.hid (HY0.out.below hb0)
  have HW_1 := Lib.hid (HW_0.out.below hb0)
  clear hb0
  obtain ⟨c0, c1, c2⟩ := HX1.out
  obtain ⟨d0, d1⟩ := HR1.out
  go_wp2_with fail
  refine (runknowns_any Y bn yc B rows bn bc n0 hbn (by omega) hN _ HW_1).mono ?_
  rintro e w2 ⟨rfl, hb0⟩
  have hb2 := below_ext hb1 hb0
  have HX2 := Lib.hid (HX1.out.below hb0)
  have HR2 := Lib.hid (HR1.out.below hb0)
  have HY2 := Lib.hid (HY1.out.below hb0)
  have HW_2 := Lib.hid (HW_1.out.below hb0)
  clear c0 c1 c2 d0 d1 hb0
  obtain ⟨c0, c1, c2⟩ := HX2.out
  obtain ⟨d0, d1⟩ := HR2.out
  go_wp2
  go_ret
  exact ⟨rfl, hb2⟩

/-- THE CONTRACT. -/
theorem rvalid17_any (P Q G : Int) (Y : Option Addr) (ys : List Int) (yn yc : Nat) (B : Option Addr) (rows : List Row) (bn bc : Nat) (r : Bool) (hr : Hid (validR P Q G ys rows = r)) (hyn : Hid (ys.length = yn)) (hbn : Hid (rows.length = bn)) (hQ : Q < 9223372036854775808) (w : World) (hY : Hid (Sl w Y ys)) (hB : Hid (Rw w B rows)) :
    Calls Tryd.prog 14 #[gv P Q G, relV Y yn yc B bn bc] w fun e' w' => e' = .returned (.bool r) ∧ Below w.heap.size w w' := by
  have hr' := hr.out
  rw [validR, hyn.out, hbn.out] at hr'
  cases hg : validG P Q G with
  | false =>
    obtain rfl : r = false := by rw [← hr', hg, Bool.false_and]
    exact rv17_g P Q G Y ys yn yc B rows bn bc (Lib.hid hg) hyn hbn hQ w hY hB
  | true =>
    rw [hg, Bool.true_and] at hr'
    by_cases h1 : yn < 1
    · obtain rfl : r = false := by rw [← hr', decide_eq_false (show ¬ 1 ≤ yn by omega)]; rfl
      exact rv17_1 P Q G Y ys yn yc B rows bn bc (Lib.hid hg) h1 hyn hbn hQ w hY hB
    · rw [decide_eq_true (show 1 ≤ yn by omega), Bool.true_and] at hr'
      by_cases h2 : 8 < yn
      · obtain rfl : r = false := by rw [← hr', decide_eq_false (show ¬ yn ≤ 8 by omega)]; rfl
        exact rv17_2 P Q G Y ys yn yc B rows bn bc (Lib.hid hg) (by omega) h2 hyn hbn hQ w hY hB
      · rw [decide_eq_true (show yn ≤ 8 by omega), Bool.true_and] at hr'
        by_cases h3 : bn = yn
        · subst h3
          rw [decide_eq_true rfl, Bool.true_and] at hr'
          obtain ⟨n0, hn0⟩ : ∃ n, rowN rows = n := ⟨_, rfl⟩
          rw [hn0] at hr'
          by_cases h4 : n0 < 1
          · obtain rfl : r = false := by rw [← hr', decide_eq_false (show ¬ 1 ≤ n0 by omega), Bool.false_and, Bool.and_false]
            exact rv17_4 P Q G Y ys yc B rows bn bc n0 (Lib.hid hn0) (Lib.hid hg) (by omega) (by omega) h4 hyn hbn hQ w hY hB
          · rw [decide_eq_true (show 1 ≤ n0 by omega), Bool.true_and] at hr'
            by_cases h5 : 12 < n0
            · obtain rfl : r = false := by rw [← hr', decide_eq_false (show ¬ n0 ≤ 12 by omega), Bool.false_and, Bool.and_false]
              exact rv17_5 P Q G Y ys yc B rows bn bc n0 (Lib.hid hn0) (Lib.hid hg) (by omega) (by omega) (by omega) h5 hyn hbn hQ w hY hB
            · rw [decide_eq_true (show n0 ≤ 12 by omega), Bool.true_and] at hr'
              exact rvloop17 P Q G Y ys bn yc B rows bc n0 r (Lib.hid hg) (Lib.hid (by rw [leftV, List.drop_zero, List.drop_zero]; exact hr')) (Lib.hid hn0) hyn hbn (by omega) (by omega) (by omega) (by omega) hQ w hY hB
        · obtain rfl : r = false := by rw [← hr', decide_eq_false h3]; rfl
          exact rv17_3 P Q G Y ys yn yc B rows bn bc (Lib.hid hg) (by omega) (by omega) h3 hyn hbn hQ w hY hB
end Go.Proofs.YtijedphpcocfnaaDoor
