/- The example of the statements of layer 17. -/
import Derived.Test.YtijedphpcocfnaaDoorLinP
namespace Go.Proofs.YtijedphpcocfnaaDoor
open Go.RowKit SpM
set_option linter.unusedVariables false
set_option linter.unusedSimpArgs false
set_option maxRecDepth 100000

/-- the relation of the example, laid from block s on. -/
def ex17R (s : Nat) : List Row := [⟨some ⟨s + 1 + 1, 0, none⟩, 1, 1, [2]⟩, ⟨some ⟨s + 1 + 1 + 1, 0, none⟩, 1, 1, [4]⟩]
def Ex17 (w : World) (s : Nat) : Prop := GBox w s 23 11 4 ∧ Sl w (some ⟨s + 1, 0, none⟩) [8, 18] ∧ Rw w (some ⟨s + 1 + 1 + 1 + 1, 0, none⟩) (ex17R s) ∧ RBox w (s + 1 + 1 + 1 + 1 + 1) (.slice (some ⟨s + 1, 0, none⟩) 2 2) (.slice (some ⟨s + 1 + 1 + 1 + 1, 0, none⟩) 2 2)
theorem Ex17.below {w w' : World} {s : Nat} (h : Ex17 w s) (hb : Below w.heap.size w w') : Ex17 w' s := ⟨h.1.below hb, h.2.1.below hb, h.2.2.1.below hb, h.2.2.2.below hb⟩
/-- the world in which the relation is laid. -/
abbrev ex17W (w : World) (T1 T2 T3 : TypeId) : World := (((((w.alloc (gObj 23 11 4)).alloc (.cells #[.int .i64 8, .int .i64 18] T1)).alloc (.cells #[.int .i64 2] T1)).alloc (.cells #[.int .i64 4] T1)).alloc (.cells #[.slice (some ⟨w.heap.size + 1 + 1, 0, none⟩) 1 1, .slice (some ⟨w.heap.size + 1 + 1 + 1, 0, none⟩) 1 1] T2)).alloc (.cells #[.slice (some ⟨w.heap.size + 1, 0, none⟩) 2 2, .slice (some ⟨w.heap.size + 1 + 1 + 1 + 1, 0, none⟩) 2 2] T3)
theorem ex17_laid (w : World) (T1 T2 T3 : TypeId) : Ex17 (ex17W w T1 T2 T3) w.heap.size := by
  unfold ex17W
  obtain ⟨w1, h1⟩ : ∃ x, w.alloc (gObj 23 11 4) = x := ⟨_, rfl⟩
  have s1 : w1.heap.size = w.heap.size + 1 := by rw [← h1]; simp
  have g1 : GBox w1 w.heap.size 23 11 4 := by rw [← h1]; exact gbox_alloc _ _ _ _
  rw [h1]
  obtain ⟨w2, h2⟩ : ∃ x, w1.alloc (.cells #[.int .i64 8, .int .i64 18] T1) = x := ⟨_, rfl⟩
  have s2 : w2.heap.size = w.heap.size + 1 + 1 := by rw [← h2]; simp [s1]
  have b2 : Below w1.heap.size w1 w2 := by rw [← h2]; exact below_box0 _ _
  have y2 : Sl w2 (some ⟨w.heap.size + 1, 0, none⟩) [8, 18] := by rw [← h2, ← s1]; exact sl_of_cells (cells2 _ _ _ _)
  rw [h2]
  obtain ⟨w3, h3⟩ : ∃ x, w2.alloc (.cells #[.int .i64 2] T1) = x := ⟨_, rfl⟩
  have s3 : w3.heap.size = w.heap.size + 1 + 1 + 1 := by rw [← h3]; simp [s2]
  have b3 : Below w2.heap.size w2 w3 := by rw [← h3]; exact below_box0 _ _
  have r3 : Sl w3 (some ⟨w.heap.size + 1 + 1, 0, none⟩) [2] := by rw [← h3, ← s2]; exact sl_of_cells (cells1 _ _ _)
  rw [h3]
  obtain ⟨w4, h4⟩ : ∃ x, w3.alloc (.cells #[.int .i64 4] T1) = x := ⟨_, rfl⟩
  have s4 : w4.heap.size = w.heap.size + 1 + 1 + 1 + 1 := by rw [← h4]; simp [s3]
  have b4 : Below w3.heap.size w3 w4 := by rw [← h4]; exact below_box0 _ _
  have r4 : Sl w4 (some ⟨w.heap.size + 1 + 1 + 1, 0, none⟩) [4] := by rw [← h4, ← s3]; exact sl_of_cells (cells1 _ _ _)
  rw [h4]
  obtain ⟨w5, h5⟩ : ∃ x, w4.alloc (.cells #[.slice (some ⟨w.heap.size + 1 + 1, 0, none⟩) 1 1, .slice (some ⟨w.heap.size + 1 + 1 + 1, 0, none⟩) 1 1] T2) = x := ⟨_, rfl⟩
  have s5 : w5.heap.size = w.heap.size + 1 + 1 + 1 + 1 + 1 := by rw [← h5]; simp [s4]
  have b5 : Below w4.heap.size w4 w5 := by rw [← h5]; exact below_box0 _ _
  have r5 : RBox w5 (w.heap.size + 1 + 1 + 1 + 1) (.slice (some ⟨w.heap.size + 1 + 1, 0, none⟩) 1 1) (.slice (some ⟨w.heap.size + 1 + 1 + 1, 0, none⟩) 1 1) := by rw [← h5, ← s4]; exact rbox_alloc0 _ _ _ _
  rw [h5]
  have q3 := (r3.below b4).below b5
  have q4 := r4.below b5
  have rw5 : Rw w5 (some ⟨w.heap.size + 1 + 1 + 1 + 1, 0, none⟩) (ex17R w.heap.size) := fun k hk => by
    match k, hk with
    | 0, _ => exact ⟨⟨_, _, rfl, r5.1⟩, rfl, q3⟩
    | 1, _ => exact ⟨⟨_, _, rfl, r5.2⟩, rfl, q4⟩
  have b6 := below_box0 w5 (.cells #[.slice (some ⟨w.heap.size + 1, 0, none⟩) 2 2, .slice (some ⟨w.heap.size + 1 + 1 + 1 + 1, 0, none⟩) 2 2] T3)
  exact ⟨((((g1.below b2).below b3).below b4).below b5).below b6, (((y2.below b3).below b4).below b5).below b6, rw5.below b6, by rw [← s5]; exact rbox_alloc0 _ _ _ _⟩

theorem ex17_below (w : World) (T1 T2 T3 : TypeId) : Below w.heap.size w (ex17W w T1 T2 T3) :=
  (((((below_box0 w _).alloc (by simp) _).alloc (by simp; omega) _).alloc (by simp; omega) _).alloc (by simp; omega) _).alloc (by simp; omega) _
theorem ex17_size (w : World) (T1 T2 T3 : TypeId) : (ex17W w T1 T2 T3).heap.size = w.heap.size + 1 + 1 + 1 + 1 + 1 + 1 := by simp
theorem ex17_v (s : Nat) : Hid (validR 23 11 4 [8, 18] (ex17R s) = true) := Lib.hid (by kernel_rfl)
theorem ex17_c (s : Nat) : Hid (chkR 23 11 4 [8, 18] (ex17R s) [5] [] = 0) := Lib.hid (by kernel_rfl)
theorem ex17_p (s : Nat) : ((ex17R s).map fun r => prodF 23 1 r.xs [5]) = [9, 12] := by kernel_rfl
theorem ex17_h (s : Nat) : Hid (holdsB 23 11 4 [8, 18] (ex17R s) [3] = true) := Lib.hid (by kernel_rfl)
theorem ex17_r : rspL 11 2 [5] [3] 1 = [0] := by kernel_rfl
theorem ex17_s (s : Nat) : Hid ((simR 23 11 2 [8, 18] (ex17R s) [0] == [9, 12]) = true) := Lib.hid (by kernel_rfl)

set_option maxHeartbeats 12800000 in
theorem awake17 (w : World) (hv : Hid (Vars w)) :
    Calls Tryd.prog 10 #[] w fun e w' => e = .returned (.bool true) ∧ Below w.heap.size w w' := by
  obtain ⟨W6, hW6⟩ : ∃ x, ex17W w 3 24 27 = x := ⟨_, rfl⟩
  have HE6 : Hid (Ex17 W6 w.heap.size) := Lib.hid (by rw [← hW6]; exact ex17_laid _ _ _ _)
  have hb6 : Below w.heap.size w W6 := by rw [← hW6]; exact ex17_below _ _ _ _
  have hs6 : W6.heap.size = w.heap.size + 1 + 1 + 1 + 1 + 1 + 1 := by rw [← hW6]; exact ex17_size _ _ _ _
  have HW6 := Lib.hid hW6
  clear hW6
  have hq := below_box0 W6 (.cells #[.int .i64 5] 3)
  have HL := Lib.hid (sl_of_cells (cells1 W6 3 5))
  have HE7 := Lib.hid (HE6.out.below hq)
  have hb7 := below_ext hb6 hq
  have HV7 := Lib.hid (hv.out.below hb7)
  rw [hs6] at HL
  obtain ⟨W7, hW7⟩ : ∃ x, W6.alloc (.cells #[.int .i64 5] 3) = x := ⟨_, rfl⟩
  rw [hW7] at HL HE7 hb7 HV7
  have HW7 := Lib.hid hW7
  clear hq hW7
  go_enter Tryd.func10, Tryd.ntmps10
  go_wp2_with fail
  have hh := HW6.out
  dsimp only [ex17W, gObj] at hh
  rw [hh, HW7.out]
  clear hh
  refine (lcommit_ok 23 11 4 (some ⟨w.heap.size + 1, 0, none⟩) [8, 18] 2 2 (some ⟨w.heap.size + 1 + 1 + 1 + 1, 0, none⟩) (ex17R w.heap.size) 2 2 (some ⟨w.heap.size + 1 + 1 + 1 + 1 + 1 + 1, 0, none⟩) [5] 1 1 (ex17_c _) (Lib.hid rfl) (Lib.hid rfl) (Lib.hid rfl) (by omega) (by omega) _ HV7 (Lib.hid HE7.out.2.1) (Lib.hid HE7.out.2.2.1) HL).mono ?_
  rintro e w8 ⟨v, rfl, ho, hb0⟩
  rw [ex17_p] at ho
  obtain ⟨g, cap, rfl, _, hc⟩ := OwnL.cells ho (by simp)
  have hb8 := below_ext hb7 hb0
  have HE8 := Lib.hid (HE7.out.below hb0)
  have HV8 := Lib.hid (HV7.out.below hb0)
  have HC8 := Lib.hid hc
  clear hb0 ho hc
  obtain ⟨⟨c0, c1, c2⟩, _, _, d0, d1⟩ := HE8.out
  go_wp2_with fail
  have hq := (below_box0 w8 (.cells #[.int .i64 5] 3)).trans ((below_box0 (w8.alloc (.cells #[.int .i64 5] 3)) (.cells #[.int .i64 3] 3)).mono (by simp))
  have HK9 := Lib.hid ((sl_of_cells (cells1 w8 3 5)).below (below_box0 _ (.cells #[.int .i64 3] 3)))
  have HX9 := Lib.hid (sl_of_cells (cells1' w8 (.cells #[.int .i64 5] 3) 3 3))
  have HE9 := Lib.hid (HE8.out.below hq)
  have HV9 := Lib.hid (HV8.out.below hq)
  have HC9 := Lib.hid (HC8.out.below hq)
  have hb9 := below_ext hb8 hq
  clear hq c0 c1 c2 d0 d1
  refine (lrespond_ok 23 11 4 (some ⟨w8.heap.size, 0, none⟩) [5] 1 1 2 (some ⟨w8.heap.size + 1, 0, none⟩) [3] 1 (Lib.hid (by kernel_rfl)) (Lib.hid rfl) (Lib.hid rfl) (by omega) (by omega) (Lib.hid (by decide)) (Lib.hid (by decide)) (by omega) (by omega) (by omega) _ HV9 HK9 HX9).mono ?_
  rintro e w10 ⟨v, rfl, ho, hb0⟩
  rw [ex17_r] at ho
  obtain ⟨g2, cap2, rfl, _, hc⟩ := OwnL.cells ho (by simp)
  have hb10 := below_ext hb9 hb0
  have HE10 := Lib.hid (HE9.out.below hb0)
  have HV10 := Lib.hid (HV9.out.below hb0)
  have HC10 := Lib.hid (HC9.out.below hb0)
  have HD10 := Lib.hid hc
  clear hb0 ho hc
  obtain ⟨⟨c0, c1, c2⟩, _, _, d0, d1⟩ := HE10.out
  have hq := below_box0 w10 (.cells #[.int .i64 3] 3)
  have HN10 := Lib.hid (cells1 w10 3 3)
  have HEa := Lib.hid (HE10.out.below hq)
  have HVa := Lib.hid (HV10.out.below hq)
  have HCa := Lib.hid (HC10.out.below hq)
  have HDa := Lib.hid (HD10.out.below hq)
  have hba := below_ext hb10 hq
  obtain ⟨wx, hwx⟩ : ∃ x, w10.alloc (.cells #[.int .i64 3] 3) = x := ⟨_, rfl⟩
  rw [hwx] at HN10 HEa HVa HCa HDa hba
  have HWX := Lib.hid hwx
  clear hq hwx
  go_wp2_with fail
  rw [HWX.out]
  refine (lholds_any 23 11 4 (some ⟨w.heap.size + 1, 0, none⟩) [8, 18] 2 2 (some ⟨w.heap.size + 1 + 1 + 1 + 1, 0, none⟩) (ex17R w.heap.size) 2 2 (some ⟨w10.heap.size, 0, none⟩) [3] 1 1 true (ex17_h _) (Lib.hid rfl) (Lib.hid rfl) (Lib.hid rfl) (by omega) (by omega) _ HVa (Lib.hid HEa.out.2.1) (Lib.hid HEa.out.2.2.1) (Cells.toSl HN10)).mono ?_
  rintro e w11 ⟨rfl, hb0⟩
  have hb11 := below_ext hba hb0
  have HE11 := Lib.hid (HEa.out.below hb0)
  have HV11 := Lib.hid (HVa.out.below hb0)
  have HC11 := Lib.hid (HCa.out.below hb0)
  have HD11 := Lib.hid (HDa.out.below hb0)
  clear hb0 c0 c1 c2 d0 d1 HEa HVa HCa HDa hba HWX HN10
  obtain ⟨⟨c0, c1, c2⟩, _, _, d0, d1⟩ := HE11.out
  have hq := below_box0 w11 (.cells #[.int .i64 9, .int .i64 12] 3)
  have HN11 := Lib.hid (cells2 w11 3 9 12)
  have HEa := Lib.hid (HE11.out.below hq)
  have HVa := Lib.hid (HV11.out.below hq)
  have HCa := Lib.hid (HC11.out.below hq)
  have HDa := Lib.hid (HD11.out.below hq)
  have hba := below_ext hb11 hq
  obtain ⟨wx, hwx⟩ : ∃ x, w11.alloc (.cells #[.int .i64 9, .int .i64 12] 3) = x := ⟨_, rfl⟩
  rw [hwx] at HN11 HEa HVa HCa HDa hba
  have HWX := Lib.hid hwx
  clear hq hwx
  go_wp2_with fail
  rw [HWX.out]
  refine (eq_any g 2 cap [9, 12] (some ⟨w11.heap.size, 0, none⟩) [9, 12] 2 2 rfl (Lib.hid rfl) (by omega) (by omega) (by omega) _ HCa (Cells.toSl HN11)).mono ?_
  rintro e w12 ⟨rfl, hb0⟩
  have hb12 := below_ext hba hb0
  have HE12 := Lib.hid (HEa.out.below hb0)
  have HV12 := Lib.hid (HVa.out.below hb0)
  have HC12 := Lib.hid (HCa.out.below hb0)
  have HD12 := Lib.hid (HDa.out.below hb0)
  clear hb0 c0 c1 c2 d0 d1 HEa HVa HCa HDa hba HWX HN11
  obtain ⟨⟨c0, c1, c2⟩, _, _, d0, d1⟩ := HE12.out
  have hq := below_box0 w12 (.cells #[.int .i64 0] 3)
  have HN12 := Lib.hid (cells1 w12 3 0)
  have HEa := Lib.hid (HE12.out.below hq)
  have HVa := Lib.hid (HV12.out.below hq)
  have HCa := Lib.hid (HC12.out.below hq)
  have HDa := Lib.hid (HD12.out.below hq)
  have hba := below_ext hb12 hq
  obtain ⟨wx, hwx⟩ : ∃ x, w12.alloc (.cells #[.int .i64 0] 3) = x := ⟨_, rfl⟩
  rw [hwx] at HN12 HEa HVa HCa HDa hba
  have HWX := Lib.hid hwx
  clear hq hwx
  go_wp2_with fail
  rw [HWX.out]
  refine (eq_any g2 1 cap2 [0] (some ⟨w12.heap.size, 0, none⟩) [0] 1 1 rfl (Lib.hid rfl) (by omega) (by omega) (by omega) _ HDa (Cells.toSl HN12)).mono ?_
  rintro e w13 ⟨rfl, hb0⟩
  have hb13 := below_ext hba hb0
  have HE13 := Lib.hid (HEa.out.below hb0)
  have HV13 := Lib.hid (HVa.out.below hb0)
  have HC13 := Lib.hid (HCa.out.below hb0)
  have HD13 := Lib.hid (HDa.out.below hb0)
  clear hb0 c0 c1 c2 d0 d1 HEa HVa HCa HDa hba HWX HN12
  obtain ⟨⟨c0, c1, c2⟩, _, _, d0, d1⟩ := HE13.out
  go_wp2_with fail
  refine (lcheckp_ok 23 11 4 (some ⟨w.heap.size + 1, 0, none⟩) [8, 18] 2 2 (some ⟨w.heap.size + 1 + 1 + 1 + 1, 0, none⟩) (ex17R w.heap.size) 2 (some ⟨g, 0, none⟩) [9, 12] cap 2 (some ⟨g2, 0, none⟩) [0] 1 cap2 (ex17_v _) (Lib.hid rfl) (Lib.hid rfl) (Lib.hid rfl) (Lib.hid rfl) rfl (Lib.hid (by decide)) (by omega) (by omega) true (ex17_s _) (by omega) _ HV13 (Lib.hid HE13.out.2.1) (Lib.hid HE13.out.2.2.1) (Cells.toSl HC13) (Cells.toSl HD13)).mono ?_
  rintro e w14 ⟨rfl, hb0⟩
  have hbF := below_ext hb13 hb0
  clear hb0
  go_wp2
  go_ret
  exact ⟨rfl, hbF⟩
end Go.Proofs.YtijedphpcocfnaaDoor
