/- The walk of the law LinearHolds. -/
import Derived.Test.YtijedphpcocfnaaDoorLinQ
namespace Go.Proofs.YtijedphpcocfnaaDoor
open Go.RowKit SpM
set_option linter.unusedVariables false
set_option linter.unusedSimpArgs false
set_option maxRecDepth 100000

set_option maxHeartbeats 6400000 in
theorem lh_few (P Q G : Int) (Y : Option Addr) (ys : List Int) (yn yc : Nat) (B : Option Addr) (rows : List Row) (bn bc : Nat) (L : Option Addr) (ls : List Int) (ln lc : Nat) (hyn : Hid (ys.length = yn)) (hbn : Hid (rows.length = bn)) (hln : Hid (ls.length = ln)) (hf : Hid (fewB yn bn rows = false)) (w : World) (hv : Hid (Vars w)) (hY : Hid (Sl w Y ys)) (hB : Hid (Rw w B rows)) (hL : Hid (Sl w L ls)) :
    Calls Tryd.prog 3 #[gv P Q G, relV Y yn yc B bn bc, .slice L ln lc] w fun e' w' => e' = .returned (.bool true) ∧ Below w.heap.size w w' := by
  obtain ⟨w0, hW⟩ : ∃ W, (w.alloc (gObj P Q G)).alloc (relO Y yn yc B bn bc) = W := ⟨_, rfl⟩
  have HBw : Hid (Below w.heap.size w w0) := Lib.hid (by rw [← hW]; exact below_two (Below.refl _ _))
  have HX0 : Hid (GBox w0 w.heap.size P Q G) := Lib.hid (by rw [← hW]; exact (gbox_alloc w P Q G).below (below_box0 _ _))
  have HR0 : Hid (RBox w0 (w.heap.size + 1) (.slice Y yn yc) (.slice B bn bc)) := Lib.hid (by rw [← hW]; exact rbox_alloc1 _ _ _ _ _)
  have HY0 : Hid (Sl w0 Y ys) := Lib.hid (hY.out.below HBw.out)
  have HW_0 : Hid (Rw w0 B rows) := Lib.hid (hB.out.below HBw.out)
  have HL0 : Hid (Sl w0 L ls) := Lib.hid (hL.out.below HBw.out)
  have HV0 : Hid (Vars w0) := Lib.hid (hv.out.below HBw.out)
  have HW := Lib.hid hW
  clear hW hY hB hL hv
  go_enter Tryd.func3, Tryd.ntmps3
  go_wp2_with fail
  rw [HW.out]
  go_wp2_with fail
  refine (awake17 _ HV0).mono ?_
  rintro e w1 ⟨rfl, hb0⟩
  have hb1 := below_ext (HBw.out) hb0
  have HV1 := Lib.hid (HV0.out.below hb0)
  have HX1 := Lib.hid (HX0.out.below hb0)
  have HR1 := Lib.hid (HR0.out.below hb0)
  have HY1 := Lib.hid (HY0.out.below hb0)
  have HW_1 := Lib.hid (HW_0.out.below hb0)
  have HL1 := Lib.hid (HL0.out.below hb0)
  clear hb0
  obtain ⟨c0, c1, c2⟩ := HX1.out
  obtain ⟨d0, d1⟩ := HR1.out
  go_wp2_with fail
  refine (few_any Y yn yc B rows bn bc false hf hbn _ HW_1).mono ?_
  rintro e w2 ⟨rfl, hb0⟩
  have hb2 := below_ext hb1 hb0
  have HV2 := Lib.hid (HV1.out.below hb0)
  have HX2 := Lib.hid (HX1.out.below hb0)
  have HR2 := Lib.hid (HR1.out.below hb0)
  have HY2 := Lib.hid (HY1.out.below hb0)
  have HW_2 := Lib.hid (HW_1.out.below hb0)
  have HL2 := Lib.hid (HL1.out.below hb0)
  clear c0 c1 c2 d0 d1 hb0
  obtain ⟨c0, c1, c2⟩ := HX2.out
  obtain ⟨d0, d1⟩ := HR2.out
  go_wp2
  go_ret
  exact ⟨rfl, hb2⟩

set_option maxHeartbeats 6400000 in
theorem lh_long (P Q G : Int) (Y : Option Addr) (ys : List Int) (yn yc : Nat) (B : Option Addr) (rows : List Row) (bn bc : Nat) (L : Option Addr) (ls : List Int) (ln lc : Nat) (hyn : Hid (ys.length = yn)) (hbn : Hid (rows.length = bn)) (hln : Hid (ls.length = ln)) (hf : Hid (fewB yn bn rows = true)) (hl : 30 < ln) (w : World) (hv : Hid (Vars w)) (hY : Hid (Sl w Y ys)) (hB : Hid (Rw w B rows)) (hL : Hid (Sl w L ls)) :
    Calls Tryd.prog 3 #[gv P Q G, relV Y yn yc B bn bc, .slice L ln lc] w fun e' w' => e' = .returned (.bool true) ∧ Below w.heap.size w w' := by
  obtain ⟨w0, hW⟩ : ∃ W, (w.alloc (gObj P Q G)).alloc (relO Y yn yc B bn bc) = W := ⟨_, rfl⟩
  have HBw : Hid (Below w.heap.size w w0) := Lib.hid (by rw [← hW]; exact below_two (Below.refl _ _))
  have HX0 : Hid (GBox w0 w.heap.size P Q G) := Lib.hid (by rw [← hW]; exact (gbox_alloc w P Q G).below (below_box0 _ _))
  have HR0 : Hid (RBox w0 (w.heap.size + 1) (.slice Y yn yc) (.slice B bn bc)) := Lib.hid (by rw [← hW]; exact rbox_alloc1 _ _ _ _ _)
  have HY0 : Hid (Sl w0 Y ys) := Lib.hid (hY.out.below HBw.out)
  have HW_0 : Hid (Rw w0 B rows) := Lib.hid (hB.out.below HBw.out)
  have HL0 : Hid (Sl w0 L ls) := Lib.hid (hL.out.below HBw.out)
  have HV0 : Hid (Vars w0) := Lib.hid (hv.out.below HBw.out)
  have HW := Lib.hid hW
  clear hW hY hB hL hv
  have dl : decide ((30 : Int) < (ln : Int)) = true := by simp; omega
  go_enter Tryd.func3, Tryd.ntmps3
  go_wp2_with fail
  rw [HW.out]
  go_wp2_with fail
  refine (awake17 _ HV0).mono ?_
  rintro e w1 ⟨rfl, hb0⟩
  have hb1 := below_ext (HBw.out) hb0
  have HV1 := Lib.hid (HV0.out.below hb0)
  have HX1 := Lib.hid (HX0.out.below hb0)
  have HR1 := Lib.hid (HR0.out.below hb0)
  have HY1 := Lib.hid (HY0.out.below hb0)
  have HW_1 := Lib.hid (HW_0.out.below hb0)
  have HL1 := Lib.hid (HL0.out.below hb0)
  clear hb0
  obtain ⟨c0, c1, c2⟩ := HX1.out
  obtain ⟨d0, d1⟩ := HR1.out
  go_wp2_with fail
  refine (few_any Y yn yc B rows bn bc true hf hbn _ HW_1).mono ?_
  rintro e w2 ⟨rfl, hb0⟩
  have hb2 := below_ext hb1 hb0
  have HV2 := Lib.hid (HV1.out.below hb0)
  have HX2 := Lib.hid (HX1.out.below hb0)
  have HR2 := Lib.hid (HR1.out.below hb0)
  have HY2 := Lib.hid (HY1.out.below hb0)
  have HW_2 := Lib.hid (HW_1.out.below hb0)
  have HL2 := Lib.hid (HL1.out.below hb0)
  clear c0 c1 c2 d0 d1 hb0
  obtain ⟨c0, c1, c2⟩ := HX2.out
  obtain ⟨d0, d1⟩ := HR2.out
  go_wp2
  go_ret
  exact ⟨rfl, hb2⟩

set_option maxHeartbeats 12800000 in
theorem lh_bad (P Q G : Int) (Y : Option Addr) (ys : List Int) (yn yc : Nat) (B : Option Addr) (rows : List Row) (bn bc : Nat) (L : Option Addr) (ls : List Int) (ln lc : Nat) (hyn : Hid (ys.length = yn)) (hbn : Hid (rows.length = bn)) (hln : Hid (ls.length = ln)) (hQ : Q < 9223372036854775808) (hf : Hid (fewB yn bn rows = true)) (hl : ln ≤ 30) (r : Int) (hr : Hid (chkR P Q G ys rows ls [] = r)) (hr2 : Hid (chkR P Q G ys rows ls [0] = r)) (hne : (r != 0) = true) (w : World) (hv : Hid (Vars w)) (hY : Hid (Sl w Y ys)) (hB : Hid (Rw w B rows)) (hL : Hid (Sl w L ls)) :
    Calls Tryd.prog 3 #[gv P Q G, relV Y yn yc B bn bc, .slice L ln lc] w fun e' w' => e' = .returned (.bool true) ∧ Below w.heap.size w w' := by
  obtain ⟨w0, hW⟩ : ∃ W, (w.alloc (gObj P Q G)).alloc (relO Y yn yc B bn bc) = W := ⟨_, rfl⟩
  have HBw : Hid (Below w.heap.size w w0) := Lib.hid (by rw [← hW]; exact below_two (Below.refl _ _))
  have HX0 : Hid (GBox w0 w.heap.size P Q G) := Lib.hid (by rw [← hW]; exact (gbox_alloc w P Q G).below (below_box0 _ _))
  have HR0 : Hid (RBox w0 (w.heap.size + 1) (.slice Y yn yc) (.slice B bn bc)) := Lib.hid (by rw [← hW]; exact rbox_alloc1 _ _ _ _ _)
  have HY0 : Hid (Sl w0 Y ys) := Lib.hid (hY.out.below HBw.out)
  have HW_0 : Hid (Rw w0 B rows) := Lib.hid (hB.out.below HBw.out)
  have HL0 : Hid (Sl w0 L ls) := Lib.hid (hL.out.below HBw.out)
  have HV0 : Hid (Vars w0) := Lib.hid (hv.out.below HBw.out)
  have HW := Lib.hid hW
  clear hW hY hB hL hv
  have dl : decide ((30 : Int) < (ln : Int)) = false := by simp; omega
  obtain ⟨vb, hvb⟩ : ∃ b, validR P Q G ys rows = b := ⟨_, rfl⟩
  obtain ⟨hb, hhb⟩ : ∃ b, holdsB P Q G ys rows ls = b := ⟨_, rfl⟩
  have HVB := Lib.hid hvb
  have HHB := Lib.hid hhb
  have evv : (vb != vb) = false := by simp
  have ehh : (hb != hb) = false := by simp
  clear hvb hhb
  go_enter Tryd.func3, Tryd.ntmps3
  go_wp2_with fail
  rw [HW.out]
  go_wp2_with fail
  refine (awake17 _ HV0).mono ?_
  rintro e w1 ⟨rfl, hb0⟩
  have hb1 := below_ext (HBw.out) hb0
  have HV1 := Lib.hid (HV0.out.below hb0)
  have HX1 := Lib.hid (HX0.out.below hb0)
  have HR1 := Lib.hid (HR0.out.below hb0)
  have HY1 := Lib.hid (HY0.out.below hb0)
  have HW_1 := Lib.hid (HW_0.out.below hb0)
  have HL1 := Lib.hid (HL0.out.below hb0)
  clear hb0
  obtain ⟨c0, c1, c2⟩ := HX1.out
  obtain ⟨d0, d1⟩ := HR1.out
  go_wp2_with fail
  refine (few_any Y yn yc B rows bn bc true hf hbn _ HW_1).mono ?_
  rintro e w2 ⟨rfl, hb0⟩
  have hb2 := below_ext hb1 hb0
  have HV2 := Lib.hid (HV1.out.below hb0)
  have HX2 := Lib.hid (HX1.out.below hb0)
  have HR2 := Lib.hid (HR1.out.below hb0)
  have HY2 := Lib.hid (HY1.out.below hb0)
  have HW_2 := Lib.hid (HW_1.out.below hb0)
  have HL2 := Lib.hid (HL1.out.below hb0)
  clear c0 c1 c2 d0 d1 hb0
  obtain ⟨c0, c1, c2⟩ := HX2.out
  obtain ⟨d0, d1⟩ := HR2.out
  go_wp2_with fail
  refine (lcommit_bad P Q G Y ys yn yc B rows bn bc L ls ln lc r hr hne hyn hbn hln (by omega) hQ _ HV2 HY2 HW_2 HL2).mono ?_
  rintro e w3 ⟨rfl, hb0⟩
  have hb3 := below_ext hb2 hb0
  have HV3 := Lib.hid (HV2.out.below hb0)
  have HX3 := Lib.hid (HX2.out.below hb0)
  have HR3 := Lib.hid (HR2.out.below hb0)
  have HY3 := Lib.hid (HY2.out.below hb0)
  have HW_3 := Lib.hid (HW_2.out.below hb0)
  have HL3 := Lib.hid (HL2.out.below hb0)
  clear c0 c1 c2 d0 d1 hb0
  obtain ⟨c0, c1, c2⟩ := HX3.out
  obtain ⟨d0, d1⟩ := HR3.out
  have hOV := Lib.hid (show ∀ u1 : World, Hid (Below w3.heap.size w3 u1) → Hid (Vars u1) from fun u1 h1 => Lib.hid (HV3.out.below h1.out))
  have hOY := Lib.hid (show ∀ u1 : World, Hid (Below w3.heap.size w3 u1) → Hid (Sl u1 Y ys) from fun u1 h1 => Lib.hid (HY3.out.below h1.out))
  have hOB := Lib.hid (show ∀ u1 : World, Hid (Below w3.heap.size w3 u1) → Hid (Rw u1 B rows) from fun u1 h1 => Lib.hid (HW_3.out.below h1.out))
  have hOL := Lib.hid (show ∀ u1 : World, Hid (Below w3.heap.size w3 u1) → Hid (Sl u1 L ls) from fun u1 h1 => Lib.hid (HL3.out.below h1.out))
  have hS := Lib.hid (show ∀ u1 u2 : World, Hid (Below w3.heap.size w3 u1) → Below u1.heap.size u1 u2 → (u2.cell? ⟨w.heap.size, 0, none⟩ = some (.int .i64 P) ∧ u2.cell? ⟨w.heap.size, 1, none⟩ = some (.int .i64 Q) ∧ u2.cell? ⟨w.heap.size, 2, none⟩ = some (.int .i64 G) ∧ u2.cell? ⟨w.heap.size + 1, 0, none⟩ = some (.slice Y yn yc) ∧ u2.cell? ⟨w.heap.size + 1, 1, none⟩ = some (.slice B bn bc) ∧ Hid (Below w3.heap.size w3 u2)) from fun u1 u2 h1 h2 => have h3 := below_ext h1.out h2; ⟨(HX3.out.below h3).1, (HX3.out.below h3).2.1, (HX3.out.below h3).2.2, (HR3.out.below h3).1, (HR3.out.below h3).2, Lib.hid h3⟩)
  have hR : Hid (Below w3.heap.size w3 w3) := Lib.hid (Below.refl _ _)
  clear c0 c1 c2 d0 d1
  go_wp2_with fail
  go_region_held3 (fun w' => w'.cell? ⟨w.heap.size, 0, none⟩ = some (.int .i64 P) ∧ w'.cell? ⟨w.heap.size, 1, none⟩ = some (.int .i64 Q) ∧ w'.cell? ⟨w.heap.size, 2, none⟩ = some (.int .i64 G) ∧ w'.cell? ⟨w.heap.size + 1, 0, none⟩ = some (.slice Y yn yc) ∧ w'.cell? ⟨w.heap.size + 1, 1, none⟩ = some (.slice B bn bc) ∧ Hid (Below w3.heap.size w3 w'))
    (first | exact hS.out _ _ hR ((Below.refl w3.heap.size w3).drew) | (go_split_ands; exact hS.out _ _ (by assumption) hbA) | go_keep)
    ((first
      | (go_at_call 13; (with_reducible refine (lvalid_any P Q G Y ys yn yc B rows bn bc vb HVB hyn hbn hQ _ ?_ ?_ ?_).mono ?_); (go_split_ands; exact hOV.out _ (by assumption)); (go_split_ands; exact hOY.out _ (by assumption)); (go_split_ands; exact hOB.out _ (by assumption)); rintro e wA ⟨rfl, hbA⟩)
      | (go_at_call 14; (with_reducible refine (rvalid17_any P Q G Y ys yn yc B rows bn bc vb HVB hyn hbn hQ _ ?_ ?_).mono ?_); (go_split_ands; exact hOY.out _ (by assumption)); (go_split_ands; exact hOB.out _ (by assumption)); rintro e wA ⟨rfl, hbA⟩)
      | (go_at_call 15; (with_reducible refine (lholds_any P Q G Y ys yn yc B rows bn bc L ls ln lc hb HHB hyn hbn hln (by omega) hQ _ ?_ ?_ ?_ ?_).mono ?_); (go_split_ands; exact hOV.out _ (by assumption)); (go_split_ands; exact hOY.out _ (by assumption)); (go_split_ands; exact hOB.out _ (by assumption)); (go_split_ands; exact hOL.out _ (by assumption)); rintro e wA ⟨rfl, hbA⟩)
      | (go_at_call 16; (with_reducible refine (rholds_any P Q G Y ys yn yc B rows bn bc L ls ln lc hb HHB hyn hbn hln (by omega) hQ _ ?_ ?_ ?_).mono ?_); (go_split_ands; exact hOY.out _ (by assumption)); (go_split_ands; exact hOB.out _ (by assumption)); (go_split_ands; exact hOL.out _ (by assumption)); rintro e wA ⟨rfl, hbA⟩)))
  rename_i hHeld
  obtain ⟨x0, x1, x2, x3, x4, hbQ⟩ := hHeld
  have hb4 := below_ext hb3 hbQ.out
  have HV4 := Lib.hid (HV3.out.below hbQ.out)
  have HX4 := Lib.hid (HX3.out.below hbQ.out)
  have HR4 := Lib.hid (HR3.out.below hbQ.out)
  have HY4 := Lib.hid (HY3.out.below hbQ.out)
  have HW_4 := Lib.hid (HW_3.out.below hbQ.out)
  have HL4 := Lib.hid (HL3.out.below hbQ.out)
  clear x0 x1 x2 x3 x4 hS hR hOV hOY hOB hOL
  obtain ⟨c0, c1, c2⟩ := HX4.out
  obtain ⟨d0, d1⟩ := HR4.out
  go_wp2_with fail
  refine (fault_any P Q G Y ys yn yc B rows bn bc L ls ln lc 0 r hr2 hyn hbn hln (by omega) hQ _ HY4 HW_4 HL4).mono ?_
  rintro e w5 ⟨rfl, hb0⟩
  have hb5 := below_ext hb4 hb0
  have HV5 := Lib.hid (HV4.out.below hb0)
  have HX5 := Lib.hid (HX4.out.below hb0)
  have HR5 := Lib.hid (HR4.out.below hb0)
  have HY5 := Lib.hid (HY4.out.below hb0)
  have HW_5 := Lib.hid (HW_4.out.below hb0)
  have HL5 := Lib.hid (HL4.out.below hb0)
  clear c0 c1 c2 d0 d1 hb0
  obtain ⟨c0, c1, c2⟩ := HX5.out
  obtain ⟨d0, d1⟩ := HR5.out
  go_wp2
  go_ret
  exact ⟨rfl, hb5⟩

set_option maxHeartbeats 12800000 in
theorem lh_ok (P Q G : Int) (Y : Option Addr) (ys : List Int) (yn yc : Nat) (B : Option Addr) (rows : List Row) (bn bc : Nat) (L : Option Addr) (ls : List Int) (ln lc : Nat) (hyn : Hid (ys.length = yn)) (hbn : Hid (rows.length = bn)) (hln : Hid (ls.length = ln)) (hQ : Q < 9223372036854775808) (hf : Hid (fewB yn bn rows = true)) (hl : ln ≤ 30) (hr : Hid (chkR P Q G ys rows ls [] = 0)) (hr2 : Hid (chkR P Q G ys rows ls [0] = 0)) (w : World) (hv : Hid (Vars w)) (hY : Hid (Sl w Y ys)) (hB : Hid (Rw w B rows)) (hL : Hid (Sl w L ls)) :
    Calls Tryd.prog 3 #[gv P Q G, relV Y yn yc B bn bc, .slice L ln lc] w fun e' w' => e' = .returned (.bool true) ∧ Below w.heap.size w w' := by
  obtain ⟨k1, k2, k3, k4⟩ := chkR_0 hr.out
  obtain ⟨v1, v2, v3, v4, v5, v6, v7, v8⟩ := validR_parts k1
  obtain ⟨hp2, hp, hq3, hqp⟩ := validG_P v1
  rw [← k2, hln.out] at v8
  have HRB := Lib.hid v8
  have HLS := Lib.hid k3
  obtain rfl : bn = yn := by rw [← hbn.out, ← hyn.out]; exact v4
  have hbp : 0 < bn := by rw [← hbn.out]; omega
  have hb8 : bn ≤ 8 := by rw [← hbn.out]; omega
  have hzl : (rows.map fun r => prodF P 1 r.xs ls).length = bn := by rw [List.length_map]; exact hbn.out
  clear k1 k2 k3 k4 v1 v2 v3 v4 v5 v6 v7 v8
  obtain ⟨w0, hW⟩ : ∃ W, (w.alloc (gObj P Q G)).alloc (relO Y bn yc B bn bc) = W := ⟨_, rfl⟩
  have HBw : Hid (Below w.heap.size w w0) := Lib.hid (by rw [← hW]; exact below_two (Below.refl _ _))
  have HX0 : Hid (GBox w0 w.heap.size P Q G) := Lib.hid (by rw [← hW]; exact (gbox_alloc w P Q G).below (below_box0 _ _))
  have HR0 : Hid (RBox w0 (w.heap.size + 1) (.slice Y bn yc) (.slice B bn bc)) := Lib.hid (by rw [← hW]; exact rbox_alloc1 _ _ _ _ _)
  have HY0 : Hid (Sl w0 Y ys) := Lib.hid (hY.out.below HBw.out)
  have HW_0 : Hid (Rw w0 B rows) := Lib.hid (hB.out.below HBw.out)
  have HL0 : Hid (Sl w0 L ls) := Lib.hid (hL.out.below HBw.out)
  have HV0 : Hid (Vars w0) := Lib.hid (hv.out.below HBw.out)
  have HW := Lib.hid hW
  clear hW hY hB hL hv
  have dl : decide ((30 : Int) < (ln : Int)) = false := by simp; omega
  obtain ⟨vb, hvb⟩ : ∃ b, validR P Q G ys rows = b := ⟨_, rfl⟩
  obtain ⟨hb, hhb⟩ : ∃ b, holdsB P Q G ys rows ls = b := ⟨_, rfl⟩
  have HVB := Lib.hid hvb
  have HHB := Lib.hid hhb
  have evv : (vb != vb) = false := by simp
  have ehh : (hb != hb) = false := by simp
  clear hvb hhb
  go_enter Tryd.func3, Tryd.ntmps3
  go_wp2_with fail
  rw [HW.out]
  go_wp2_with fail
  refine (awake17 _ HV0).mono ?_
  rintro e w1 ⟨rfl, hb0⟩
  have hb1 := below_ext (HBw.out) hb0
  have HV1 := Lib.hid (HV0.out.below hb0)
  have HX1 := Lib.hid (HX0.out.below hb0)
  have HR1 := Lib.hid (HR0.out.below hb0)
  have HY1 := Lib.hid (HY0.out.below hb0)
  have HW_1 := Lib.hid (HW_0.out.below hb0)
  have HL1 := Lib.hid (HL0.out.below hb0)
  clear hb0
  obtain ⟨c0, c1, c2⟩ := HX1.out
  obtain ⟨d0, d1⟩ := HR1.out
  go_wp2_with fail
  refine (few_any Y bn yc B rows bn bc true hf hbn _ HW_1).mono ?_
  rintro e w2 ⟨rfl, hb0⟩
  have hb2 := below_ext hb1 hb0
  have HV2 := Lib.hid (HV1.out.below hb0)
  have HX2 := Lib.hid (HX1.out.below hb0)
  have HR2 := Lib.hid (HR1.out.below hb0)
  have HY2 := Lib.hid (HY1.out.below hb0)
  have HW_2 := Lib.hid (HW_1.out.below hb0)
  have HL2 := Lib.hid (HL1.out.below hb0)
  clear c0 c1 c2 d0 d1 hb0
  obtain ⟨c0, c1, c2⟩ := HX2.out
  obtain ⟨d0, d1⟩ := HR2.out
  go_wp2_with fail
  refine (lcommit_ok P Q G Y ys bn yc B rows bn bc L ls ln lc hr hyn hbn hln (by omega) hQ _ HV2 HY2 HW_2 HL2).mono ?_
  rintro e w3 ⟨v, rfl, ho, hb0⟩
  have hb3 := below_ext hb2 hb0
  have HV3 := Lib.hid (HV2.out.below hb0)
  have HX3 := Lib.hid (HX2.out.below hb0)
  have HR3 := Lib.hid (HR2.out.below hb0)
  have HY3 := Lib.hid (HY2.out.below hb0)
  have HW_3 := Lib.hid (HW_2.out.below hb0)
  have HL3 := Lib.hid (HL2.out.below hb0)
  clear c0 c1 c2 d0 d1 hb0
  obtain ⟨c0, c1, c2⟩ := HX3.out
  obtain ⟨d0, d1⟩ := HR3.out
  obtain ⟨g, cap, rfl, _, hc⟩ := OwnL.cells ho (by rw [hzl]; exact hbp)
  rw [hzl]
  have HC3 := Lib.hid hc
  clear hc ho
  have hOV := Lib.hid (show ∀ u1 : World, Hid (Below w3.heap.size w3 u1) → Hid (Vars u1) from fun u1 h1 => Lib.hid (HV3.out.below h1.out))
  have hOY := Lib.hid (show ∀ u1 : World, Hid (Below w3.heap.size w3 u1) → Hid (Sl u1 Y ys) from fun u1 h1 => Lib.hid (HY3.out.below h1.out))
  have hOB := Lib.hid (show ∀ u1 : World, Hid (Below w3.heap.size w3 u1) → Hid (Rw u1 B rows) from fun u1 h1 => Lib.hid (HW_3.out.below h1.out))
  have hOL := Lib.hid (show ∀ u1 : World, Hid (Below w3.heap.size w3 u1) → Hid (Sl u1 L ls) from fun u1 h1 => Lib.hid (HL3.out.below h1.out))
  have hS := Lib.hid (show ∀ u1 u2 : World, Hid (Below w3.heap.size w3 u1) → Below u1.heap.size u1 u2 → (u2.cell? ⟨w.heap.size, 0, none⟩ = some (.int .i64 P) ∧ u2.cell? ⟨w.heap.size, 1, none⟩ = some (.int .i64 Q) ∧ u2.cell? ⟨w.heap.size, 2, none⟩ = some (.int .i64 G) ∧ u2.cell? ⟨w.heap.size + 1, 0, none⟩ = some (.slice Y bn yc) ∧ u2.cell? ⟨w.heap.size + 1, 1, none⟩ = some (.slice B bn bc) ∧ Hid (Below w3.heap.size w3 u2)) from fun u1 u2 h1 h2 => have h3 := below_ext h1.out h2; ⟨(HX3.out.below h3).1, (HX3.out.below h3).2.1, (HX3.out.below h3).2.2, (HR3.out.below h3).1, (HR3.out.below h3).2, Lib.hid h3⟩)
  have hR : Hid (Below w3.heap.size w3 w3) := Lib.hid (Below.refl _ _)
  clear c0 c1 c2 d0 d1
  go_wp2_with fail
  go_region_held3 (fun w' => w'.cell? ⟨w.heap.size, 0, none⟩ = some (.int .i64 P) ∧ w'.cell? ⟨w.heap.size, 1, none⟩ = some (.int .i64 Q) ∧ w'.cell? ⟨w.heap.size, 2, none⟩ = some (.int .i64 G) ∧ w'.cell? ⟨w.heap.size + 1, 0, none⟩ = some (.slice Y bn yc) ∧ w'.cell? ⟨w.heap.size + 1, 1, none⟩ = some (.slice B bn bc) ∧ Hid (Below w3.heap.size w3 w'))
    (first | exact hS.out _ _ hR ((Below.refl w3.heap.size w3).drew) | (go_split_ands; exact hS.out _ _ (by assumption) hbA) | go_keep)
    ((first
      | (go_at_call 13; (with_reducible refine (lvalid_any P Q G Y ys bn yc B rows bn bc vb HVB hyn hbn hQ _ ?_ ?_ ?_).mono ?_); (go_split_ands; exact hOV.out _ (by assumption)); (go_split_ands; exact hOY.out _ (by assumption)); (go_split_ands; exact hOB.out _ (by assumption)); rintro e wA ⟨rfl, hbA⟩)
      | (go_at_call 14; (with_reducible refine (rvalid17_any P Q G Y ys bn yc B rows bn bc vb HVB hyn hbn hQ _ ?_ ?_).mono ?_); (go_split_ands; exact hOY.out _ (by assumption)); (go_split_ands; exact hOB.out _ (by assumption)); rintro e wA ⟨rfl, hbA⟩)
      | (go_at_call 15; (with_reducible refine (lholds_any P Q G Y ys bn yc B rows bn bc L ls ln lc hb HHB hyn hbn hln (by omega) hQ _ ?_ ?_ ?_ ?_).mono ?_); (go_split_ands; exact hOV.out _ (by assumption)); (go_split_ands; exact hOY.out _ (by assumption)); (go_split_ands; exact hOB.out _ (by assumption)); (go_split_ands; exact hOL.out _ (by assumption)); rintro e wA ⟨rfl, hbA⟩)
      | (go_at_call 16; (with_reducible refine (rholds_any P Q G Y ys bn yc B rows bn bc L ls ln lc hb HHB hyn hbn hln (by omega) hQ _ ?_ ?_ ?_).mono ?_); (go_split_ands; exact hOY.out _ (by assumption)); (go_split_ands; exact hOB.out _ (by assumption)); (go_split_ands; exact hOL.out _ (by assumption)); rintro e wA ⟨rfl, hbA⟩)))
  rename_i hHeld
  obtain ⟨x0, x1, x2, x3, x4, hbQ⟩ := hHeld
  have hb4 := below_ext hb3 hbQ.out
  have HV4 := Lib.hid (HV3.out.below hbQ.out)
  have HX4 := Lib.hid (HX3.out.below hbQ.out)
  have HR4 := Lib.hid (HR3.out.below hbQ.out)
  have HY4 := Lib.hid (HY3.out.below hbQ.out)
  have HW_4 := Lib.hid (HW_3.out.below hbQ.out)
  have HL4 := Lib.hid (HL3.out.below hbQ.out)
  clear x0 x1 x2 x3 x4 hS hR hOV hOY hOB hOL
  obtain ⟨c0, c1, c2⟩ := HX4.out
  obtain ⟨d0, d1⟩ := HR4.out
  have HC4 := Lib.hid (HC3.out.below hbQ.out)
  go_wp2_with fail
  refine (fault_any P Q G Y ys bn yc B rows bn bc L ls ln lc 0 0 hr2 hyn hbn hln (by omega) hQ _ HY4 HW_4 HL4).mono ?_
  rintro e w5 ⟨rfl, hb0⟩
  have hb5 := below_ext hb4 hb0
  have HV5 := Lib.hid (HV4.out.below hb0)
  have HX5 := Lib.hid (HX4.out.below hb0)
  have HR5 := Lib.hid (HR4.out.below hb0)
  have HY5 := Lib.hid (HY4.out.below hb0)
  have HW_5 := Lib.hid (HW_4.out.below hb0)
  have HL5 := Lib.hid (HL4.out.below hb0)
  have HC5 := Lib.hid (HC4.out.below hb0)
  clear c0 c1 c2 d0 d1 hb0
  obtain ⟨c0, c1, c2⟩ := HX5.out
  obtain ⟨d0, d1⟩ := HR5.out
  go_wp2_with fail
  refine (rcommit17_any P Q G Y bn yc B rows bc L ls ln lc hbn hln (by omega) (by omega) HRB HLS hp2 hp hQ _ HW_5 HL5).mono ?_
  intro e wz hA
  obtain ⟨g2, cap2, rfl, hcz, hb0⟩ := hA.cells hzl hbp
  have hbz := below_ext hb5 hb0
  have HCz := Lib.hid (HC5.out.below hb0)
  clear hb0 hA c0 c1 c2 d0 d1
  go_wp2_with fail
  refine (eq_any g bn cap (rows.map fun r => prodF P 1 r.xs ls) (some ⟨g2, 0, none⟩) (rows.map fun r => prodF P 1 r.xs ls) bn cap2 hzl (Lib.hid hzl) hbp (by omega) (by omega) _ HCz (Cells.toSl hcz)).mono ?_
  rintro e wy ⟨rfl, hb0⟩
  have hbF := below_ext hbz hb0
  clear hb0
  have heq : ((rows.map fun r => prodF P 1 r.xs ls) == (rows.map fun r => prodF P 1 r.xs ls)) = true := by simp
  rw [heq]
  go_wp2
  go_ret
  exact ⟨rfl, hbF⟩

theorem chkR_zero {P Q G : Int} {ys : List Int} {rows : List Row} {ls : List Int} : chkR P Q G ys rows ls [0] = chkR P Q G ys rows ls [] := by
  unfold chkR
  cases hv : validR P Q G ys rows with
  | false => rfl
  | true =>
    obtain ⟨hp2, hp, hq3, hqp⟩ := validG_P (validR_parts hv).1
    have e : ([0] : List Int).all (scB Q) = true := scB_one (by omega) (by omega)
    rw [e]
    rfl

/-- THE LAW: true for every input. -/
theorem lin_true (P Q G : Int) (Y : Option Addr) (ys : List Int) (yn yc : Nat) (B : Option Addr) (rows : List Row) (bn bc : Nat) (L : Option Addr) (ls : List Int) (ln lc : Nat) (hyn : Hid (ys.length = yn)) (hbn : Hid (rows.length = bn)) (hln : Hid (ls.length = ln)) (hQ : Q < 9223372036854775808) (w : World) (hv : Hid (Vars w)) (hY : Hid (Sl w Y ys)) (hB : Hid (Rw w B rows)) (hL : Hid (Sl w L ls)) :
    Calls Tryd.prog 3 #[gv P Q G, relV Y yn yc B bn bc, .slice L ln lc] w fun e' w' => e' = .returned (.bool true) ∧ Below w.heap.size w w' := by
  cases hf : fewB yn bn rows with
  | false => exact lh_few P Q G Y ys yn yc B rows bn bc L ls ln lc hyn hbn hln (Lib.hid hf) w hv hY hB hL
  | true =>
    by_cases hl : 30 < ln
    · exact lh_long P Q G Y ys yn yc B rows bn bc L ls ln lc hyn hbn hln (Lib.hid hf) hl w hv hY hB hL
    · obtain ⟨r, hr⟩ : ∃ r, chkR P Q G ys rows ls [] = r := ⟨_, rfl⟩
      cases h0 : r != 0 with
      | true => exact lh_bad P Q G Y ys yn yc B rows bn bc L ls ln lc hyn hbn hln hQ (Lib.hid hf) (by omega) r (Lib.hid hr) (Lib.hid (chkR_zero.trans hr)) h0 w hv hY hB hL
      | false =>
        obtain rfl : r = 0 := by simpa using h0
        exact lh_ok P Q G Y ys yn yc B rows bn bc L ls ln lc hyn hbn hln hQ (Lib.hid hf) (by omega) (Lib.hid hr) (Lib.hid (chkR_zero.trans hr)) w hv hY hB hL
end Go.Proofs.YtijedphpcocfnaaDoor
