/- linear.check and linear.Commit. -/
import Derived.Test.YtijedphpcocfnaaDoorLinD
namespace Go.Proofs.YtijedphpcocfnaaDoor
open Go.RowKit SpM
set_option linter.unusedVariables false
set_option linter.unusedSimpArgs false
set_option maxRecDepth 20000

theorem validR_parts {P Q G : Int} {ys : List Int} {rows : List Row} (h : validR P Q G ys rows = true) :
    validG P Q G = true ∧ 1 ≤ ys.length ∧ ys.length ≤ 8 ∧ rows.length = ys.length ∧ ys.all (memG P Q) = true ∧ 1 ≤ rowN rows ∧ rowN rows ≤ 12 ∧ rows.all (rowB P Q (rowN rows)) = true := by
  simp only [validR, Bool.and_eq_true, decide_eq_true_eq] at h
  exact h

/-- the error of linear.check. -/
def chkR (P Q G : Int) (ys : List Int) (rows : List Row) (ls os : List Int) : Int :=
  if validR P Q G ys rows = true then (if ls.length = rowN rows then (if ls.all (scB Q) = true then (if os.all (scB Q) = true then 0 else 2) else 2) else 1) else 1

theorem sl_nil (w : World) : Sl w none [] := fun k hk => absurd hk (by simp)

set_option maxHeartbeats 6400000 in
theorem lcheck_1a (P Q G : Int) (Y : Option Addr) (ys : List Int) (yn yc : Nat) (B : Option Addr) (rows : List Row) (bn bc : Nat) (L : Option Addr) (ls : List Int) (ln lc : Nat) (O : Option Addr) (os : List Int) (on oc : Nat) (hyn : Hid (ys.length = yn)) (hbn : Hid (rows.length = bn)) (hln : Hid (ls.length = ln)) (hlb : ln < 1000000) (hon : Hid (os.length = on)) (hob : on < 1000000) (HVL : Hid (validR P Q G ys rows = false)) (hQ : Q < 9223372036854775808) (w : World) (hv : Hid (Vars w)) (hY : Hid (Sl w Y ys)) (hB : Hid (Rw w B rows)) (hL : Hid (Sl w L ls)) (hO : Hid (Sl w O os)) :
    Calls Tryd.prog 48 #[gv P Q G, relV Y yn yc B bn bc, .slice L ln lc, .slice O on oc] w fun e' w' => e' = .returned (.int .i64 1) ∧ Below w.heap.size w w' := by
  obtain ⟨w0, hW⟩ : ∃ W, (w.alloc (gObj P Q G)).alloc (relO Y yn yc B bn bc) = W := ⟨_, rfl⟩
  have HBw : Hid (Below w.heap.size w w0) := Lib.hid (by rw [← hW]; exact below_two (Below.refl _ _))
  have HX0 : Hid (GBox w0 w.heap.size P Q G) := Lib.hid (by rw [← hW]; exact (gbox_alloc w P Q G).below (below_box0 _ _))
  have HR0 : Hid (RBox w0 (w.heap.size + 1) (.slice Y yn yc) (.slice B bn bc)) := Lib.hid (by rw [← hW]; exact rbox_alloc1 _ _ _ _ _)
  have HY0 : Hid (Sl w0 Y ys) := Lib.hid (hY.out.below HBw.out)
  have HW_0 : Hid (Rw w0 B rows) := Lib.hid (hB.out.below HBw.out)
  have HL0 : Hid (Sl w0 L ls) := Lib.hid (hL.out.below HBw.out)
  have HO0 : Hid (Sl w0 O os) := Lib.hid (hO.out.below HBw.out)
  have HV0 : Hid (Vars w0) := Lib.hid (hv.out.below HBw.out)
  have HW := Lib.hid hW
  clear hW hY hB hL hO hv
  go_enter Tryd.func48, Tryd.ntmps48
  go_wp2_with fail
  rw [HW.out]
  go_wp2_with fail
  refine (lvalid_any P Q G Y ys yn yc B rows bn bc false HVL hyn hbn hQ _ HV0 HY0 HW_0).mono ?_
  rintro e w1 ⟨rfl, hb0⟩
  have hb1 := below_ext (HBw.out) hb0
  have HV1 := Lib.hid (HV0.out.below hb0)
  have HX1 := Lib.hid (HX0.out.below hb0)
  have HR1 := Lib.hid (HR0.out.below hb0)
  have HY1 := Lib.hid (HY0.out.below hb0)
  have HW_1 := Lib.hid (HW_0.out.below hb0)
  have HL1 := Lib.hid (HL0.out.below hb0)
  have HO1 := Lib.hid (HO0.out.below hb0)
  clear hb0
  obtain ⟨c0, c1, c2⟩ := HX1.out
  obtain ⟨d0, d1⟩ := HR1.out
  go_wp2
  go_ret
  exact ⟨rfl, hb1⟩

set_option maxHeartbeats 6400000 in
theorem lcheck_1b (P Q G : Int) (Y : Option Addr) (ys : List Int) (yn yc : Nat) (B : Option Addr) (rows : List Row) (bn bc : Nat) (L : Option Addr) (ls : List Int) (ln lc : Nat) (O : Option Addr) (os : List Int) (on oc : Nat) (hyn : Hid (ys.length = yn)) (hbn : Hid (rows.length = bn)) (hln : Hid (ls.length = ln)) (hlb : ln < 1000000) (hon : Hid (os.length = on)) (hob : on < 1000000) (HVL : Hid (validR P Q G ys rows = true)) (hlen : ls.length ≠ rowN rows) (hQ : Q < 9223372036854775808) (w : World) (hv : Hid (Vars w)) (hY : Hid (Sl w Y ys)) (hB : Hid (Rw w B rows)) (hL : Hid (Sl w L ls)) (hO : Hid (Sl w O os)) :
    Calls Tryd.prog 48 #[gv P Q G, relV Y yn yc B bn bc, .slice L ln lc, .slice O on oc] w fun e' w' => e' = .returned (.int .i64 1) ∧ Below w.heap.size w w' := by
  obtain ⟨w0, hW⟩ : ∃ W, (w.alloc (gObj P Q G)).alloc (relO Y yn yc B bn bc) = W := ⟨_, rfl⟩
  have HBw : Hid (Below w.heap.size w w0) := Lib.hid (by rw [← hW]; exact below_two (Below.refl _ _))
  have HX0 : Hid (GBox w0 w.heap.size P Q G) := Lib.hid (by rw [← hW]; exact (gbox_alloc w P Q G).below (below_box0 _ _))
  have HR0 : Hid (RBox w0 (w.heap.size + 1) (.slice Y yn yc) (.slice B bn bc)) := Lib.hid (by rw [← hW]; exact rbox_alloc1 _ _ _ _ _)
  have HY0 : Hid (Sl w0 Y ys) := Lib.hid (hY.out.below HBw.out)
  have HW_0 : Hid (Rw w0 B rows) := Lib.hid (hB.out.below HBw.out)
  have HL0 : Hid (Sl w0 L ls) := Lib.hid (hL.out.below HBw.out)
  have HO0 : Hid (Sl w0 O os) := Lib.hid (hO.out.below HBw.out)
  have HV0 : Hid (Vars w0) := Lib.hid (hv.out.below HBw.out)
  have HW := Lib.hid hW
  clear hW hY hB hL hO hv
  obtain ⟨v1, v2, v3, v4, v5, v6, v7, v8⟩ := validR_parts HVL.out
  have hbp : 0 < bn := by rw [← hbn.out]; omega
  obtain ⟨n0, hn0⟩ : ∃ n, rowN rows = n := ⟨_, rfl⟩
  have HN := Lib.hid hn0
  clear v1 v2 v3 v4 v5 v6 v7 v8
  have hne : ((ln : Int) != (n0 : Int)) = true := by rw [← hln.out, ← hn0]; simp; omega
  clear hn0
  go_enter Tryd.func48, Tryd.ntmps48
  go_wp2_with fail
  rw [HW.out]
  go_wp2_with fail
  refine (lvalid_any P Q G Y ys yn yc B rows bn bc true HVL hyn hbn hQ _ HV0 HY0 HW_0).mono ?_
  rintro e w1 ⟨rfl, hb0⟩
  have hb1 := below_ext (HBw.out) hb0
  have HV1 := Lib.hid (HV0.out.below hb0)
  have HX1 := Lib.hid (HX0.out.below hb0)
  have HR1 := Lib.hid (HR0.out.below hb0)
  have HY1 := Lib.hid (HY0.out.below hb0)
  have HW_1 := Lib.hid (HW_0.out.below hb0)
  have HL1 := Lib.hid (HL0.out.below hb0)
  have HO1 := Lib.hid (HO0.out.below hb0)
  clear hb0
  obtain ⟨c0, c1, c2⟩ := HX1.out
  obtain ⟨d0, d1⟩ := HR1.out
  go_wp2_with fail
  refine (lunknowns_any Y yn yc B rows bn bc n0 hbn hbp HN _ HW_1).mono ?_
  rintro e w2 ⟨rfl, hb0⟩
  have hb2 := below_ext hb1 hb0
  have HV2 := Lib.hid (HV1.out.below hb0)
  have HX2 := Lib.hid (HX1.out.below hb0)
  have HR2 := Lib.hid (HR1.out.below hb0)
  have HY2 := Lib.hid (HY1.out.below hb0)
  have HW_2 := Lib.hid (HW_1.out.below hb0)
  have HL2 := Lib.hid (HL1.out.below hb0)
  have HO2 := Lib.hid (HO1.out.below hb0)
  clear c0 c1 c2 d0 d1 hb0
  obtain ⟨c0, c1, c2⟩ := HX2.out
  obtain ⟨d0, d1⟩ := HR2.out
  go_wp2
  go_ret
  exact ⟨rfl, hb2⟩

set_option maxHeartbeats 6400000 in
theorem lcheck_2a (P Q G : Int) (Y : Option Addr) (ys : List Int) (yn yc : Nat) (B : Option Addr) (rows : List Row) (bn bc : Nat) (L : Option Addr) (ls : List Int) (ln lc : Nat) (O : Option Addr) (os : List Int) (on oc : Nat) (hyn : Hid (ys.length = yn)) (hbn : Hid (rows.length = bn)) (hln : Hid (ls.length = ln)) (hlb : ln < 1000000) (hon : Hid (os.length = on)) (hob : on < 1000000) (HVL : Hid (validR P Q G ys rows = true)) (hlen : ls.length = rowN rows) (Hl : Hid (ls.all (scB Q) = false)) (hQ : Q < 9223372036854775808) (w : World) (hv : Hid (Vars w)) (hY : Hid (Sl w Y ys)) (hB : Hid (Rw w B rows)) (hL : Hid (Sl w L ls)) (hO : Hid (Sl w O os)) :
    Calls Tryd.prog 48 #[gv P Q G, relV Y yn yc B bn bc, .slice L ln lc, .slice O on oc] w fun e' w' => e' = .returned (.int .i64 2) ∧ Below w.heap.size w w' := by
  obtain ⟨w0, hW⟩ : ∃ W, (w.alloc (gObj P Q G)).alloc (relO Y yn yc B bn bc) = W := ⟨_, rfl⟩
  have HBw : Hid (Below w.heap.size w w0) := Lib.hid (by rw [← hW]; exact below_two (Below.refl _ _))
  have HX0 : Hid (GBox w0 w.heap.size P Q G) := Lib.hid (by rw [← hW]; exact (gbox_alloc w P Q G).below (below_box0 _ _))
  have HR0 : Hid (RBox w0 (w.heap.size + 1) (.slice Y yn yc) (.slice B bn bc)) := Lib.hid (by rw [← hW]; exact rbox_alloc1 _ _ _ _ _)
  have HY0 : Hid (Sl w0 Y ys) := Lib.hid (hY.out.below HBw.out)
  have HW_0 : Hid (Rw w0 B rows) := Lib.hid (hB.out.below HBw.out)
  have HL0 : Hid (Sl w0 L ls) := Lib.hid (hL.out.below HBw.out)
  have HO0 : Hid (Sl w0 O os) := Lib.hid (hO.out.below HBw.out)
  have HV0 : Hid (Vars w0) := Lib.hid (hv.out.below HBw.out)
  have HW := Lib.hid hW
  clear hW hY hB hL hO hv
  obtain ⟨v1, v2, v3, v4, v5, v6, v7, v8⟩ := validR_parts HVL.out
  have hbp : 0 < bn := by rw [← hbn.out]; omega
  obtain ⟨n0, hn0⟩ : ∃ n, rowN rows = n := ⟨_, rfl⟩
  have HN := Lib.hid hn0
  clear v1 v2 v3 v4 v5 v6 v7 v8
  have hne : ((ln : Int) != (n0 : Int)) = false := by rw [← hln.out, ← hn0]; simp; omega
  clear hn0
  go_enter Tryd.func48, Tryd.ntmps48
  go_wp2_with fail
  rw [HW.out]
  go_wp2_with fail
  refine (lvalid_any P Q G Y ys yn yc B rows bn bc true HVL hyn hbn hQ _ HV0 HY0 HW_0).mono ?_
  rintro e w1 ⟨rfl, hb0⟩
  have hb1 := below_ext (HBw.out) hb0
  have HV1 := Lib.hid (HV0.out.below hb0)
  have HX1 := Lib.hid (HX0.out.below hb0)
  have HR1 := Lib.hid (HR0.out.below hb0)
  have HY1 := Lib.hid (HY0.out.below hb0)
  have HW_1 := Lib.hid (HW_0.out.below hb0)
  have HL1 := Lib.hid (HL0.out.below hb0)
  have HO1 := Lib.hid (HO0.out.below hb0)
  clear hb0
  obtain ⟨c0, c1, c2⟩ := HX1.out
  obtain ⟨d0, d1⟩ := HR1.out
  go_wp2_with fail
  refine (lunknowns_any Y yn yc B rows bn bc n0 hbn hbp HN _ HW_1).mono ?_
  rintro e w2 ⟨rfl, hb0⟩
  have hb2 := below_ext hb1 hb0
  have HV2 := Lib.hid (HV1.out.below hb0)
  have HX2 := Lib.hid (HX1.out.below hb0)
  have HR2 := Lib.hid (HR1.out.below hb0)
  have HY2 := Lib.hid (HY1.out.below hb0)
  have HW_2 := Lib.hid (HW_1.out.below hb0)
  have HL2 := Lib.hid (HL1.out.below hb0)
  have HO2 := Lib.hid (HO1.out.below hb0)
  clear c0 c1 c2 d0 d1 hb0
  obtain ⟨c0, c1, c2⟩ := HX2.out
  obtain ⟨d0, d1⟩ := HR2.out
  go_wp2_with fail
  refine (scalars_any P Q G L ls ln lc false Hl hln (Lib.hid hlb) _ HL2).mono ?_
  rintro e w3 ⟨rfl, hb0⟩
  have hb3 := below_ext hb2 hb0
  have HV3 := Lib.hid (HV2.out.below hb0)
  have HX3 := Lib.hid (HX2.out.below hb0)
  have HR3 := Lib.hid (HR2.out.below hb0)
  have HY3 := Lib.hid (HY2.out.below hb0)
  have HW_3 := Lib.hid (HW_2.out.below hb0)
  have HL3 := Lib.hid (HL2.out.below hb0)
  have HO3 := Lib.hid (HO2.out.below hb0)
  clear c0 c1 c2 d0 d1 hb0
  obtain ⟨c0, c1, c2⟩ := HX3.out
  obtain ⟨d0, d1⟩ := HR3.out
  go_wp2
  go_ret
  exact ⟨rfl, hb3⟩

set_option maxHeartbeats 6400000 in
theorem lcheck_2b (P Q G : Int) (Y : Option Addr) (ys : List Int) (yn yc : Nat) (B : Option Addr) (rows : List Row) (bn bc : Nat) (L : Option Addr) (ls : List Int) (ln lc : Nat) (O : Option Addr) (os : List Int) (on oc : Nat) (hyn : Hid (ys.length = yn)) (hbn : Hid (rows.length = bn)) (hln : Hid (ls.length = ln)) (hlb : ln < 1000000) (hon : Hid (os.length = on)) (hob : on < 1000000) (HVL : Hid (validR P Q G ys rows = true)) (hlen : ls.length = rowN rows) (Hl : Hid (ls.all (scB Q) = true)) (Ho : Hid (os.all (scB Q) = false)) (hQ : Q < 9223372036854775808) (w : World) (hv : Hid (Vars w)) (hY : Hid (Sl w Y ys)) (hB : Hid (Rw w B rows)) (hL : Hid (Sl w L ls)) (hO : Hid (Sl w O os)) :
    Calls Tryd.prog 48 #[gv P Q G, relV Y yn yc B bn bc, .slice L ln lc, .slice O on oc] w fun e' w' => e' = .returned (.int .i64 2) ∧ Below w.heap.size w w' := by
  obtain ⟨w0, hW⟩ : ∃ W, (w.alloc (gObj P Q G)).alloc (relO Y yn yc B bn bc) = W := ⟨_, rfl⟩
  have HBw : Hid (Below w.heap.size w w0) := Lib.hid (by rw [← hW]; exact below_two (Below.refl _ _))
  have HX0 : Hid (GBox w0 w.heap.size P Q G) := Lib.hid (by rw [← hW]; exact (gbox_alloc w P Q G).below (below_box0 _ _))
  have HR0 : Hid (RBox w0 (w.heap.size + 1) (.slice Y yn yc) (.slice B bn bc)) := Lib.hid (by rw [← hW]; exact rbox_alloc1 _ _ _ _ _)
  have HY0 : Hid (Sl w0 Y ys) := Lib.hid (hY.out.below HBw.out)
  have HW_0 : Hid (Rw w0 B rows) := Lib.hid (hB.out.below HBw.out)
  have HL0 : Hid (Sl w0 L ls) := Lib.hid (hL.out.below HBw.out)
  have HO0 : Hid (Sl w0 O os) := Lib.hid (hO.out.below HBw.out)
  have HV0 : Hid (Vars w0) := Lib.hid (hv.out.below HBw.out)
  have HW := Lib.hid hW
  clear hW hY hB hL hO hv
  obtain ⟨v1, v2, v3, v4, v5, v6, v7, v8⟩ := validR_parts HVL.out
  have hbp : 0 < bn := by rw [← hbn.out]; omega
  obtain ⟨n0, hn0⟩ : ∃ n, rowN rows = n := ⟨_, rfl⟩
  have HN := Lib.hid hn0
  clear v1 v2 v3 v4 v5 v6 v7 v8
  have hne : ((ln : Int) != (n0 : Int)) = false := by rw [← hln.out, ← hn0]; simp; omega
  clear hn0
  go_enter Tryd.func48, Tryd.ntmps48
  go_wp2_with fail
  rw [HW.out]
  go_wp2_with fail
  refine (lvalid_any P Q G Y ys yn yc B rows bn bc true HVL hyn hbn hQ _ HV0 HY0 HW_0).mono ?_
  rintro e w1 ⟨rfl, hb0⟩
  have hb1 := below_ext (HBw.out) hb0
  have HV1 := Lib.hid (HV0.out.below hb0)
  have HX1 := Lib.hid (HX0.out.below hb0)
  have HR1 := Lib.hid (HR0.out.below hb0)
  have HY1 := Lib.hid (HY0.out.below hb0)
  have HW_1 := Lib.hid (HW_0.out.below hb0)
  have HL1 := Lib.hid (HL0.out.below hb0)
  have HO1 := Lib.hid (HO0.out.below hb0)
  clear hb0
  obtain ⟨c0, c1, c2⟩ := HX1.out
  obtain ⟨d0, d1⟩ := HR1.out
  go_wp2_with fail
  refine (lunknowns_any Y yn yc B rows bn bc n0 hbn hbp HN _ HW_1).mono ?_
  rintro e w2 ⟨rfl, hb0⟩
  have hb2 := below_ext hb1 hb0
  have HV2 := Lib.hid (HV1.out.below hb0)
  have HX2 := Lib.hid (HX1.out.below hb0)
  have HR2 := Lib.hid (HR1.out.below hb0)
  have HY2 := Lib.hid (HY1.out.below hb0)
  have HW_2 := Lib.hid (HW_1.out.below hb0)
  have HL2 := Lib.hid (HL1.out.below hb0)
  have HO2 := Lib.hid (HO1.out.below hb0)
  clear c0 c1 c2 d0 d1 hb0
  obtain ⟨c0, c1, c2⟩ := HX2.out
  obtain ⟨d0, d1⟩ := HR2.out
  go_wp2_with fail
  refine (scalars_any P Q G L ls ln lc true Hl hln (Lib.hid hlb) _ HL2).mono ?_
  rintro e w3 ⟨rfl, hb0⟩
  have hb3 := below_ext hb2 hb0
  have HV3 := Lib.hid (HV2.out.below hb0)
  have HX3 := Lib.hid (HX2.out.below hb0)
  have HR3 := Lib.hid (HR2.out.below hb0)
  have HY3 := Lib.hid (HY2.out.below hb0)
  have HW_3 := Lib.hid (HW_2.out.below hb0)
  have HL3 := Lib.hid (HL2.out.below hb0)
  have HO3 := Lib.hid (HO2.out.below hb0)
  clear c0 c1 c2 d0 d1 hb0
  obtain ⟨c0, c1, c2⟩ := HX3.out
  obtain ⟨d0, d1⟩ := HR3.out
  go_wp2_with fail
  refine (scalars_any P Q G O os on oc false Ho hon (Lib.hid hob) _ HO3).mono ?_
  rintro e w4 ⟨rfl, hb0⟩
  have hb4 := below_ext hb3 hb0
  have HV4 := Lib.hid (HV3.out.below hb0)
  have HX4 := Lib.hid (HX3.out.below hb0)
  have HR4 := Lib.hid (HR3.out.below hb0)
  have HY4 := Lib.hid (HY3.out.below hb0)
  have HW_4 := Lib.hid (HW_3.out.below hb0)
  have HL4 := Lib.hid (HL3.out.below hb0)
  have HO4 := Lib.hid (HO3.out.below hb0)
  clear c0 c1 c2 d0 d1 hb0
  obtain ⟨c0, c1, c2⟩ := HX4.out
  obtain ⟨d0, d1⟩ := HR4.out
  go_wp2
  go_ret
  exact ⟨rfl, hb4⟩

set_option maxHeartbeats 6400000 in
theorem lcheck_0 (P Q G : Int) (Y : Option Addr) (ys : List Int) (yn yc : Nat) (B : Option Addr) (rows : List Row) (bn bc : Nat) (L : Option Addr) (ls : List Int) (ln lc : Nat) (O : Option Addr) (os : List Int) (on oc : Nat) (hyn : Hid (ys.length = yn)) (hbn : Hid (rows.length = bn)) (hln : Hid (ls.length = ln)) (hlb : ln < 1000000) (hon : Hid (os.length = on)) (hob : on < 1000000) (HVL : Hid (validR P Q G ys rows = true)) (hlen : ls.length = rowN rows) (Hl : Hid (ls.all (scB Q) = true)) (Ho : Hid (os.all (scB Q) = true)) (hQ : Q < 9223372036854775808) (w : World) (hv : Hid (Vars w)) (hY : Hid (Sl w Y ys)) (hB : Hid (Rw w B rows)) (hL : Hid (Sl w L ls)) (hO : Hid (Sl w O os)) :
    Calls Tryd.prog 48 #[gv P Q G, relV Y yn yc B bn bc, .slice L ln lc, .slice O on oc] w fun e' w' => e' = .returned (.int .i64 0) ∧ Below w.heap.size w w' := by
  obtain ⟨w0, hW⟩ : ∃ W, (w.alloc (gObj P Q G)).alloc (relO Y yn yc B bn bc) = W := ⟨_, rfl⟩
  have HBw : Hid (Below w.heap.size w w0) := Lib.hid (by rw [← hW]; exact below_two (Below.refl _ _))
  have HX0 : Hid (GBox w0 w.heap.size P Q G) := Lib.hid (by rw [← hW]; exact (gbox_alloc w P Q G).below (below_box0 _ _))
  have HR0 : Hid (RBox w0 (w.heap.size + 1) (.slice Y yn yc) (.slice B bn bc)) := Lib.hid (by rw [← hW]; exact rbox_alloc1 _ _ _ _ _)
  have HY0 : Hid (Sl w0 Y ys) := Lib.hid (hY.out.below HBw.out)
  have HW_0 : Hid (Rw w0 B rows) := Lib.hid (hB.out.below HBw.out)
  have HL0 : Hid (Sl w0 L ls) := Lib.hid (hL.out.below HBw.out)
  have HO0 : Hid (Sl w0 O os) := Lib.hid (hO.out.below HBw.out)
  have HV0 : Hid (Vars w0) := Lib.hid (hv.out.below HBw.out)
  have HW := Lib.hid hW
  clear hW hY hB hL hO hv
  obtain ⟨v1, v2, v3, v4, v5, v6, v7, v8⟩ := validR_parts HVL.out
  have hbp : 0 < bn := by rw [← hbn.out]; omega
  obtain ⟨n0, hn0⟩ : ∃ n, rowN rows = n := ⟨_, rfl⟩
  have HN := Lib.hid hn0
  clear v1 v2 v3 v4 v5 v6 v7 v8
  have hne : ((ln : Int) != (n0 : Int)) = false := by rw [← hln.out, ← hn0]; simp; omega
  clear hn0
  go_enter Tryd.func48, Tryd.ntmps48
  go_wp2_with fail
  rw [HW.out]
  go_wp2_with fail
  refine (lvalid_any P Q G Y ys yn yc B rows bn bc true HVL hyn hbn hQ _ HV0 HY0 HW_0).mono ?_
  rintro e w1 ⟨rfl, hb0⟩
  have hb1 := below_ext (HBw.out) hb0
  have HV1 := Lib.hid (HV0.out.below hb0)
  have HX1 := Lib.hid (HX0.out.below hb0)
  have HR1 := Lib.hid (HR0.out.below hb0)
  have HY1 := Lib.hid (HY0.out.below hb0)
  have HW_1 := Lib.hid (HW_0.out.below hb0)
  have HL1 := Lib.hid (HL0.out.below hb0)
  have HO1 := Lib.hid (HO0.out.below hb0)
  clear hb0
  obtain ⟨c0, c1, c2⟩ := HX1.out
  obtain ⟨d0, d1⟩ := HR1.out
  go_wp2_with fail
  refine (lunknowns_any Y yn yc B rows bn bc n0 hbn hbp HN _ HW_1).mono ?_
  rintro e w2 ⟨rfl, hb0⟩
  have hb2 := below_ext hb1 hb0
  have HV2 := Lib.hid (HV1.out.below hb0)
  have HX2 := Lib.hid (HX1.out.below hb0)
  have HR2 := Lib.hid (HR1.out.below hb0)
  have HY2 := Lib.hid (HY1.out.below hb0)
  have HW_2 := Lib.hid (HW_1.out.below hb0)
  have HL2 := Lib.hid (HL1.out.below hb0)
  have HO2 := Lib.hid (HO1.out.below hb0)
  clear c0 c1 c2 d0 d1 hb0
  obtain ⟨c0, c1, c2⟩ := HX2.out
  obtain ⟨d0, d1⟩ := HR2.out
  go_wp2_with fail
  refine (scalars_any P Q G L ls ln lc true Hl hln (Lib.hid hlb) _ HL2).mono ?_
  rintro e w3 ⟨rfl, hb0⟩
  have hb3 := below_ext hb2 hb0
  have HV3 := Lib.hid (HV2.out.below hb0)
  have HX3 := Lib.hid (HX2.out.below hb0)
  have HR3 := Lib.hid (HR2.out.below hb0)
  have HY3 := Lib.hid (HY2.out.below hb0)
  have HW_3 := Lib.hid (HW_2.out.below hb0)
  have HL3 := Lib.hid (HL2.out.below hb0)
  have HO3 := Lib.hid (HO2.out.below hb0)
  clear c0 c1 c2 d0 d1 hb0
  obtain ⟨c0, c1, c2⟩ := HX3.out
  obtain ⟨d0, d1⟩ := HR3.out
  go_wp2_with fail
  refine (scalars_any P Q G O os on oc true Ho hon (Lib.hid hob) _ HO3).mono ?_
  rintro e w4 ⟨rfl, hb0⟩
  have hb4 := below_ext hb3 hb0
  have HV4 := Lib.hid (HV3.out.below hb0)
  have HX4 := Lib.hid (HX3.out.below hb0)
  have HR4 := Lib.hid (HR3.out.below hb0)
  have HY4 := Lib.hid (HY3.out.below hb0)
  have HW_4 := Lib.hid (HW_3.out.below hb0)
  have HL4 := Lib.hid (HL3.out.below hb0)
  have HO4 := Lib.hid (HO3.out.below hb0)
  clear c0 c1 c2 d0 d1 hb0
  obtain ⟨c0, c1, c2⟩ := HX4.out
  obtain ⟨d0, d1⟩ := HR4.out
  go_wp2
  go_ret
  exact ⟨rfl, hb4⟩

theorem lcheck_any (P Q G : Int) (Y : Option Addr) (ys : List Int) (yn yc : Nat) (B : Option Addr) (rows : List Row) (bn bc : Nat) (L : Option Addr) (ls : List Int) (ln lc : Nat) (O : Option Addr) (os : List Int) (on oc : Nat) (r : Int) (hr : Hid (chkR P Q G ys rows ls os = r)) (hyn : Hid (ys.length = yn)) (hbn : Hid (rows.length = bn)) (hln : Hid (ls.length = ln)) (hlb : ln < 1000000) (hon : Hid (os.length = on)) (hob : on < 1000000) (hQ : Q < 9223372036854775808) (w : World) (hv : Hid (Vars w)) (hY : Hid (Sl w Y ys)) (hB : Hid (Rw w B rows)) (hL : Hid (Sl w L ls)) (hO : Hid (Sl w O os)) :
    Calls Tryd.prog 48 #[gv P Q G, relV Y yn yc B bn bc, .slice L ln lc, .slice O on oc] w fun e' w' => e' = .returned (.int .i64 r) ∧ Below w.heap.size w w' := by
  have hr' := hr.out
  unfold chkR at hr'
  cases h1 : validR P Q G ys rows with
  | false =>
    rw [h1] at hr'
    obtain rfl : r = 1 := hr'.symm
    exact lcheck_1a P Q G Y ys yn yc B rows bn bc L ls ln lc O os on oc hyn hbn hln hlb hon hob (Lib.hid h1) hQ w hv hY hB hL hO
  | true =>
    rw [h1, if_pos rfl] at hr'
    by_cases h2 : ls.length = rowN rows
    · rw [if_pos h2] at hr'
      cases h3 : ls.all (scB Q) with
      | false =>
        rw [h3] at hr'
        obtain rfl : r = 2 := hr'.symm
        exact lcheck_2a P Q G Y ys yn yc B rows bn bc L ls ln lc O os on oc hyn hbn hln hlb hon hob (Lib.hid h1) h2 (Lib.hid h3) hQ w hv hY hB hL hO
      | true =>
        rw [h3, if_pos rfl] at hr'
        cases h4 : os.all (scB Q) with
        | false =>
          rw [h4] at hr'
          obtain rfl : r = 2 := hr'.symm
          exact lcheck_2b P Q G Y ys yn yc B rows bn bc L ls ln lc O os on oc hyn hbn hln hlb hon hob (Lib.hid h1) h2 (Lib.hid h3) (Lib.hid h4) hQ w hv hY hB hL hO
        | true =>
          rw [h4, if_pos rfl] at hr'
          obtain rfl : r = 0 := hr'.symm
          exact lcheck_0 P Q G Y ys yn yc B rows bn bc L ls ln lc O os on oc hyn hbn hln hlb hon hob (Lib.hid h1) h2 (Lib.hid h3) (Lib.hid h4) hQ w hv hY hB hL hO
    · rw [if_neg h2] at hr'
      obtain rfl : r = 1 := hr'.symm
      exact lcheck_1b P Q G Y ys yn yc B rows bn bc L ls ln lc O os on oc hyn hbn hln hlb hon hob (Lib.hid h1) h2 hQ w hv hY hB hL hO

/-- what a good check says. -/
theorem chkR_0 {P Q G : Int} {ys : List Int} {rows : List Row} {ls os : List Int} (h : chkR P Q G ys rows ls os = 0) : validR P Q G ys rows = true ∧ ls.length = rowN rows ∧ ls.all (scB Q) = true ∧ os.all (scB Q) = true := by
  unfold chkR at h
  split at h
  · split at h
    · split at h
      · split at h
        · exact ⟨by assumption, by assumption, by assumption, by assumption⟩
        · omega
      · omega
    · omega
  · omega

set_option maxHeartbeats 6400000 in
theorem lcommit_bad (P Q G : Int) (Y : Option Addr) (ys : List Int) (yn yc : Nat) (B : Option Addr) (rows : List Row) (bn bc : Nat) (L : Option Addr) (ls : List Int) (ln lc : Nat) (r : Int) (hr : Hid (chkR P Q G ys rows ls [] = r)) (hne : (r != 0) = true) (hyn : Hid (ys.length = yn)) (hbn : Hid (rows.length = bn)) (hln : Hid (ls.length = ln)) (hlb : ln < 1000000) (hQ : Q < 9223372036854775808) (w : World) (hv : Hid (Vars w)) (hY : Hid (Sl w Y ys)) (hB : Hid (Rw w B rows)) (hL : Hid (Sl w L ls)) :
    Calls Tryd.prog 12 #[gv P Q G, relV Y yn yc B bn bc, .slice L ln lc] w fun e' w' => e' = .returned (.tuple #[.slice none 0 0, .int .i64 r]) ∧ Below w.heap.size w w' := by
  obtain ⟨w0, hW⟩ : ∃ W, (w.alloc (gObj P Q G)).alloc (relO Y yn yc B bn bc) = W := ⟨_, rfl⟩
  have HBw : Hid (Below w.heap.size w w0) := Lib.hid (by rw [← hW]; exact below_two (Below.refl _ _))
  have HX0 : Hid (GBox w0 w.heap.size P Q G) := Lib.hid (by rw [← hW]; exact (gbox_alloc w P Q G).below (below_box0 _ _))
  have HR0 : Hid (RBox w0 (w.heap.size + 1) (.slice Y yn yc) (.slice B bn bc)) := Lib.hid (by rw [← hW]; exact rbox_alloc1 _ _ _ _ _)
  have HY0 : Hid (Sl w0 Y ys) := Lib.hid (hY.out.below HBw.out)
  have HW_0 : Hid (Rw w0 B rows) := Lib.hid (hB.out.below HBw.out)
  have HL0 : Hid (Sl w0 L ls) := Lib.hid (hL.out.below HBw.out)
  have HV0 : Hid (Vars w0) := Lib.hid (hv.out.below HBw.out)
  have HW := Lib.hid hW
  have hsz := HBw.out.size
  clear hW hY hB hL hv
  go_enter Tryd.func12, Tryd.ntmps12
  go_wp2_with fail
  rw [HW.out]
  go_wp2_with fail
  refine (lcheck_any P Q G Y ys yn yc B rows bn bc L ls ln lc none [] 0 0 r hr hyn hbn hln hlb (Lib.hid rfl) (by omega) hQ _ HV0 HY0 HW_0 HL0 (Lib.hid (sl_nil _))).mono ?_
  rintro e w1 ⟨rfl, hb0⟩
  have hb1 := below_ext (HBw.out) hb0
  have HV1 := Lib.hid (HV0.out.below hb0)
  have HX1 := Lib.hid (HX0.out.below hb0)
  have HR1 := Lib.hid (HR0.out.below hb0)
  have HY1 := Lib.hid (HY0.out.below hb0)
  have HW_1 := Lib.hid (HW_0.out.below hb0)
  have HL1 := Lib.hid (HL0.out.below hb0)
  clear hb0
  obtain ⟨c0, c1, c2⟩ := HX1.out
  obtain ⟨d0, d1⟩ := HR1.out
  go_wp2
  go_ret2
  exact ⟨rfl, hb1⟩

/-- a list that the call made, and no error. -/
def ListOk (zs : List Int) (w : World) (e : Ending) (w' : World) : Prop := ∃ v, e = .returned (.tuple #[v, .int .i64 0]) ∧ OwnL w' w.heap.size v zs ∧ Below w.heap.size w w'

set_option maxHeartbeats 6400000 in
theorem lcommit_ok (P Q G : Int) (Y : Option Addr) (ys : List Int) (yn yc : Nat) (B : Option Addr) (rows : List Row) (bn bc : Nat) (L : Option Addr) (ls : List Int) (ln lc : Nat) (hr : Hid (chkR P Q G ys rows ls [] = 0)) (hyn : Hid (ys.length = yn)) (hbn : Hid (rows.length = bn)) (hln : Hid (ls.length = ln)) (hlb : ln < 1000000) (hQ : Q < 9223372036854775808) (w : World) (hv : Hid (Vars w)) (hY : Hid (Sl w Y ys)) (hB : Hid (Rw w B rows)) (hL : Hid (Sl w L ls)) :
    Calls Tryd.prog 12 #[gv P Q G, relV Y yn yc B bn bc, .slice L ln lc] w (ListOk (rows.map fun r => prodF P 1 r.xs ls) w) := by
  obtain ⟨w0, hW⟩ : ∃ W, (w.alloc (gObj P Q G)).alloc (relO Y yn yc B bn bc) = W := ⟨_, rfl⟩
  have HBw : Hid (Below w.heap.size w w0) := Lib.hid (by rw [← hW]; exact below_two (Below.refl _ _))
  have HX0 : Hid (GBox w0 w.heap.size P Q G) := Lib.hid (by rw [← hW]; exact (gbox_alloc w P Q G).below (below_box0 _ _))
  have HR0 : Hid (RBox w0 (w.heap.size + 1) (.slice Y yn yc) (.slice B bn bc)) := Lib.hid (by rw [← hW]; exact rbox_alloc1 _ _ _ _ _)
  have HY0 : Hid (Sl w0 Y ys) := Lib.hid (hY.out.below HBw.out)
  have HW_0 : Hid (Rw w0 B rows) := Lib.hid (hB.out.below HBw.out)
  have HL0 : Hid (Sl w0 L ls) := Lib.hid (hL.out.below HBw.out)
  have HV0 : Hid (Vars w0) := Lib.hid (hv.out.below HBw.out)
  have HW := Lib.hid hW
  have hsz := HBw.out.size
  clear hW hY hB hL hv
  obtain ⟨k1, k2, k3, k4⟩ := chkR_0 hr.out
  obtain ⟨v1, v2, v3, v4, v5, v6, v7, v8⟩ := validR_parts k1
  obtain ⟨hp2, hp, hq3, hqp⟩ := validG_P v1
  rw [← k2, hln.out] at v8
  have HRB := Lib.hid v8
  have HLS := Lib.hid k3
  have hbb : bn < 1000000 := by rw [← hbn.out]; omega
  clear k1 k2 k3 k4 v1 v2 v3 v4 v5 v6 v7 v8
  go_enter Tryd.func12, Tryd.ntmps12
  go_wp2_with fail
  rw [HW.out]
  go_wp2_with fail
  refine (lcheck_any P Q G Y ys yn yc B rows bn bc L ls ln lc none [] 0 0 0 hr hyn hbn hln hlb (Lib.hid rfl) (by omega) hQ _ HV0 HY0 HW_0 HL0 (Lib.hid (sl_nil _))).mono ?_
  rintro e w1 ⟨rfl, hb0⟩
  have hb1 := below_ext (HBw.out) hb0
  have HV1 := Lib.hid (HV0.out.below hb0)
  have HX1 := Lib.hid (HX0.out.below hb0)
  have HR1 := Lib.hid (HR0.out.below hb0)
  have HY1 := Lib.hid (HY0.out.below hb0)
  have HW_1 := Lib.hid (HW_0.out.below hb0)
  have HL1 := Lib.hid (HL0.out.below hb0)
  clear hb0
  obtain ⟨c0, c1, c2⟩ := HX1.out
  obtain ⟨d0, d1⟩ := HR1.out
  go_wp2_with fail
  refine (lproducts_any P Q G B rows bn bc L ls ln lc hbn hln hlb hbb HRB HLS hp2 hp hQ _ HW_1 HL1).mono ?_
  rintro e w2 ⟨v, rfl, ho, hb0⟩
  have HOW := Lib.hid (ho.mono (by have := hb1.size; omega : w.heap.size ≤ w1.heap.size))
  have hbF := below_ext hb1 hb0
  clear ho hb0
  go_wp2
  go_ret2
  exact ⟨_, rfl, HOW.out, hbF⟩
end Go.Proofs.YtijedphpcocfnaaDoor
