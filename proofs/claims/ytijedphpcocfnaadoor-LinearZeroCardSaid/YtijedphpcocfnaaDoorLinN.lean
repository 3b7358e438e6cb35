/- fault, of the statements of layer 17. -/
import Derived.Test.YtijedphpcocfnaaDoorLinM
namespace Go.Proofs.YtijedphpcocfnaaDoor
open Go.RowKit SpM
set_option linter.unusedVariables false
set_option linter.unusedSimpArgs false
set_option maxRecDepth 20000

set_option maxHeartbeats 6400000 in
theorem fault_1a (P Q G : Int) (Y : Option Addr) (ys : List Int) (yn yc : Nat) (B : Option Addr) (rows : List Row) (bn bc : Nat) (L : Option Addr) (ls : List Int) (ln lc : Nat) (c : Int) (hyn : Hid (ys.length = yn)) (hbn : Hid (rows.length = bn)) (hln : Hid (ls.length = ln)) (hlb : ln < 1000000) (HVL : Hid (validR P Q G ys rows = false)) (hQ : Q < 9223372036854775808) (w : World) (hY : Hid (Sl w Y ys)) (hB : Hid (Rw w B rows)) (hL : Hid (Sl w L ls)) :
    Calls Tryd.prog 17 #[gv P Q G, relV Y yn yc B bn bc, .slice L ln lc, .int .i64 c] w fun e' w' => e' = .returned (.int .i64 1) ∧ Below w.heap.size w w' := by
  obtain ⟨w0, hW⟩ : ∃ W, (w.alloc (gObj P Q G)).alloc (relO Y yn yc B bn bc) = W := ⟨_, rfl⟩
  have HBw : Hid (Below w.heap.size w w0) := Lib.hid (by rw [← hW]; exact below_two (Below.refl _ _))
  have HX0 : Hid (GBox w0 w.heap.size P Q G) := Lib.hid (by rw [← hW]; exact (gbox_alloc w P Q G).below (below_box0 _ _))
  have HR0 : Hid (RBox w0 (w.heap.size + 1) (.slice Y yn yc) (.slice B bn bc)) := Lib.hid (by rw [← hW]; exact rbox_alloc1 _ _ _ _ _)
  have HY0 : Hid (Sl w0 Y ys) := Lib.hid (hY.out.below HBw.out)
  have HW_0 : Hid (Rw w0 B rows) := Lib.hid (hB.out.below HBw.out)
  have HL0 : Hid (Sl w0 L ls) := Lib.hid (hL.out.below HBw.out)
  have HW := Lib.hid hW
  clear hW hY hB hL
  go_enter Tryd.func17, Tryd.ntmps17
  go_wp2_with fail
  rw [HW.out]
  go_wp2_with fail
  refine (rvalid17_any P Q G Y ys yn yc B rows bn bc false HVL hyn hbn hQ _ HY0 HW_0).mono ?_
  rintro e w1 ⟨rfl, hb0⟩
  have hb1 := below_ext (HBw.out) hb0
  have HX1 := Lib.hid (HX0.out.below hb0)
  have HR1 := Lib.hid (HR0.out.below hb0)
  have HY1 := Lib.hid (HY0.out.below hb0)
  have HW_1 := Lib.hid (HW_0.out.below hb0)
  have HL1 := Lib.hid (HL0.out.below hb0)
  clear hb0
  obtain ⟨c0, c1, c2⟩ := HX1.out
  obtain ⟨d0, d1⟩ := HR1.out
  go_wp2
  go_ret
  exact ⟨rfl, hb1⟩

set_option maxHeartbeats 6400000 in
theorem fault_1b (P Q G : Int) (Y : Option Addr) (ys : List Int) (yn yc : Nat) (B : Option Addr) (rows : List Row) (bn bc : Nat) (L : Option Addr) (ls : List Int) (ln lc : Nat) (c : Int) (hyn : Hid (ys.length = yn)) (hbn : Hid (rows.length = bn)) (hln : Hid (ls.length = ln)) (hlb : ln < 1000000) (HVL : Hid (validR P Q G ys rows = true)) (hlen : ls.length ≠ rowN rows) (hQ : Q < 9223372036854775808) (w : World) (hY : Hid (Sl w Y ys)) (hB : Hid (Rw w B rows)) (hL : Hid (Sl w L ls)) :
    Calls Tryd.prog 17 #[gv P Q G, relV Y yn yc B bn bc, .slice L ln lc, .int .i64 c] w fun e' w' => e' = .returned (.int .i64 1) ∧ Below w.heap.size w w' := by
  obtain ⟨w0, hW⟩ : ∃ W, (w.alloc (gObj P Q G)).alloc (relO Y yn yc B bn bc) = W := ⟨_, rfl⟩
  have HBw : Hid (Below w.heap.size w w0) := Lib.hid (by rw [← hW]; exact below_two (Below.refl _ _))
  have HX0 : Hid (GBox w0 w.heap.size P Q G) := Lib.hid (by rw [← hW]; exact (gbox_alloc w P Q G).below (below_box0 _ _))
  have HR0 : Hid (RBox w0 (w.heap.size + 1) (.slice Y yn yc) (.slice B bn bc)) := Lib.hid (by rw [← hW]; exact rbox_alloc1 _ _ _ _ _)
  have HY0 : Hid (Sl w0 Y ys) := Lib.hid (hY.out.below HBw.out)
  have HW_0 : Hid (Rw w0 B rows) := Lib.hid (hB.out.below HBw.out)
  have HL0 : Hid (Sl w0 L ls) := Lib.hid (hL.out.below HBw.out)
  have HW := Lib.hid hW
  clear hW hY hB hL
  obtain ⟨v1, v2, v3, v4, v5, v6, v7, v8⟩ := validR_parts HVL.out
  have hbp : 0 < bn := by rw [← hbn.out]; omega
  obtain ⟨n0, hn0⟩ : ∃ n, rowN rows = n := ⟨_, rfl⟩
  have HN := Lib.hid hn0
  clear v1 v2 v3 v4 v5 v6 v7 v8
  have hne : ((ln : Int) != (n0 : Int)) = true := by rw [← hln.out, ← hn0]; simp; omega
  clear hn0
  go_enter Tryd.func17, Tryd.ntmps17
  go_wp2_with fail
  rw [HW.out]
  go_wp2_with fail
  refine (rvalid17_any P Q G Y ys yn yc B rows bn bc true HVL hyn hbn hQ _ HY0 HW_0).mono ?_
  rintro e w1 ⟨rfl, hb0⟩
  have hb1 := below_ext (HBw.out) hb0
  have HX1 := Lib.hid (HX0.out.below hb0)
  have HR1 := Lib.hid (HR0.out.below hb0)
  have HY1 := Lib.hid (HY0.out.below hb0)
  have HW_1 := Lib.hid (HW_0.out.below hb0)
  have HL1 := Lib.hid (HL0.out.below hb0)
  clear hb0
  obtain ⟨c0, c1, c2⟩ := HX1.out
  obtain ⟨d0, d1⟩ := HR1.out
  go_wp2_with fail
  refine (runknowns_any Y yn yc B rows bn bc n0 hbn hbp HN _ HW_1).mono ?_
  rintro e w2 ⟨rfl, hb0⟩
  have hb2 := below_ext hb1 hb0
  have HX2 := Lib.hid (HX1.out.below hb0)
  have HR2 := Lib.hid (HR1.out.below hb0)
  have HY2 := Lib.hid (HY1.out.below hb0)
  have HW_2 := Lib.hid (HW_1.out.below hb0)
  have HL2 := Lib.hid (HL1.out.below hb0)
  clear c0 c1 c2 d0 d1 hb0
  obtain ⟨c0, c1, c2⟩ := HX2.out
  obtain ⟨d0, d1⟩ := HR2.out
  go_wp2
  go_ret
  exact ⟨rfl, hb2⟩

set_option maxHeartbeats 6400000 in
theorem fault_2a (P Q G : Int) (Y : Option Addr) (ys : List Int) (yn yc : Nat) (B : Option Addr) (rows : List Row) (bn bc : Nat) (L : Option Addr) (ls : List Int) (ln lc : Nat) (c : Int) (hyn : Hid (ys.length = yn)) (hbn : Hid (rows.length = bn)) (hln : Hid (ls.length = ln)) (hlb : ln < 1000000) (HVL : Hid (validR P Q G ys rows = true)) (hlen : ls.length = rowN rows) (Hl : Hid (ls.all (scB Q) = false)) (hQ : Q < 9223372036854775808) (w : World) (hY : Hid (Sl w Y ys)) (hB : Hid (Rw w B rows)) (hL : Hid (Sl w L ls)) :
    Calls Tryd.prog 17 #[gv P Q G, relV Y yn yc B bn bc, .slice L ln lc, .int .i64 c] w fun e' w' => e' = .returned (.int .i64 2) ∧ Below w.heap.size w w' := by
  obtain ⟨w0, hW⟩ : ∃ W, (w.alloc (gObj P Q G)).alloc (relO Y yn yc B bn bc) = W := ⟨_, rfl⟩
  have HBw : Hid (Below w.heap.size w w0) := Lib.hid (by rw [← hW]; exact below_two (Below.refl _ _))
  have HX0 : Hid (GBox w0 w.heap.size P Q G) := Lib.hid (by rw [← hW]; exact (gbox_alloc w P Q G).below (below_box0 _ _))
  have HR0 : Hid (RBox w0 (w.heap.size + 1) (.slice Y yn yc) (.slice B bn bc)) := Lib.hid (by rw [← hW]; exact rbox_alloc1 _ _ _ _ _)
  have HY0 : Hid (Sl w0 Y ys) := Lib.hid (hY.out.below HBw.out)
  have HW_0 : Hid (Rw w0 B rows) := Lib.hid (hB.out.below HBw.out)
  have HL0 : Hid (Sl w0 L ls) := Lib.hid (hL.out.below HBw.out)
  have HW := Lib.hid hW
  clear hW hY hB hL
  obtain ⟨v1, v2, v3, v4, v5, v6, v7, v8⟩ := validR_parts HVL.out
  have hbp : 0 < bn := by rw [← hbn.out]; omega
  obtain ⟨n0, hn0⟩ : ∃ n, rowN rows = n := ⟨_, rfl⟩
  have HN := Lib.hid hn0
  clear v1 v2 v3 v4 v5 v6 v7 v8
  have hne : ((ln : Int) != (n0 : Int)) = false := by rw [← hln.out, ← hn0]; simp; omega
  clear hn0
  go_enter Tryd.func17, Tryd.ntmps17
  go_wp2_with fail
  rw [HW.out]
  go_wp2_with fail
  refine (rvalid17_any P Q G Y ys yn yc B rows bn bc true HVL hyn hbn hQ _ HY0 HW_0).mono ?_
  rintro e w1 ⟨rfl, hb0⟩
  have hb1 := below_ext (HBw.out) hb0
  have HX1 := Lib.hid (HX0.out.below hb0)
  have HR1 := Lib.hid (HR0.out.below hb0)
  have HY1 := Lib.hid (HY0.out.below hb0)
  have HW_1 := Lib.hid (HW_0.out.below hb0)
  have HL1 := Lib.hid (HL0.out.below hb0)
  clear hb0
  obtain ⟨c0, c1, c2⟩ := HX1.out
  obtain ⟨d0, d1⟩ := HR1.out
  go_wp2_with fail
  refine (runknowns_any Y yn yc B rows bn bc n0 hbn hbp HN _ HW_1).mono ?_
  rintro e w2 ⟨rfl, hb0⟩
  have hb2 := below_ext hb1 hb0
  have HX2 := Lib.hid (HX1.out.below hb0)
  have HR2 := Lib.hid (HR1.out.below hb0)
  have HY2 := Lib.hid (HY1.out.below hb0)
  have HW_2 := Lib.hid (HW_1.out.below hb0)
  have HL2 := Lib.hid (HL1.out.below hb0)
  clear c0 c1 c2 d0 d1 hb0
  obtain ⟨c0, c1, c2⟩ := HX2.out
  obtain ⟨d0, d1⟩ := HR2.out
  go_wp2_with fail
  refine (rscalars_any P Q G L ls ln lc false Hl hln hlb _ HL2).mono ?_
  rintro e w3 ⟨rfl, hb0⟩
  have hb3 := below_ext hb2 hb0
  have HX3 := Lib.hid (HX2.out.below hb0)
  have HR3 := Lib.hid (HR2.out.below hb0)
  have HY3 := Lib.hid (HY2.out.below hb0)
  have HW_3 := Lib.hid (HW_2.out.below hb0)
  have HL3 := Lib.hid (HL2.out.below hb0)
  clear c0 c1 c2 d0 d1 hb0
  obtain ⟨c0, c1, c2⟩ := HX3.out
  obtain ⟨d0, d1⟩ := HR3.out
  go_wp2
  go_ret
  exact ⟨rfl, hb3⟩

set_option maxHeartbeats 6400000 in
theorem fault_2b (P Q G : Int) (Y : Option Addr) (ys : List Int) (yn yc : Nat) (B : Option Addr) (rows : List Row) (bn bc : Nat) (L : Option Addr) (ls : List Int) (ln lc : Nat) (c : Int) (hyn : Hid (ys.length = yn)) (hbn : Hid (rows.length = bn)) (hln : Hid (ls.length = ln)) (hlb : ln < 1000000) (HVL : Hid (validR P Q G ys rows = true)) (hlen : ls.length = rowN rows) (Hl : Hid (ls.all (scB Q) = true)) (hc0 : c < 0) (hQ : Q < 9223372036854775808) (w : World) (hY : Hid (Sl w Y ys)) (hB : Hid (Rw w B rows)) (hL : Hid (Sl w L ls)) :
    Calls Tryd.prog 17 #[gv P Q G, relV Y yn yc B bn bc, .slice L ln lc, .int .i64 c] w fun e' w' => e' = .returned (.int .i64 2) ∧ Below w.heap.size w w' := by
  obtain ⟨w0, hW⟩ : ∃ W, (w.alloc (gObj P Q G)).alloc (relO Y yn yc B bn bc) = W := ⟨_, rfl⟩
  have HBw : Hid (Below w.heap.size w w0) := Lib.hid (by rw [← hW]; exact below_two (Below.refl _ _))
  have HX0 : Hid (GBox w0 w.heap.size P Q G) := Lib.hid (by rw [← hW]; exact (gbox_alloc w P Q G).below (below_box0 _ _))
  have HR0 : Hid (RBox w0 (w.heap.size + 1) (.slice Y yn yc) (.slice B bn bc)) := Lib.hid (by rw [← hW]; exact rbox_alloc1 _ _ _ _ _)
  have HY0 : Hid (Sl w0 Y ys) := Lib.hid (hY.out.below HBw.out)
  have HW_0 : Hid (Rw w0 B rows) := Lib.hid (hB.out.below HBw.out)
  have HL0 : Hid (Sl w0 L ls) := Lib.hid (hL.out.below HBw.out)
  have HW := Lib.hid hW
  clear hW hY hB hL
  obtain ⟨v1, v2, v3, v4, v5, v6, v7, v8⟩ := validR_parts HVL.out
  have hbp : 0 < bn := by rw [← hbn.out]; omega
  obtain ⟨n0, hn0⟩ : ∃ n, rowN rows = n := ⟨_, rfl⟩
  have HN := Lib.hid hn0
  clear v1 v2 v3 v4 v5 v6 v7 v8
  have hne : ((ln : Int) != (n0 : Int)) = false := by rw [← hln.out, ← hn0]; simp; omega
  clear hn0
  have e0 : decide (c < 0) = true := by simp; omega
  go_enter Tryd.func17, Tryd.ntmps17
  go_wp2_with fail
  rw [HW.out]
  go_wp2_with fail
  refine (rvalid17_any P Q G Y ys yn yc B rows bn bc true HVL hyn hbn hQ _ HY0 HW_0).mono ?_
  rintro e w1 ⟨rfl, hb0⟩
  have hb1 := below_ext (HBw.out) hb0
  have HX1 := Lib.hid (HX0.out.below hb0)
  have HR1 := Lib.hid (HR0.out.below hb0)
  have HY1 := Lib.hid (HY0.out.below hb0)
  have HW_1 := Lib.hid (HW_0.out.below hb0)
  have HL1 := Lib.hid (HL0.out.below hb0)
  clear hb0
  obtain ⟨c0, c1, c2⟩ := HX1.out
  obtain ⟨d0, d1⟩ := HR1.out
  go_wp2_with fail
  refine (runknowns_any Y yn yc B rows bn bc n0 hbn hbp HN _ HW_1).mono ?_
  rintro e w2 ⟨rfl, hb0⟩
  have hb2 := below_ext hb1 hb0
  have HX2 := Lib.hid (HX1.out.below hb0)
  have HR2 := Lib.hid (HR1.out.below hb0)
  have HY2 := Lib.hid (HY1.out.below hb0)
  have HW_2 := Lib.hid (HW_1.out.below hb0)
  have HL2 := Lib.hid (HL1.out.below hb0)
  clear c0 c1 c2 d0 d1 hb0
  obtain ⟨c0, c1, c2⟩ := HX2.out
  obtain ⟨d0, d1⟩ := HR2.out
  go_wp2_with fail
  refine (rscalars_any P Q G L ls ln lc true Hl hln hlb _ HL2).mono ?_
  rintro e w3 ⟨rfl, hb0⟩
  have hb3 := below_ext hb2 hb0
  have HX3 := Lib.hid (HX2.out.below hb0)
  have HR3 := Lib.hid (HR2.out.below hb0)
  have HY3 := Lib.hid (HY2.out.below hb0)
  have HW_3 := Lib.hid (HW_2.out.below hb0)
  have HL3 := Lib.hid (HL2.out.below hb0)
  clear c0 c1 c2 d0 d1 hb0
  obtain ⟨c0, c1, c2⟩ := HX3.out
  obtain ⟨d0, d1⟩ := HR3.out
  go_wp2
  go_ret
  exact ⟨rfl, hb3⟩

set_option maxHeartbeats 6400000 in
theorem fault_2c (P Q G : Int) (Y : Option Addr) (ys : List Int) (yn yc : Nat) (B : Option Addr) (rows : List Row) (bn bc : Nat) (L : Option Addr) (ls : List Int) (ln lc : Nat) (c : Int) (hyn : Hid (ys.length = yn)) (hbn : Hid (rows.length = bn)) (hln : Hid (ls.length = ln)) (hlb : ln < 1000000) (HVL : Hid (validR P Q G ys rows = true)) (hlen : ls.length = rowN rows) (Hl : Hid (ls.all (scB Q) = true)) (hc0 : 0 ≤ c) (hc1 : Q ≤ c) (hQ : Q < 9223372036854775808) (w : World) (hY : Hid (Sl w Y ys)) (hB : Hid (Rw w B rows)) (hL : Hid (Sl w L ls)) :
    Calls Tryd.prog 17 #[gv P Q G, relV Y yn yc B bn bc, .slice L ln lc, .int .i64 c] w fun e' w' => e' = .returned (.int .i64 2) ∧ Below w.heap.size w w' := by
  obtain ⟨w0, hW⟩ : ∃ W, (w.alloc (gObj P Q G)).alloc (relO Y yn yc B bn bc) = W := ⟨_, rfl⟩
  have HBw : Hid (Below w.heap.size w w0) := Lib.hid (by rw [← hW]; exact below_two (Below.refl _ _))
  have HX0 : Hid (GBox w0 w.heap.size P Q G) := Lib.hid (by rw [← hW]; exact (gbox_alloc w P Q G).below (below_box0 _ _))
  have HR0 : Hid (RBox w0 (w.heap.size + 1) (.slice Y yn yc) (.slice B bn bc)) := Lib.hid (by rw [← hW]; exact rbox_alloc1 _ _ _ _ _)
  have HY0 : Hid (Sl w0 Y ys) := Lib.hid (hY.out.below HBw.out)
  have HW_0 : Hid (Rw w0 B rows) := Lib.hid (hB.out.below HBw.out)
  have HL0 : Hid (Sl w0 L ls) := Lib.hid (hL.out.below HBw.out)
  have HW := Lib.hid hW
  clear hW hY hB hL
  obtain ⟨v1, v2, v3, v4, v5, v6, v7, v8⟩ := validR_parts HVL.out
  have hbp : 0 < bn := by rw [← hbn.out]; omega
  obtain ⟨n0, hn0⟩ : ∃ n, rowN rows = n := ⟨_, rfl⟩
  have HN := Lib.hid hn0
  clear v1 v2 v3 v4 v5 v6 v7 v8
  have hne : ((ln : Int) != (n0 : Int)) = false := by rw [← hln.out, ← hn0]; simp; omega
  clear hn0
  have e0 : decide (c < 0) = false := by simp; omega
  have e1 : decide (Q ≤ c) = true := by simp; omega
  go_enter Tryd.func17, Tryd.ntmps17
  go_wp2_with fail
  rw [HW.out]
  go_wp2_with fail
  refine (rvalid17_any P Q G Y ys yn yc B rows bn bc true HVL hyn hbn hQ _ HY0 HW_0).mono ?_
  rintro e w1 ⟨rfl, hb0⟩
  have hb1 := below_ext (HBw.out) hb0
  have HX1 := Lib.hid (HX0.out.below hb0)
  have HR1 := Lib.hid (HR0.out.below hb0)
  have HY1 := Lib.hid (HY0.out.below hb0)
  have HW_1 := Lib.hid (HW_0.out.below hb0)
  have HL1 := Lib.hid (HL0.out.below hb0)
  clear hb0
  obtain ⟨c0, c1, c2⟩ := HX1.out
  obtain ⟨d0, d1⟩ := HR1.out
  go_wp2_with fail
  refine (runknowns_any Y yn yc B rows bn bc n0 hbn hbp HN _ HW_1).mono ?_
  rintro e w2 ⟨rfl, hb0⟩
  have hb2 := below_ext hb1 hb0
  have HX2 := Lib.hid (HX1.out.below hb0)
  have HR2 := Lib.hid (HR1.out.below hb0)
  have HY2 := Lib.hid (HY1.out.below hb0)
  have HW_2 := Lib.hid (HW_1.out.below hb0)
  have HL2 := Lib.hid (HL1.out.below hb0)
  clear c0 c1 c2 d0 d1 hb0
  obtain ⟨c0, c1, c2⟩ := HX2.out
  obtain ⟨d0, d1⟩ := HR2.out
  go_wp2_with fail
  refine (rscalars_any P Q G L ls ln lc true Hl hln hlb _ HL2).mono ?_
  rintro e w3 ⟨rfl, hb0⟩
  have hb3 := below_ext hb2 hb0
  have HX3 := Lib.hid (HX2.out.below hb0)
  have HR3 := Lib.hid (HR2.out.below hb0)
  have HY3 := Lib.hid (HY2.out.below hb0)
  have HW_3 := Lib.hid (HW_2.out.below hb0)
  have HL3 := Lib.hid (HL2.out.below hb0)
  clear c0 c1 c2 d0 d1 hb0
  obtain ⟨c0, c1, c2⟩ := HX3.out
  obtain ⟨d0, d1⟩ := HR3.out
  go_wp2
  go_ret
  exact ⟨rfl, hb3⟩

set_option maxHeartbeats 6400000 in
theorem fault_0 (P Q G : Int) (Y : Option Addr) (ys : List Int) (yn yc : Nat) (B : Option Addr) (rows : List Row) (bn bc : Nat) (L : Option Addr) (ls : List Int) (ln lc : Nat) (c : Int) (hyn : Hid (ys.length = yn)) (hbn : Hid (rows.length = bn)) (hln : Hid (ls.length = ln)) (hlb : ln < 1000000) (HVL : Hid (validR P Q G ys rows = true)) (hlen : ls.length = rowN rows) (Hl : Hid (ls.all (scB Q) = true)) (hc0 : 0 ≤ c) (hc1 : c < Q) (hQ : Q < 9223372036854775808) (w : World) (hY : Hid (Sl w Y ys)) (hB : Hid (Rw w B rows)) (hL : Hid (Sl w L ls)) :
    Calls Tryd.prog 17 #[gv P Q G, relV Y yn yc B bn bc, .slice L ln lc, .int .i64 c] w fun e' w' => e' = .returned (.int .i64 0) ∧ Below w.heap.size w w' := by
  obtain ⟨w0, hW⟩ : ∃ W, (w.alloc (gObj P Q G)).alloc (relO Y yn yc B bn bc) = W := ⟨_, rfl⟩
  have HBw : Hid (Below w.heap.size w w0) := Lib.hid (by rw [← hW]; exact below_two (Below.refl _ _))
  have HX0 : Hid (GBox w0 w.heap.size P Q G) := Lib.hid (by rw [← hW]; exact (gbox_alloc w P Q G).below (below_box0 _ _))
  have HR0 : Hid (RBox w0 (w.heap.size + 1) (.slice Y yn yc) (.slice B bn bc)) := Lib.hid (by rw [← hW]; exact rbox_alloc1 _ _ _ _ _)
  have HY0 : Hid (Sl w0 Y ys) := Lib.hid (hY.out.below HBw.out)
  have HW_0 : Hid (Rw w0 B rows) := Lib.hid (hB.out.below HBw.out)
  have HL0 : Hid (Sl w0 L ls) := Lib.hid (hL.out.below HBw.out)
  have HW := Lib.hid hW
  clear hW hY hB hL
  obtain ⟨v1, v2, v3, v4, v5, v6, v7, v8⟩ := validR_parts HVL.out
  have hbp : 0 < bn := by rw [← hbn.out]; omega
  obtain ⟨n0, hn0⟩ : ∃ n, rowN rows = n := ⟨_, rfl⟩
  have HN := Lib.hid hn0
  clear v1 v2 v3 v4 v5 v6 v7 v8
  have hne : ((ln : Int) != (n0 : Int)) = false := by rw [← hln.out, ← hn0]; simp; omega
  clear hn0
  have e0 : decide (c < 0) = false := by simp; omega
  have e1 : decide (Q ≤ c) = false := by simp; omega
  go_enter Tryd.func17, Tryd.ntmps17
  go_wp2_with fail
  rw [HW.out]
  go_wp2_with fail
  refine (rvalid17_any P Q G Y ys yn yc B rows bn bc true HVL hyn hbn hQ _ HY0 HW_0).mono ?_
  rintro e w1 ⟨rfl, hb0⟩
  have hb1 := below_ext (HBw.out) hb0
  have HX1 := Lib.hid (HX0.out.below hb0)
  have HR1 := Lib.hid (HR0.out.below hb0)
  have HY1 := Lib.hid (HY0.out.below hb0)
  have HW_1 := Lib.hid (HW_0.out.below hb0)
  have HL1 := Lib.hid (HL0.out.below hb0)
  clear hb0
  obtain ⟨c0, c1, c2⟩ := HX1.out
  obtain ⟨d0, d1⟩ := HR1.out
  go_wp2_with fail
  refine (runknowns_any Y yn yc B rows bn bc n0 hbn hbp HN _ HW_1).mono ?_
  rintro e w2 ⟨rfl, hb0⟩
  have hb2 := below_ext hb1 hb0
  have HX2 := Lib.hid (HX1.out.below hb0)
  have HR2 := Lib.hid (HR1.out.below hb0)
  have HY2 := Lib.hid (HY1.out.below hb0)
  have HW_2 := Lib.hid (HW_1.out.below hb0)
  have HL2 := Lib.hid (HL1.out.below hb0)
  clear c0 c1 c2 d0 d1 hb0
  obtain ⟨c0, c1, c2⟩ := HX2.out
  obtain ⟨d0, d1⟩ := HR2.out
  go_wp2_with fail
  refine (rscalars_any P Q G L ls ln lc true Hl hln hlb _ HL2).mono ?_
  rintro e w3 ⟨rfl, hb0⟩
  have hb3 := below_ext hb2 hb0
  have HX3 := Lib.hid (HX2.out.below hb0)
  have HR3 := Lib.hid (HR2.out.below hb0)
  have HY3 := Lib.hid (HY2.out.below hb0)
  have HW_3 := Lib.hid (HW_2.out.below hb0)
  have HL3 := Lib.hid (HL2.out.below hb0)
  clear c0 c1 c2 d0 d1 hb0
  obtain ⟨c0, c1, c2⟩ := HX3.out
  obtain ⟨d0, d1⟩ := HR3.out
  go_wp2
  go_ret
  exact ⟨rfl, hb3⟩

theorem fault_any (P Q G : Int) (Y : Option Addr) (ys : List Int) (yn yc : Nat) (B : Option Addr) (rows : List Row) (bn bc : Nat) (L : Option Addr) (ls : List Int) (ln lc : Nat) (c : Int) (r : Int) (hr : Hid (chkR P Q G ys rows ls [c] = r)) (hyn : Hid (ys.length = yn)) (hbn : Hid (rows.length = bn)) (hln : Hid (ls.length = ln)) (hlb : ln < 1000000) (hQ : Q < 9223372036854775808) (w : World) (hY : Hid (Sl w Y ys)) (hB : Hid (Rw w B rows)) (hL : Hid (Sl w L ls)) :
    Calls Tryd.prog 17 #[gv P Q G, relV Y yn yc B bn bc, .slice L ln lc, .int .i64 c] w fun e' w' => e' = .returned (.int .i64 r) ∧ Below w.heap.size w w' := by
  have hr' := hr.out
  unfold chkR at hr'
  cases h1 : validR P Q G ys rows with
  | false =>
    rw [h1] at hr'
    obtain rfl : r = 1 := hr'.symm
    exact fault_1a P Q G Y ys yn yc B rows bn bc L ls ln lc c hyn hbn hln hlb (Lib.hid h1) hQ w hY hB hL
  | true =>
    rw [h1, if_pos rfl] at hr'
    by_cases h2 : ls.length = rowN rows
    · rw [if_pos h2] at hr'
      cases h3 : ls.all (scB Q) with
      | false =>
        rw [h3] at hr'
        obtain rfl : r = 2 := hr'.symm
        exact fault_2a P Q G Y ys yn yc B rows bn bc L ls ln lc c hyn hbn hln hlb (Lib.hid h1) h2 (Lib.hid h3) hQ w hY hB hL
      | true =>
        rw [h3, if_pos rfl] at hr'
        have e : [c].all (scB Q) = scB Q c := by simp
        rw [e] at hr'
        by_cases h4 : c < 0
        · rw [scB_neg h4] at hr'
          obtain rfl : r = 2 := hr'.symm
          exact fault_2b P Q G Y ys yn yc B rows bn bc L ls ln lc c hyn hbn hln hlb (Lib.hid h1) h2 (Lib.hid h3) h4 hQ w hY hB hL
        · by_cases h5 : Q ≤ c
          · rw [scB_big h5] at hr'
            obtain rfl : r = 2 := hr'.symm
            exact fault_2c P Q G Y ys yn yc B rows bn bc L ls ln lc c hyn hbn hln hlb (Lib.hid h1) h2 (Lib.hid h3) (by omega) h5 hQ w hY hB hL
          · rw [scB_in h4 h5, if_pos rfl] at hr'
            obtain rfl : r = 0 := hr'.symm
            exact fault_0 P Q G Y ys yn yc B rows bn bc L ls ln lc c hyn hbn hln hlb (Lib.hid h1) h2 (Lib.hid h3) (by omega) (by omega) hQ w hY hB hL
    · rw [if_neg h2] at hr'
      obtain rfl : r = 1 := hr'.symm
      exact fault_1b P Q G Y ys yn yc B rows bn bc L ls ln lc c hyn hbn hln hlb (Lib.hid h1) h2 hQ w hY hB hL
end Go.Proofs.YtijedphpcocfnaaDoor
