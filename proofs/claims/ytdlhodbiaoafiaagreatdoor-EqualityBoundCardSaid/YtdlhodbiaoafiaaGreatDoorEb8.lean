/- Contracts and lemmas: EqQ. -/
import Derived.Test.YtdlhodbiaoafiaaGreatDoorEb7
namespace Go.Proofs.YtdlhodbiaoafiaaGreatDoor
open Go.RowKit SpM
set_option linter.unusedVariables false
set_option linter.unusedSimpArgs false
set_option maxRecDepth 100000
set_option maxHeartbeats 25600000 in
theorem eb_s (P Q G a b x : Int) (s o : ByteArray) (h : List Int) (c : Int) (hl : Hid (h.length = 32)) (hhb : Hid (bytesB h = true)) (hQ : Q < 9223372036854775808) (hs : 100 < s.size) (w : World) (hv : Hid (Vars w)) (hd : Hid (VarsD w)) :
    Calls Tryz.prog 6 #[gv P Q G, .int .i64 a, .int .i64 b, .int .i64 x, .string s, .string o, .agg (tcs h c)] w fun e' w' => e' = .returned (.bool true) ∧ Below w.heap.size w w' := by
  have dl : decide ((100 : Int) < (s.size : Int)) = true := by simp; omega
  obtain ⟨w0, hW⟩ : ∃ W, ((w.alloc (gObj P Q G)).alloc (.cells (tcs h c) 56)) = W := ⟨_, rfl⟩
  have HBw : Hid (Below w.heap.size w w0) := Lib.hid (by rw [← hW]; exact below_two (Below.refl _ _))
  have hc : w0.cell? ⟨w.heap.size, 0, none⟩ = some (.int .i64 P) ∧ w0.cell? ⟨w.heap.size, 1, none⟩ = some (.int .i64 Q) ∧ w0.cell? ⟨w.heap.size, 2, none⟩ = some (.int .i64 G) := by rw [← hW]; exact ⟨cell_below (allocs_cell (by simp) (by rfl)) (below_box0 _ _), cell_below (allocs_cell (by simp) (by rfl)) (below_box0 _ _), cell_below (allocs_cell (by simp) (by rfl)) (below_box0 _ _)⟩
  have kC := Lib.hid (show ∀ u : World, Hid (Below w0.heap.size w0 u) → u.cell? ⟨w.heap.size, 0, none⟩ = some (.int .i64 P) ∧ u.cell? ⟨w.heap.size, 1, none⟩ = some (.int .i64 Q) ∧ u.cell? ⟨w.heap.size, 2, none⟩ = some (.int .i64 G) from fun u h => ⟨cell_below hc.1 h.out, cell_below hc.2.1 h.out, cell_below hc.2.2 h.out⟩)
  have kV := Lib.hid (show ∀ u : World, Hid (Below w0.heap.size w0 u) → Hid (Vars u) from fun u h => Lib.hid ((hv.out.below) (below_ext HBw.out h.out)))
  have kD := Lib.hid (show ∀ u : World, Hid (Below w0.heap.size w0 u) → Hid (VarsD u) from fun u h => Lib.hid ((hd.out.below) (below_ext HBw.out h.out)))
  have HB_0 : Hid (Below w0.heap.size w0 w0) := Lib.hid (Below.refl _ _)
  have HW := Lib.hid hW
  clear hW hc hv hd
  have HT0 : Hid (DBlk w0 (w.heap.size + 1) h c) := Lib.hid (by rw [← HW.out, show w.heap.size + 1 = (w.alloc (gObj P Q G)).heap.size by simp]; exact heap_alloc_new _ _)
  have kT := Lib.hid (show ∀ u : World, Hid (Below w0.heap.size w0 u) → Hid (DBlk u (w.heap.size + 1) h c) from fun u hh => Lib.hid (HT0.out.below hh.out))
  go_enter Tryz.func6, Tryz.ntmps6
  go_upto_region 1 with (fail)
  rw [HW.out]
  obtain ⟨zc0, zc1, zc2⟩ := kC.out _ HB_0
  go_wp2_with fail
  refine (awake18 _ (kV.out _ HB_0)).mono ?_
  rintro e w1 ⟨rfl, hb0⟩
  have HB_1 := Lib.hid (below_ext HB_0.out hb0)
  clear zc0 zc1 zc2
  clear hb0
  obtain ⟨zc0, zc1, zc2⟩ := kC.out _ HB_1
  have hbF := below_ext HBw.out HB_1.out
  go_wp2
  go_ret
  exact ⟨rfl, hbF⟩
set_option maxHeartbeats 25600000 in
theorem eb_o (P Q G a b x : Int) (s o : ByteArray) (h : List Int) (c : Int) (hl : Hid (h.length = 32)) (hhb : Hid (bytesB h = true)) (hQ : Q < 9223372036854775808) (hs : s.size ≤ 100) (ho : 100 < o.size) (w : World) (hv : Hid (Vars w)) (hd : Hid (VarsD w)) :
    Calls Tryz.prog 6 #[gv P Q G, .int .i64 a, .int .i64 b, .int .i64 x, .string s, .string o, .agg (tcs h c)] w fun e' w' => e' = .returned (.bool true) ∧ Below w.heap.size w w' := by
  have dl : decide ((100 : Int) < (s.size : Int)) = false := by simp; omega
  have dlo : decide ((100 : Int) < (o.size : Int)) = true := by simp; omega
  obtain ⟨w0, hW⟩ : ∃ W, ((w.alloc (gObj P Q G)).alloc (.cells (tcs h c) 56)) = W := ⟨_, rfl⟩
  have HBw : Hid (Below w.heap.size w w0) := Lib.hid (by rw [← hW]; exact below_two (Below.refl _ _))
  have hc : w0.cell? ⟨w.heap.size, 0, none⟩ = some (.int .i64 P) ∧ w0.cell? ⟨w.heap.size, 1, none⟩ = some (.int .i64 Q) ∧ w0.cell? ⟨w.heap.size, 2, none⟩ = some (.int .i64 G) := by rw [← hW]; exact ⟨cell_below (allocs_cell (by simp) (by rfl)) (below_box0 _ _), cell_below (allocs_cell (by simp) (by rfl)) (below_box0 _ _), cell_below (allocs_cell (by simp) (by rfl)) (below_box0 _ _)⟩
  have kC := Lib.hid (show ∀ u : World, Hid (Below w0.heap.size w0 u) → u.cell? ⟨w.heap.size, 0, none⟩ = some (.int .i64 P) ∧ u.cell? ⟨w.heap.size, 1, none⟩ = some (.int .i64 Q) ∧ u.cell? ⟨w.heap.size, 2, none⟩ = some (.int .i64 G) from fun u h => ⟨cell_below hc.1 h.out, cell_below hc.2.1 h.out, cell_below hc.2.2 h.out⟩)
  have kV := Lib.hid (show ∀ u : World, Hid (Below w0.heap.size w0 u) → Hid (Vars u) from fun u h => Lib.hid ((hv.out.below) (below_ext HBw.out h.out)))
  have kD := Lib.hid (show ∀ u : World, Hid (Below w0.heap.size w0 u) → Hid (VarsD u) from fun u h => Lib.hid ((hd.out.below) (below_ext HBw.out h.out)))
  have HB_0 : Hid (Below w0.heap.size w0 w0) := Lib.hid (Below.refl _ _)
  have HW := Lib.hid hW
  clear hW hc hv hd
  have HT0 : Hid (DBlk w0 (w.heap.size + 1) h c) := Lib.hid (by rw [← HW.out, show w.heap.size + 1 = (w.alloc (gObj P Q G)).heap.size by simp]; exact heap_alloc_new _ _)
  have kT := Lib.hid (show ∀ u : World, Hid (Below w0.heap.size w0 u) → Hid (DBlk u (w.heap.size + 1) h c) from fun u hh => Lib.hid (HT0.out.below hh.out))
  go_enter Tryz.func6, Tryz.ntmps6
  go_upto_region 1 with (fail)
  rw [HW.out]
  obtain ⟨zc0, zc1, zc2⟩ := kC.out _ HB_0
  go_wp2_with fail
  refine (awake18 _ (kV.out _ HB_0)).mono ?_
  rintro e w1 ⟨rfl, hb0⟩
  have HB_1 := Lib.hid (below_ext HB_0.out hb0)
  clear zc0 zc1 zc2
  clear hb0
  obtain ⟨zc0, zc1, zc2⟩ := kC.out _ HB_1
  have hbF := below_ext HBw.out HB_1.out
  go_wp2
  go_ret
  exact ⟨rfl, hbF⟩
set_option maxHeartbeats 25600000 in
theorem eb_v (P Q G a b x : Int) (s o : ByteArray) (h : List Int) (c : Int) (hl : Hid (h.length = 32)) (hhb : Hid (bytesB h = true)) (hQ : Q < 9223372036854775808) (hs : s.size ≤ 100) (ho : o.size ≤ 100) (HVG : Hid (validG P Q G = false)) (w : World) (hv : Hid (Vars w)) (hd : Hid (VarsD w)) :
    Calls Tryz.prog 6 #[gv P Q G, .int .i64 a, .int .i64 b, .int .i64 x, .string s, .string o, .agg (tcs h c)] w fun e' w' => e' = .returned (.bool true) ∧ Below w.heap.size w w' := by
  have dl : decide ((100 : Int) < (s.size : Int)) = false := by simp; omega
  have dlo : decide ((100 : Int) < (o.size : Int)) = false := by simp; omega
  obtain ⟨w0, hW⟩ : ∃ W, ((w.alloc (gObj P Q G)).alloc (.cells (tcs h c) 56)) = W := ⟨_, rfl⟩
  have HBw : Hid (Below w.heap.size w w0) := Lib.hid (by rw [← hW]; exact below_two (Below.refl _ _))
  have hc : w0.cell? ⟨w.heap.size, 0, none⟩ = some (.int .i64 P) ∧ w0.cell? ⟨w.heap.size, 1, none⟩ = some (.int .i64 Q) ∧ w0.cell? ⟨w.heap.size, 2, none⟩ = some (.int .i64 G) := by rw [← hW]; exact ⟨cell_below (allocs_cell (by simp) (by rfl)) (below_box0 _ _), cell_below (allocs_cell (by simp) (by rfl)) (below_box0 _ _), cell_below (allocs_cell (by simp) (by rfl)) (below_box0 _ _)⟩
  have kC := Lib.hid (show ∀ u : World, Hid (Below w0.heap.size w0 u) → u.cell? ⟨w.heap.size, 0, none⟩ = some (.int .i64 P) ∧ u.cell? ⟨w.heap.size, 1, none⟩ = some (.int .i64 Q) ∧ u.cell? ⟨w.heap.size, 2, none⟩ = some (.int .i64 G) from fun u h => ⟨cell_below hc.1 h.out, cell_below hc.2.1 h.out, cell_below hc.2.2 h.out⟩)
  have kV := Lib.hid (show ∀ u : World, Hid (Below w0.heap.size w0 u) → Hid (Vars u) from fun u h => Lib.hid ((hv.out.below) (below_ext HBw.out h.out)))
  have kD := Lib.hid (show ∀ u : World, Hid (Below w0.heap.size w0 u) → Hid (VarsD u) from fun u h => Lib.hid ((hd.out.below) (below_ext HBw.out h.out)))
  have HB_0 : Hid (Below w0.heap.size w0 w0) := Lib.hid (Below.refl _ _)
  have HW := Lib.hid hW
  clear hW hc hv hd
  have HT0 : Hid (DBlk w0 (w.heap.size + 1) h c) := Lib.hid (by rw [← HW.out, show w.heap.size + 1 = (w.alloc (gObj P Q G)).heap.size by simp]; exact heap_alloc_new _ _)
  have kT := Lib.hid (show ∀ u : World, Hid (Below w0.heap.size w0 u) → Hid (DBlk u (w.heap.size + 1) h c) from fun u hh => Lib.hid (HT0.out.below hh.out))
  go_enter Tryz.func6, Tryz.ntmps6
  go_upto_region 1 with (fail)
  rw [HW.out]
  obtain ⟨zc0, zc1, zc2⟩ := kC.out _ HB_0
  go_wp2_with fail
  refine (awake18 _ (kV.out _ HB_0)).mono ?_
  rintro e w1 ⟨rfl, hb0⟩
  have HB_1 := Lib.hid (below_ext HB_0.out hb0)
  clear zc0 zc1 zc2
  clear hb0
  obtain ⟨zc0, zc1, zc2⟩ := kC.out _ HB_1
  go_wp2_with fail
  refine (rvalid_any P Q G false HVG hQ _).mono ?_
  rintro e w2 ⟨rfl, hb0⟩
  have HB_2 := Lib.hid (below_ext HB_1.out hb0)
  clear zc0 zc1 zc2
  clear hb0
  obtain ⟨zc0, zc1, zc2⟩ := kC.out _ HB_2
  have hbF := below_ext HBw.out HB_2.out
  go_wp2
  go_ret
  exact ⟨rfl, hbF⟩
set_option maxHeartbeats 25600000 in
theorem eb_a (P Q G a b x : Int) (s o : ByteArray) (h : List Int) (c : Int) (hl : Hid (h.length = 32)) (hhb : Hid (bytesB h = true)) (hQ : Q < 9223372036854775808) (hs : s.size ≤ 100) (ho : o.size ≤ 100) (HVG : Hid (validG P Q G = true)) (hma : Hid (memG P Q a = false)) (w : World) (hv : Hid (Vars w)) (hd : Hid (VarsD w)) :
    Calls Tryz.prog 6 #[gv P Q G, .int .i64 a, .int .i64 b, .int .i64 x, .string s, .string o, .agg (tcs h c)] w fun e' w' => e' = .returned (.bool true) ∧ Below w.heap.size w w' := by
  have dl : decide ((100 : Int) < (s.size : Int)) = false := by simp; omega
  have dlo : decide ((100 : Int) < (o.size : Int)) = false := by simp; omega
  obtain ⟨hp2, hp, hq3, hqp⟩ := validG_P HVG.out
  obtain ⟨w0, hW⟩ : ∃ W, ((w.alloc (gObj P Q G)).alloc (.cells (tcs h c) 56)) = W := ⟨_, rfl⟩
  have HBw : Hid (Below w.heap.size w w0) := Lib.hid (by rw [← hW]; exact below_two (Below.refl _ _))
  have hc : w0.cell? ⟨w.heap.size, 0, none⟩ = some (.int .i64 P) ∧ w0.cell? ⟨w.heap.size, 1, none⟩ = some (.int .i64 Q) ∧ w0.cell? ⟨w.heap.size, 2, none⟩ = some (.int .i64 G) := by rw [← hW]; exact ⟨cell_below (allocs_cell (by simp) (by rfl)) (below_box0 _ _), cell_below (allocs_cell (by simp) (by rfl)) (below_box0 _ _), cell_below (allocs_cell (by simp) (by rfl)) (below_box0 _ _)⟩
  have kC := Lib.hid (show ∀ u : World, Hid (Below w0.heap.size w0 u) → u.cell? ⟨w.heap.size, 0, none⟩ = some (.int .i64 P) ∧ u.cell? ⟨w.heap.size, 1, none⟩ = some (.int .i64 Q) ∧ u.cell? ⟨w.heap.size, 2, none⟩ = some (.int .i64 G) from fun u h => ⟨cell_below hc.1 h.out, cell_below hc.2.1 h.out, cell_below hc.2.2 h.out⟩)
  have kV := Lib.hid (show ∀ u : World, Hid (Below w0.heap.size w0 u) → Hid (Vars u) from fun u h => Lib.hid ((hv.out.below) (below_ext HBw.out h.out)))
  have kD := Lib.hid (show ∀ u : World, Hid (Below w0.heap.size w0 u) → Hid (VarsD u) from fun u h => Lib.hid ((hd.out.below) (below_ext HBw.out h.out)))
  have HB_0 : Hid (Below w0.heap.size w0 w0) := Lib.hid (Below.refl _ _)
  have HW := Lib.hid hW
  clear hW hc hv hd
  have HT0 : Hid (DBlk w0 (w.heap.size + 1) h c) := Lib.hid (by rw [← HW.out, show w.heap.size + 1 = (w.alloc (gObj P Q G)).heap.size by simp]; exact heap_alloc_new _ _)
  have kT := Lib.hid (show ∀ u : World, Hid (Below w0.heap.size w0 u) → Hid (DBlk u (w.heap.size + 1) h c) from fun u hh => Lib.hid (HT0.out.below hh.out))
  go_enter Tryz.func6, Tryz.ntmps6
  go_upto_region 1 with (fail)
  rw [HW.out]
  obtain ⟨zc0, zc1, zc2⟩ := kC.out _ HB_0
  go_wp2_with fail
  refine (awake18 _ (kV.out _ HB_0)).mono ?_
  rintro e w1 ⟨rfl, hb0⟩
  have HB_1 := Lib.hid (below_ext HB_0.out hb0)
  clear zc0 zc1 zc2
  clear hb0
  obtain ⟨zc0, zc1, zc2⟩ := kC.out _ HB_1
  go_wp2_with fail
  refine (rvalid_any P Q G true HVG hQ _).mono ?_
  rintro e w2 ⟨rfl, hb0⟩
  have HB_2 := Lib.hid (below_ext HB_1.out hb0)
  clear zc0 zc1 zc2
  clear hb0
  obtain ⟨zc0, zc1, zc2⟩ := kC.out _ HB_2
  go_wp2_with fail
  refine (rmember_any P Q G a false hma hp (by omega) hQ _).mono ?_
  rintro e w3 ⟨rfl, hb0⟩
  have HB_3 := Lib.hid (below_ext HB_2.out hb0)
  clear zc0 zc1 zc2
  clear hb0
  obtain ⟨zc0, zc1, zc2⟩ := kC.out _ HB_3
  have hbF := below_ext HBw.out HB_3.out
  go_wp2
  go_ret
  exact ⟨rfl, hbF⟩
set_option maxHeartbeats 25600000 in
theorem eb_b (P Q G a b x : Int) (s o : ByteArray) (h : List Int) (c : Int) (hl : Hid (h.length = 32)) (hhb : Hid (bytesB h = true)) (hQ : Q < 9223372036854775808) (hs : s.size ≤ 100) (ho : o.size ≤ 100) (HVG : Hid (validG P Q G = true)) (hma : Hid (memG P Q a = true)) (hmb : Hid (memG P Q b = false)) (w : World) (hv : Hid (Vars w)) (hd : Hid (VarsD w)) :
    Calls Tryz.prog 6 #[gv P Q G, .int .i64 a, .int .i64 b, .int .i64 x, .string s, .string o, .agg (tcs h c)] w fun e' w' => e' = .returned (.bool true) ∧ Below w.heap.size w w' := by
  have dl : decide ((100 : Int) < (s.size : Int)) = false := by simp; omega
  have dlo : decide ((100 : Int) < (o.size : Int)) = false := by simp; omega
  obtain ⟨hp2, hp, hq3, hqp⟩ := validG_P HVG.out
  obtain ⟨w0, hW⟩ : ∃ W, ((w.alloc (gObj P Q G)).alloc (.cells (tcs h c) 56)) = W := ⟨_, rfl⟩
  have HBw : Hid (Below w.heap.size w w0) := Lib.hid (by rw [← hW]; exact below_two (Below.refl _ _))
  have hc : w0.cell? ⟨w.heap.size, 0, none⟩ = some (.int .i64 P) ∧ w0.cell? ⟨w.heap.size, 1, none⟩ = some (.int .i64 Q) ∧ w0.cell? ⟨w.heap.size, 2, none⟩ = some (.int .i64 G) := by rw [← hW]; exact ⟨cell_below (allocs_cell (by simp) (by rfl)) (below_box0 _ _), cell_below (allocs_cell (by simp) (by rfl)) (below_box0 _ _), cell_below (allocs_cell (by simp) (by rfl)) (below_box0 _ _)⟩
  have kC := Lib.hid (show ∀ u : World, Hid (Below w0.heap.size w0 u) → u.cell? ⟨w.heap.size, 0, none⟩ = some (.int .i64 P) ∧ u.cell? ⟨w.heap.size, 1, none⟩ = some (.int .i64 Q) ∧ u.cell? ⟨w.heap.size, 2, none⟩ = some (.int .i64 G) from fun u h => ⟨cell_below hc.1 h.out, cell_below hc.2.1 h.out, cell_below hc.2.2 h.out⟩)
  have kV := Lib.hid (show ∀ u : World, Hid (Below w0.heap.size w0 u) → Hid (Vars u) from fun u h => Lib.hid ((hv.out.below) (below_ext HBw.out h.out)))
  have kD := Lib.hid (show ∀ u : World, Hid (Below w0.heap.size w0 u) → Hid (VarsD u) from fun u h => Lib.hid ((hd.out.below) (below_ext HBw.out h.out)))
  have HB_0 : Hid (Below w0.heap.size w0 w0) := Lib.hid (Below.refl _ _)
  have HW := Lib.hid hW
  clear hW hc hv hd
  have HT0 : Hid (DBlk w0 (w.heap.size + 1) h c) := Lib.hid (by rw [← HW.out, show w.heap.size + 1 = (w.alloc (gObj P Q G)).heap.size by simp]; exact heap_alloc_new _ _)
  have kT := Lib.hid (show ∀ u : World, Hid (Below w0.heap.size w0 u) → Hid (DBlk u (w.heap.size + 1) h c) from fun u hh => Lib.hid (HT0.out.below hh.out))
  go_enter Tryz.func6, Tryz.ntmps6
  go_upto_region 1 with (fail)
  rw [HW.out]
  obtain ⟨zc0, zc1, zc2⟩ := kC.out _ HB_0
  go_wp2_with fail
  refine (awake18 _ (kV.out _ HB_0)).mono ?_
  rintro e w1 ⟨rfl, hb0⟩
  have HB_1 := Lib.hid (below_ext HB_0.out hb0)
  clear zc0 zc1 zc2
  clear hb0
  obtain ⟨zc0, zc1, zc2⟩ := kC.out _ HB_1
  go_wp2_with fail
  refine (rvalid_any P Q G true HVG hQ _).mono ?_
  rintro e w2 ⟨rfl, hb0⟩
  have HB_2 := Lib.hid (below_ext HB_1.out hb0)
  clear zc0 zc1 zc2
  clear hb0
  obtain ⟨zc0, zc1, zc2⟩ := kC.out _ HB_2
  go_wp2_with fail
  refine (rmember_any P Q G a true hma hp (by omega) hQ _).mono ?_
  rintro e w3 ⟨rfl, hb0⟩
  have HB_3 := Lib.hid (below_ext HB_2.out hb0)
  clear zc0 zc1 zc2
  clear hb0
  obtain ⟨zc0, zc1, zc2⟩ := kC.out _ HB_3
  go_wp2_with fail
  refine (rmember_any P Q G b false hmb hp (by omega) hQ _).mono ?_
  rintro e w4 ⟨rfl, hb0⟩
  have HB_4 := Lib.hid (below_ext HB_3.out hb0)
  clear zc0 zc1 zc2
  clear hb0
  obtain ⟨zc0, zc1, zc2⟩ := kC.out _ HB_4
  have hbF := below_ext HBw.out HB_4.out
  go_wp2
  go_ret
  exact ⟨rfl, hbF⟩
set_option maxHeartbeats 25600000 in
theorem eb_d (P Q G a b x : Int) (s o : ByteArray) (h : List Int) (c : Int) (hl : Hid (h.length = 32)) (hhb : Hid (bytesB h = true)) (hQ : Q < 9223372036854775808) (hs : s.size ≤ 100) (ho : o.size ≤ 100) (HVG : Hid (validG P Q G = true)) (hma : Hid (memG P Q a = true)) (hmb : Hid (memG P Q b = true)) (hck : Hid (chkG P Q G [a, b] = 0)) (hdr : Hid (drB c = false)) (w : World) (hv : Hid (Vars w)) (hd : Hid (VarsD w)) :
    Calls Tryz.prog 6 #[gv P Q G, .int .i64 a, .int .i64 b, .int .i64 x, .string s, .string o, .agg (tcs h c)] w fun e' w' => e' = .returned (.bool true) ∧ Below w.heap.size w w' := by
  have dl : decide ((100 : Int) < (s.size : Int)) = false := by simp; omega
  have dlo : decide ((100 : Int) < (o.size : Int)) = false := by simp; omega
  obtain ⟨hp2, hp, hq3, hqp⟩ := validG_P HVG.out
  obtain ⟨w0, hW⟩ : ∃ W, ((w.alloc (gObj P Q G)).alloc (.cells (tcs h c) 56)) = W := ⟨_, rfl⟩
  have HBw : Hid (Below w.heap.size w w0) := Lib.hid (by rw [← hW]; exact below_two (Below.refl _ _))
  have hc : w0.cell? ⟨w.heap.size, 0, none⟩ = some (.int .i64 P) ∧ w0.cell? ⟨w.heap.size, 1, none⟩ = some (.int .i64 Q) ∧ w0.cell? ⟨w.heap.size, 2, none⟩ = some (.int .i64 G) := by rw [← hW]; exact ⟨cell_below (allocs_cell (by simp) (by rfl)) (below_box0 _ _), cell_below (allocs_cell (by simp) (by rfl)) (below_box0 _ _), cell_below (allocs_cell (by simp) (by rfl)) (below_box0 _ _)⟩
  have kC := Lib.hid (show ∀ u : World, Hid (Below w0.heap.size w0 u) → u.cell? ⟨w.heap.size, 0, none⟩ = some (.int .i64 P) ∧ u.cell? ⟨w.heap.size, 1, none⟩ = some (.int .i64 Q) ∧ u.cell? ⟨w.heap.size, 2, none⟩ = some (.int .i64 G) from fun u h => ⟨cell_below hc.1 h.out, cell_below hc.2.1 h.out, cell_below hc.2.2 h.out⟩)
  have kV := Lib.hid (show ∀ u : World, Hid (Below w0.heap.size w0 u) → Hid (Vars u) from fun u h => Lib.hid ((hv.out.below) (below_ext HBw.out h.out)))
  have kD := Lib.hid (show ∀ u : World, Hid (Below w0.heap.size w0 u) → Hid (VarsD u) from fun u h => Lib.hid ((hd.out.below) (below_ext HBw.out h.out)))
  have HB_0 : Hid (Below w0.heap.size w0 w0) := Lib.hid (Below.refl _ _)
  have HW := Lib.hid hW
  clear hW hc hv hd
  have HT0 : Hid (DBlk w0 (w.heap.size + 1) h c) := Lib.hid (by rw [← HW.out, show w.heap.size + 1 = (w.alloc (gObj P Q G)).heap.size by simp]; exact heap_alloc_new _ _)
  have kT := Lib.hid (show ∀ u : World, Hid (Below w0.heap.size w0 u) → Hid (DBlk u (w.heap.size + 1) h c) from fun u hh => Lib.hid (HT0.out.below hh.out))
  go_enter Tryz.func6, Tryz.ntmps6
  go_upto_region 1 with (fail)
  rw [HW.out]
  obtain ⟨zc0, zc1, zc2⟩ := kC.out _ HB_0
  go_wp2_with fail
  refine (awake18 _ (kV.out _ HB_0)).mono ?_
  rintro e w1 ⟨rfl, hb0⟩
  have HB_1 := Lib.hid (below_ext HB_0.out hb0)
  clear zc0 zc1 zc2
  clear hb0
  obtain ⟨zc0, zc1, zc2⟩ := kC.out _ HB_1
  go_wp2_with fail
  refine (rvalid_any P Q G true HVG hQ _).mono ?_
  rintro e w2 ⟨rfl, hb0⟩
  have HB_2 := Lib.hid (below_ext HB_1.out hb0)
  clear zc0 zc1 zc2
  clear hb0
  obtain ⟨zc0, zc1, zc2⟩ := kC.out _ HB_2
  go_wp2_with fail
  refine (rmember_any P Q G a true hma hp (by omega) hQ _).mono ?_
  rintro e w3 ⟨rfl, hb0⟩
  have HB_3 := Lib.hid (below_ext HB_2.out hb0)
  clear zc0 zc1 zc2
  clear hb0
  obtain ⟨zc0, zc1, zc2⟩ := kC.out _ HB_3
  go_wp2_with fail
  refine (rmember_any P Q G b true hmb hp (by omega) hQ _).mono ?_
  rintro e w4 ⟨rfl, hb0⟩
  have HB_4 := Lib.hid (below_ext HB_3.out hb0)
  clear zc0 zc1 zc2
  clear hb0
  obtain ⟨zc0, zc1, zc2⟩ := kC.out _ HB_4
  have HTk := kT.out _ HB_4
  go_wp2_with ((with_reducible show wpList _ _ _ (⟨some 58, _, _, _, _, _⟩ :: _) _ _); refine wpList_load_row_g (by rfl) 56 _ rfl (w.heap.size + 1) rfl _ _ _ _ HTk.out Tryz.underlying56 rfl (dr_info hl.out) ?_)
  refine (eqp_d P Q G a b x s h c (by omega) hl hQ 0 rfl hck hdr _ (kV.out _ HB_4) (kD.out _ HB_4)).mono ?_
  rintro e w5 ⟨rfl, hb0⟩
  have HB_5 := Lib.hid (below_ext HB_4.out hb0)
  clear zc0 zc1 zc2
  clear hb0 HTk
  rw [show PrvE (.agg #[.slice none 0 0, .int .i64 0, .slice none 0 0]) (zer 32) 0 1 = .tuple #[.agg #[.slice none 0 0, .int .i64 0, .slice none 0 0], .agg (tcs (zer 32) 0), .int .i64 1] from rfl]
  have HDa6 : Hid (DBlk ((w5.alloc (.cells #[.slice none 0 0, .int .i64 0, .slice none 0 0] 28)).alloc (.cells #[.int .u8 0, .int .u8 0, .int .u8 0, .int .u8 0, .int .u8 0, .int .u8 0, .int .u8 0, .int .u8 0, .int .u8 0, .int .u8 0, .int .u8 0, .int .u8 0, .int .u8 0, .int .u8 0, .int .u8 0, .int .u8 0, .int .u8 0, .int .u8 0, .int .u8 0, .int .u8 0, .int .u8 0, .int .u8 0, .int .u8 0, .int .u8 0, .int .u8 0, .int .u8 0, .int .u8 0, .int .u8 0, .int .u8 0, .int .u8 0, .int .u8 0, .int .u8 0, .int .i64 0] 56)) (w5.heap.size + 1) (zer 32) 0) := Lib.hid (by rw [ztr]; exact heap_alloc2_new _ _ _)
  have HQe6 : Hid (QBlk (((w5.alloc (.cells #[.slice none 0 0, .int .i64 0, .slice none 0 0] 28)).alloc (.cells #[.int .u8 0, .int .u8 0, .int .u8 0, .int .u8 0, .int .u8 0, .int .u8 0, .int .u8 0, .int .u8 0, .int .u8 0, .int .u8 0, .int .u8 0, .int .u8 0, .int .u8 0, .int .u8 0, .int .u8 0, .int .u8 0, .int .u8 0, .int .u8 0, .int .u8 0, .int .u8 0, .int .u8 0, .int .u8 0, .int .u8 0, .int .u8 0, .int .u8 0, .int .u8 0, .int .u8 0, .int .u8 0, .int .u8 0, .int .u8 0, .int .u8 0, .int .u8 0, .int .i64 0] 56)).setRow (w5.heap.size + 1) (tcs (zer 32) 0)) w5.heap.size (.slice none 0 0) (.int .i64 0) (.slice none 0 0)) := Lib.hid ((setRow_other _ _ _ _ (by omega)).trans (heap_alloc2_old _ _ _))
  have HDe6 : Hid (DBlk (((w5.alloc (.cells #[.slice none 0 0, .int .i64 0, .slice none 0 0] 28)).alloc (.cells #[.int .u8 0, .int .u8 0, .int .u8 0, .int .u8 0, .int .u8 0, .int .u8 0, .int .u8 0, .int .u8 0, .int .u8 0, .int .u8 0, .int .u8 0, .int .u8 0, .int .u8 0, .int .u8 0, .int .u8 0, .int .u8 0, .int .u8 0, .int .u8 0, .int .u8 0, .int .u8 0, .int .u8 0, .int .u8 0, .int .u8 0, .int .u8 0, .int .u8 0, .int .u8 0, .int .u8 0, .int .u8 0, .int .u8 0, .int .u8 0, .int .u8 0, .int .u8 0, .int .i64 0] 56)).setRow (w5.heap.size + 1) (tcs (zer 32) 0)) (w5.heap.size + 1) (zer 32) 0) := Lib.hid (DBlk.setRow HDa6.out)
  have hq : Below w5.heap.size w5 (((w5.alloc (.cells #[.slice none 0 0, .int .i64 0, .slice none 0 0] 28)).alloc (.cells #[.int .u8 0, .int .u8 0, .int .u8 0, .int .u8 0, .int .u8 0, .int .u8 0, .int .u8 0, .int .u8 0, .int .u8 0, .int .u8 0, .int .u8 0, .int .u8 0, .int .u8 0, .int .u8 0, .int .u8 0, .int .u8 0, .int .u8 0, .int .u8 0, .int .u8 0, .int .u8 0, .int .u8 0, .int .u8 0, .int .u8 0, .int .u8 0, .int .u8 0, .int .u8 0, .int .u8 0, .int .u8 0, .int .u8 0, .int .u8 0, .int .u8 0, .int .u8 0, .int .i64 0] 56)).setRow (w5.heap.size + 1) (tcs (zer 32) 0)) := below_setRow' (below_two (Below.refl _ _)) (Nat.le_succ _)
  have HQW := Lib.hid hq
  go_upto_region 6 with ((with_reducible show wpList _ _ _ (⟨none, _, _, _, _, _⟩ :: _) _ _); refine wpList_store_row rfl 56 _ _ rfl (w5.heap.size + 1) (tcs (zer 32) 0) rfl rfl _ _ HDa6.out (dr_info rfl) (tcs_sz (h := zer 32) (c := 0) rfl rfl) (tcs_one _ _) ?_)
  clear HDa6
  have HB_6 := Lib.hid (below_ext HB_5.out hq)
  obtain ⟨w6, hw⟩ : ∃ x, (((w5.alloc (.cells #[.slice none 0 0, .int .i64 0, .slice none 0 0] 28)).alloc (.cells #[.int .u8 0, .int .u8 0, .int .u8 0, .int .u8 0, .int .u8 0, .int .u8 0, .int .u8 0, .int .u8 0, .int .u8 0, .int .u8 0, .int .u8 0, .int .u8 0, .int .u8 0, .int .u8 0, .int .u8 0, .int .u8 0, .int .u8 0, .int .u8 0, .int .u8 0, .int .u8 0, .int .u8 0, .int .u8 0, .int .u8 0, .int .u8 0, .int .u8 0, .int .u8 0, .int .u8 0, .int .u8 0, .int .u8 0, .int .u8 0, .int .u8 0, .int .u8 0, .int .i64 0] 56)).setRow (w5.heap.size + 1) (tcs (zer 32) 0)) = x := ⟨_, rfl⟩
  rw [hw] at HQW HQe6 HDe6 HB_6 ⊢
  clear hw hq
  have HB_w6_6 : Hid (Below w6.heap.size w6 w6) := Lib.hid (Below.refl _ _)
  have kS := Lib.hid (show ∀ u : World, Hid (Below w6.heap.size w6 u) → u.cell? ⟨w5.heap.size, 0, none⟩ = some (.slice none 0 0) ∧ u.cell? ⟨w5.heap.size, 1, none⟩ = some (.int .i64 0) ∧ u.cell? ⟨w5.heap.size, 2, none⟩ = some (.slice none 0 0) from fun u hh => ⟨cell_below HQe6.out.cells.1.1 hh.out, cell_below HQe6.out.cells.1.2.1 hh.out, cell_below HQe6.out.cells.1.2.2 hh.out⟩)
  have kS2 := Lib.hid (show ∀ u : World, Hid (Below w6.heap.size w6 u) → Hid (DBlk u (w5.heap.size + 1) (zer 32) 0) from fun u h => Lib.hid (HDe6.out.below h.out))
  obtain ⟨zc0, zc1, zc2⟩ := kC.out _ HB_6
  obtain ⟨kS_0, kS_1, kS_2⟩ := kS.out _ HB_w6_6
  go_wp2_with fail
  refine (same18_any none [] 0 0 0 none [] 0 0 none [] 0 0 0 none [] 0 0 (Lib.hid rfl) (Lib.hid rfl) (Lib.hid rfl) (Lib.hid rfl) (by omega) (by omega) (by omega) (by omega) true (Lib.hid rfl) _ (Lib.hid (sl_nil _)) (Lib.hid (sl_nil _)) (Lib.hid (sl_nil _)) (Lib.hid (sl_nil _))).mono ?_
  rintro e w7 ⟨rfl, hb0⟩
  have HB_7 := Lib.hid (below_ext HB_6.out hb0)
  have HB_w6_7 := Lib.hid (below_ext HB_w6_6.out hb0)
  clear zc0 zc1 zc2 kS_0 kS_1 kS_2
  clear hb0
  obtain ⟨zc0, zc1, zc2⟩ := kC.out _ HB_7
  obtain ⟨kS_0, kS_1, kS_2⟩ := kS.out _ HB_w6_7
  have hbF := below_ext HBw.out HB_7.out
  go_wp2
  go_ret
  exact ⟨rfl, hbF⟩
set_option maxHeartbeats 25600000 in
theorem eb_l (P Q G a b x : Int) (s o : ByteArray) (h : List Int) (c : Int) (hl : Hid (h.length = 32)) (hhb : Hid (bytesB h = true)) (hQ : Q < 9223372036854775808) (hs : s.size ≤ 100) (ho : o.size ≤ 100) (HVG : Hid (validG P Q G = true)) (hma : Hid (memG P Q a = true)) (hmb : Hid (memG P Q b = true)) (hck : Hid (chkG P Q G [a, b] = 0)) (hdr : Hid (drB c = true)) (hr : Hid (labB (bys s) = false)) (w : World) (hv : Hid (Vars w)) (hd : Hid (VarsD w)) :
    Calls Tryz.prog 6 #[gv P Q G, .int .i64 a, .int .i64 b, .int .i64 x, .string s, .string o, .agg (tcs h c)] w fun e' w' => e' = .returned (.bool true) ∧ Below w.heap.size w w' := by
  have dl : decide ((100 : Int) < (s.size : Int)) = false := by simp; omega
  have dlo : decide ((100 : Int) < (o.size : Int)) = false := by simp; omega
  obtain ⟨hp2, hp, hq3, hqp⟩ := validG_P HVG.out
  obtain ⟨w0, hW⟩ : ∃ W, ((w.alloc (gObj P Q G)).alloc (.cells (tcs h c) 56)) = W := ⟨_, rfl⟩
  have HBw : Hid (Below w.heap.size w w0) := Lib.hid (by rw [← hW]; exact below_two (Below.refl _ _))
  have hc : w0.cell? ⟨w.heap.size, 0, none⟩ = some (.int .i64 P) ∧ w0.cell? ⟨w.heap.size, 1, none⟩ = some (.int .i64 Q) ∧ w0.cell? ⟨w.heap.size, 2, none⟩ = some (.int .i64 G) := by rw [← hW]; exact ⟨cell_below (allocs_cell (by simp) (by rfl)) (below_box0 _ _), cell_below (allocs_cell (by simp) (by rfl)) (below_box0 _ _), cell_below (allocs_cell (by simp) (by rfl)) (below_box0 _ _)⟩
  have kC := Lib.hid (show ∀ u : World, Hid (Below w0.heap.size w0 u) → u.cell? ⟨w.heap.size, 0, none⟩ = some (.int .i64 P) ∧ u.cell? ⟨w.heap.size, 1, none⟩ = some (.int .i64 Q) ∧ u.cell? ⟨w.heap.size, 2, none⟩ = some (.int .i64 G) from fun u h => ⟨cell_below hc.1 h.out, cell_below hc.2.1 h.out, cell_below hc.2.2 h.out⟩)
  have kV := Lib.hid (show ∀ u : World, Hid (Below w0.heap.size w0 u) → Hid (Vars u) from fun u h => Lib.hid ((hv.out.below) (below_ext HBw.out h.out)))
  have kD := Lib.hid (show ∀ u : World, Hid (Below w0.heap.size w0 u) → Hid (VarsD u) from fun u h => Lib.hid ((hd.out.below) (below_ext HBw.out h.out)))
  have HB_0 : Hid (Below w0.heap.size w0 w0) := Lib.hid (Below.refl _ _)
  have HW := Lib.hid hW
  clear hW hc hv hd
  have HT0 : Hid (DBlk w0 (w.heap.size + 1) h c) := Lib.hid (by rw [← HW.out, show w.heap.size + 1 = (w.alloc (gObj P Q G)).heap.size by simp]; exact heap_alloc_new _ _)
  have kT := Lib.hid (show ∀ u : World, Hid (Below w0.heap.size w0 u) → Hid (DBlk u (w.heap.size + 1) h c) from fun u hh => Lib.hid (HT0.out.below hh.out))
  go_enter Tryz.func6, Tryz.ntmps6
  go_upto_region 1 with (fail)
  rw [HW.out]
  obtain ⟨zc0, zc1, zc2⟩ := kC.out _ HB_0
  go_wp2_with fail
  refine (awake18 _ (kV.out _ HB_0)).mono ?_
  rintro e w1 ⟨rfl, hb0⟩
  have HB_1 := Lib.hid (below_ext HB_0.out hb0)
  clear zc0 zc1 zc2
  clear hb0
  obtain ⟨zc0, zc1, zc2⟩ := kC.out _ HB_1
  go_wp2_with fail
  refine (rvalid_any P Q G true HVG hQ _).mono ?_
  rintro e w2 ⟨rfl, hb0⟩
  have HB_2 := Lib.hid (below_ext HB_1.out hb0)
  clear zc0 zc1 zc2
  clear hb0
  obtain ⟨zc0, zc1, zc2⟩ := kC.out _ HB_2
  go_wp2_with fail
  refine (rmember_any P Q G a true hma hp (by omega) hQ _).mono ?_
  rintro e w3 ⟨rfl, hb0⟩
  have HB_3 := Lib.hid (below_ext HB_2.out hb0)
  clear zc0 zc1 zc2
  clear hb0
  obtain ⟨zc0, zc1, zc2⟩ := kC.out _ HB_3
  go_wp2_with fail
  refine (rmember_any P Q G b true hmb hp (by omega) hQ _).mono ?_
  rintro e w4 ⟨rfl, hb0⟩
  have HB_4 := Lib.hid (below_ext HB_3.out hb0)
  clear zc0 zc1 zc2
  clear hb0
  obtain ⟨zc0, zc1, zc2⟩ := kC.out _ HB_4
  have HTk := kT.out _ HB_4
  go_wp2_with ((with_reducible show wpList _ _ _ (⟨some 58, _, _, _, _, _⟩ :: _) _ _); refine wpList_load_row_g (by rfl) 56 _ rfl (w.heap.size + 1) rfl _ _ _ _ HTk.out Tryz.underlying56 rfl (dr_info hl.out) ?_)
  refine (eqp_l P Q G a b x s h c (by omega) hl hQ 0 rfl hck hdr hr _ (kV.out _ HB_4) (kD.out _ HB_4)).mono ?_
  rintro e w5 ⟨rfl, hb0⟩
  have HB_5 := Lib.hid (below_ext HB_4.out hb0)
  clear zc0 zc1 zc2
  clear hb0 HTk
  rw [show PrvE (.agg #[.slice none 0 0, .int .i64 0, .slice none 0 0]) (zer 32) 0 1 = .tuple #[.agg #[.slice none 0 0, .int .i64 0, .slice none 0 0], .agg (tcs (zer 32) 0), .int .i64 1] from rfl]
  have HDa6 : Hid (DBlk ((w5.alloc (.cells #[.slice none 0 0, .int .i64 0, .slice none 0 0] 28)).alloc (.cells #[.int .u8 0, .int .u8 0, .int .u8 0, .int .u8 0, .int .u8 0, .int .u8 0, .int .u8 0, .int .u8 0, .int .u8 0, .int .u8 0, .int .u8 0, .int .u8 0, .int .u8 0, .int .u8 0, .int .u8 0, .int .u8 0, .int .u8 0, .int .u8 0, .int .u8 0, .int .u8 0, .int .u8 0, .int .u8 0, .int .u8 0, .int .u8 0, .int .u8 0, .int .u8 0, .int .u8 0, .int .u8 0, .int .u8 0, .int .u8 0, .int .u8 0, .int .u8 0, .int .i64 0] 56)) (w5.heap.size + 1) (zer 32) 0) := Lib.hid (by rw [ztr]; exact heap_alloc2_new _ _ _)
  have HQe6 : Hid (QBlk (((w5.alloc (.cells #[.slice none 0 0, .int .i64 0, .slice none 0 0] 28)).alloc (.cells #[.int .u8 0, .int .u8 0, .int .u8 0, .int .u8 0, .int .u8 0, .int .u8 0, .int .u8 0, .int .u8 0, .int .u8 0, .int .u8 0, .int .u8 0, .int .u8 0, .int .u8 0, .int .u8 0, .int .u8 0, .int .u8 0, .int .u8 0, .int .u8 0, .int .u8 0, .int .u8 0, .int .u8 0, .int .u8 0, .int .u8 0, .int .u8 0, .int .u8 0, .int .u8 0, .int .u8 0, .int .u8 0, .int .u8 0, .int .u8 0, .int .u8 0, .int .u8 0, .int .i64 0] 56)).setRow (w5.heap.size + 1) (tcs (zer 32) 0)) w5.heap.size (.slice none 0 0) (.int .i64 0) (.slice none 0 0)) := Lib.hid ((setRow_other _ _ _ _ (by omega)).trans (heap_alloc2_old _ _ _))
  have HDe6 : Hid (DBlk (((w5.alloc (.cells #[.slice none 0 0, .int .i64 0, .slice none 0 0] 28)).alloc (.cells #[.int .u8 0, .int .u8 0, .int .u8 0, .int .u8 0, .int .u8 0, .int .u8 0, .int .u8 0, .int .u8 0, .int .u8 0, .int .u8 0, .int .u8 0, .int .u8 0, .int .u8 0, .int .u8 0, .int .u8 0, .int .u8 0, .int .u8 0, .int .u8 0, .int .u8 0, .int .u8 0, .int .u8 0, .int .u8 0, .int .u8 0, .int .u8 0, .int .u8 0, .int .u8 0, .int .u8 0, .int .u8 0, .int .u8 0, .int .u8 0, .int .u8 0, .int .u8 0, .int .i64 0] 56)).setRow (w5.heap.size + 1) (tcs (zer 32) 0)) (w5.heap.size + 1) (zer 32) 0) := Lib.hid (DBlk.setRow HDa6.out)
  have hq : Below w5.heap.size w5 (((w5.alloc (.cells #[.slice none 0 0, .int .i64 0, .slice none 0 0] 28)).alloc (.cells #[.int .u8 0, .int .u8 0, .int .u8 0, .int .u8 0, .int .u8 0, .int .u8 0, .int .u8 0, .int .u8 0, .int .u8 0, .int .u8 0, .int .u8 0, .int .u8 0, .int .u8 0, .int .u8 0, .int .u8 0, .int .u8 0, .int .u8 0, .int .u8 0, .int .u8 0, .int .u8 0, .int .u8 0, .int .u8 0, .int .u8 0, .int .u8 0, .int .u8 0, .int .u8 0, .int .u8 0, .int .u8 0, .int .u8 0, .int .u8 0, .int .u8 0, .int .u8 0, .int .i64 0] 56)).setRow (w5.heap.size + 1) (tcs (zer 32) 0)) := below_setRow' (below_two (Below.refl _ _)) (Nat.le_succ _)
  have HQW := Lib.hid hq
  go_upto_region 6 with ((with_reducible show wpList _ _ _ (⟨none, _, _, _, _, _⟩ :: _) _ _); refine wpList_store_row rfl 56 _ _ rfl (w5.heap.size + 1) (tcs (zer 32) 0) rfl rfl _ _ HDa6.out (dr_info rfl) (tcs_sz (h := zer 32) (c := 0) rfl rfl) (tcs_one _ _) ?_)
  clear HDa6
  have HB_6 := Lib.hid (below_ext HB_5.out hq)
  obtain ⟨w6, hw⟩ : ∃ x, (((w5.alloc (.cells #[.slice none 0 0, .int .i64 0, .slice none 0 0] 28)).alloc (.cells #[.int .u8 0, .int .u8 0, .int .u8 0, .int .u8 0, .int .u8 0, .int .u8 0, .int .u8 0, .int .u8 0, .int .u8 0, .int .u8 0, .int .u8 0, .int .u8 0, .int .u8 0, .int .u8 0, .int .u8 0, .int .u8 0, .int .u8 0, .int .u8 0, .int .u8 0, .int .u8 0, .int .u8 0, .int .u8 0, .int .u8 0, .int .u8 0, .int .u8 0, .int .u8 0, .int .u8 0, .int .u8 0, .int .u8 0, .int .u8 0, .int .u8 0, .int .u8 0, .int .i64 0] 56)).setRow (w5.heap.size + 1) (tcs (zer 32) 0)) = x := ⟨_, rfl⟩
  rw [hw] at HQW HQe6 HDe6 HB_6 ⊢
  clear hw hq
  have HB_w6_6 : Hid (Below w6.heap.size w6 w6) := Lib.hid (Below.refl _ _)
  have kS := Lib.hid (show ∀ u : World, Hid (Below w6.heap.size w6 u) → u.cell? ⟨w5.heap.size, 0, none⟩ = some (.slice none 0 0) ∧ u.cell? ⟨w5.heap.size, 1, none⟩ = some (.int .i64 0) ∧ u.cell? ⟨w5.heap.size, 2, none⟩ = some (.slice none 0 0) from fun u hh => ⟨cell_below HQe6.out.cells.1.1 hh.out, cell_below HQe6.out.cells.1.2.1 hh.out, cell_below HQe6.out.cells.1.2.2 hh.out⟩)
  have kS2 := Lib.hid (show ∀ u : World, Hid (Below w6.heap.size w6 u) → Hid (DBlk u (w5.heap.size + 1) (zer 32) 0) from fun u h => Lib.hid (HDe6.out.below h.out))
  obtain ⟨zc0, zc1, zc2⟩ := kC.out _ HB_6
  obtain ⟨kS_0, kS_1, kS_2⟩ := kS.out _ HB_w6_6
  go_wp2_with fail
  refine (same18_any none [] 0 0 0 none [] 0 0 none [] 0 0 0 none [] 0 0 (Lib.hid rfl) (Lib.hid rfl) (Lib.hid rfl) (Lib.hid rfl) (by omega) (by omega) (by omega) (by omega) true (Lib.hid rfl) _ (Lib.hid (sl_nil _)) (Lib.hid (sl_nil _)) (Lib.hid (sl_nil _)) (Lib.hid (sl_nil _))).mono ?_
  rintro e w7 ⟨rfl, hb0⟩
  have HB_7 := Lib.hid (below_ext HB_6.out hb0)
  have HB_w6_7 := Lib.hid (below_ext HB_w6_6.out hb0)
  clear zc0 zc1 zc2 kS_0 kS_1 kS_2
  clear hb0
  obtain ⟨zc0, zc1, zc2⟩ := kC.out _ HB_7
  obtain ⟨kS_0, kS_1, kS_2⟩ := kS.out _ HB_w6_7
  have hbF := below_ext HBw.out HB_7.out
  go_wp2
  go_ret
  exact ⟨rfl, hbF⟩
set_option maxHeartbeats 25600000 in
theorem eb_x (P Q G a b x : Int) (s o : ByteArray) (h : List Int) (c : Int) (hl : Hid (h.length = 32)) (hhb : Hid (bytesB h = true)) (hQ : Q < 9223372036854775808) (hs : s.size ≤ 100) (ho : o.size ≤ 100) (HVG : Hid (validG P Q G = true)) (hma : Hid (memG P Q a = true)) (hmb : Hid (memG P Q b = true)) (hck : Hid (chkG P Q G [a, b] = 0)) (hdr : Hid (drB c = true)) (hr : Hid (labB (bys s) = true)) (hx : ¬ (0 ≤ x ∧ x < Q)) (w : World) (hv : Hid (Vars w)) (hd : Hid (VarsD w)) :
    Calls Tryz.prog 6 #[gv P Q G, .int .i64 a, .int .i64 b, .int .i64 x, .string s, .string o, .agg (tcs h c)] w fun e' w' => e' = .returned (.bool true) ∧ Below w.heap.size w w' := by
  have dl : decide ((100 : Int) < (s.size : Int)) = false := by simp; omega
  have dlo : decide ((100 : Int) < (o.size : Int)) = false := by simp; omega
  obtain ⟨hp2, hp, hq3, hqp⟩ := validG_P HVG.out
  obtain ⟨w0, hW⟩ : ∃ W, ((w.alloc (gObj P Q G)).alloc (.cells (tcs h c) 56)) = W := ⟨_, rfl⟩
  have HBw : Hid (Below w.heap.size w w0) := Lib.hid (by rw [← hW]; exact below_two (Below.refl _ _))
  have hc : w0.cell? ⟨w.heap.size, 0, none⟩ = some (.int .i64 P) ∧ w0.cell? ⟨w.heap.size, 1, none⟩ = some (.int .i64 Q) ∧ w0.cell? ⟨w.heap.size, 2, none⟩ = some (.int .i64 G) := by rw [← hW]; exact ⟨cell_below (allocs_cell (by simp) (by rfl)) (below_box0 _ _), cell_below (allocs_cell (by simp) (by rfl)) (below_box0 _ _), cell_below (allocs_cell (by simp) (by rfl)) (below_box0 _ _)⟩
  have kC := Lib.hid (show ∀ u : World, Hid (Below w0.heap.size w0 u) → u.cell? ⟨w.heap.size, 0, none⟩ = some (.int .i64 P) ∧ u.cell? ⟨w.heap.size, 1, none⟩ = some (.int .i64 Q) ∧ u.cell? ⟨w.heap.size, 2, none⟩ = some (.int .i64 G) from fun u h => ⟨cell_below hc.1 h.out, cell_below hc.2.1 h.out, cell_below hc.2.2 h.out⟩)
  have kV := Lib.hid (show ∀ u : World, Hid (Below w0.heap.size w0 u) → Hid (Vars u) from fun u h => Lib.hid ((hv.out.below) (below_ext HBw.out h.out)))
  have kD := Lib.hid (show ∀ u : World, Hid (Below w0.heap.size w0 u) → Hid (VarsD u) from fun u h => Lib.hid ((hd.out.below) (below_ext HBw.out h.out)))
  have HB_0 : Hid (Below w0.heap.size w0 w0) := Lib.hid (Below.refl _ _)
  have HW := Lib.hid hW
  clear hW hc hv hd
  have HT0 : Hid (DBlk w0 (w.heap.size + 1) h c) := Lib.hid (by rw [← HW.out, show w.heap.size + 1 = (w.alloc (gObj P Q G)).heap.size by simp]; exact heap_alloc_new _ _)
  have kT := Lib.hid (show ∀ u : World, Hid (Below w0.heap.size w0 u) → Hid (DBlk u (w.heap.size + 1) h c) from fun u hh => Lib.hid (HT0.out.below hh.out))
  go_enter Tryz.func6, Tryz.ntmps6
  go_upto_region 1 with (fail)
  rw [HW.out]
  obtain ⟨zc0, zc1, zc2⟩ := kC.out _ HB_0
  go_wp2_with fail
  refine (awake18 _ (kV.out _ HB_0)).mono ?_
  rintro e w1 ⟨rfl, hb0⟩
  have HB_1 := Lib.hid (below_ext HB_0.out hb0)
  clear zc0 zc1 zc2
  clear hb0
  obtain ⟨zc0, zc1, zc2⟩ := kC.out _ HB_1
  go_wp2_with fail
  refine (rvalid_any P Q G true HVG hQ _).mono ?_
  rintro e w2 ⟨rfl, hb0⟩
  have HB_2 := Lib.hid (below_ext HB_1.out hb0)
  clear zc0 zc1 zc2
  clear hb0
  obtain ⟨zc0, zc1, zc2⟩ := kC.out _ HB_2
  go_wp2_with fail
  refine (rmember_any P Q G a true hma hp (by omega) hQ _).mono ?_
  rintro e w3 ⟨rfl, hb0⟩
  have HB_3 := Lib.hid (below_ext HB_2.out hb0)
  clear zc0 zc1 zc2
  clear hb0
  obtain ⟨zc0, zc1, zc2⟩ := kC.out _ HB_3
  go_wp2_with fail
  refine (rmember_any P Q G b true hmb hp (by omega) hQ _).mono ?_
  rintro e w4 ⟨rfl, hb0⟩
  have HB_4 := Lib.hid (below_ext HB_3.out hb0)
  clear zc0 zc1 zc2
  clear hb0
  obtain ⟨zc0, zc1, zc2⟩ := kC.out _ HB_4
  have HTk := kT.out _ HB_4
  go_wp2_with ((with_reducible show wpList _ _ _ (⟨some 58, _, _, _, _, _⟩ :: _) _ _); refine wpList_load_row_g (by rfl) 56 _ rfl (w.heap.size + 1) rfl _ _ _ _ HTk.out Tryz.underlying56 rfl (dr_info hl.out) ?_)
  refine (eqp_x P Q G a b x s h c (by omega) hl hQ 0 rfl hck hdr hr rfl hx _ (kV.out _ HB_4) (kD.out _ HB_4)).mono ?_
  rintro e w5 ⟨rfl, hb0⟩
  have HB_5 := Lib.hid (below_ext HB_4.out hb0)
  clear zc0 zc1 zc2
  clear hb0 HTk
  rw [show PrvE (.agg #[.slice none 0 0, .int .i64 0, .slice none 0 0]) (zer 32) 0 2 = .tuple #[.agg #[.slice none 0 0, .int .i64 0, .slice none 0 0], .agg (tcs (zer 32) 0), .int .i64 2] from rfl]
  have HDa6 : Hid (DBlk ((w5.alloc (.cells #[.slice none 0 0, .int .i64 0, .slice none 0 0] 28)).alloc (.cells #[.int .u8 0, .int .u8 0, .int .u8 0, .int .u8 0, .int .u8 0, .int .u8 0, .int .u8 0, .int .u8 0, .int .u8 0, .int .u8 0, .int .u8 0, .int .u8 0, .int .u8 0, .int .u8 0, .int .u8 0, .int .u8 0, .int .u8 0, .int .u8 0, .int .u8 0, .int .u8 0, .int .u8 0, .int .u8 0, .int .u8 0, .int .u8 0, .int .u8 0, .int .u8 0, .int .u8 0, .int .u8 0, .int .u8 0, .int .u8 0, .int .u8 0, .int .u8 0, .int .i64 0] 56)) (w5.heap.size + 1) (zer 32) 0) := Lib.hid (by rw [ztr]; exact heap_alloc2_new _ _ _)
  have HQe6 : Hid (QBlk (((w5.alloc (.cells #[.slice none 0 0, .int .i64 0, .slice none 0 0] 28)).alloc (.cells #[.int .u8 0, .int .u8 0, .int .u8 0, .int .u8 0, .int .u8 0, .int .u8 0, .int .u8 0, .int .u8 0, .int .u8 0, .int .u8 0, .int .u8 0, .int .u8 0, .int .u8 0, .int .u8 0, .int .u8 0, .int .u8 0, .int .u8 0, .int .u8 0, .int .u8 0, .int .u8 0, .int .u8 0, .int .u8 0, .int .u8 0, .int .u8 0, .int .u8 0, .int .u8 0, .int .u8 0, .int .u8 0, .int .u8 0, .int .u8 0, .int .u8 0, .int .u8 0, .int .i64 0] 56)).setRow (w5.heap.size + 1) (tcs (zer 32) 0)) w5.heap.size (.slice none 0 0) (.int .i64 0) (.slice none 0 0)) := Lib.hid ((setRow_other _ _ _ _ (by omega)).trans (heap_alloc2_old _ _ _))
  have HDe6 : Hid (DBlk (((w5.alloc (.cells #[.slice none 0 0, .int .i64 0, .slice none 0 0] 28)).alloc (.cells #[.int .u8 0, .int .u8 0, .int .u8 0, .int .u8 0, .int .u8 0, .int .u8 0, .int .u8 0, .int .u8 0, .int .u8 0, .int .u8 0, .int .u8 0, .int .u8 0, .int .u8 0, .int .u8 0, .int .u8 0, .int .u8 0, .int .u8 0, .int .u8 0, .int .u8 0, .int .u8 0, .int .u8 0, .int .u8 0, .int .u8 0, .int .u8 0, .int .u8 0, .int .u8 0, .int .u8 0, .int .u8 0, .int .u8 0, .int .u8 0, .int .u8 0, .int .u8 0, .int .i64 0] 56)).setRow (w5.heap.size + 1) (tcs (zer 32) 0)) (w5.heap.size + 1) (zer 32) 0) := Lib.hid (DBlk.setRow HDa6.out)
  have hq : Below w5.heap.size w5 (((w5.alloc (.cells #[.slice none 0 0, .int .i64 0, .slice none 0 0] 28)).alloc (.cells #[.int .u8 0, .int .u8 0, .int .u8 0, .int .u8 0, .int .u8 0, .int .u8 0, .int .u8 0, .int .u8 0, .int .u8 0, .int .u8 0, .int .u8 0, .int .u8 0, .int .u8 0, .int .u8 0, .int .u8 0, .int .u8 0, .int .u8 0, .int .u8 0, .int .u8 0, .int .u8 0, .int .u8 0, .int .u8 0, .int .u8 0, .int .u8 0, .int .u8 0, .int .u8 0, .int .u8 0, .int .u8 0, .int .u8 0, .int .u8 0, .int .u8 0, .int .u8 0, .int .i64 0] 56)).setRow (w5.heap.size + 1) (tcs (zer 32) 0)) := below_setRow' (below_two (Below.refl _ _)) (Nat.le_succ _)
  have HQW := Lib.hid hq
  go_upto_region 6 with ((with_reducible show wpList _ _ _ (⟨none, _, _, _, _, _⟩ :: _) _ _); refine wpList_store_row rfl 56 _ _ rfl (w5.heap.size + 1) (tcs (zer 32) 0) rfl rfl _ _ HDa6.out (dr_info rfl) (tcs_sz (h := zer 32) (c := 0) rfl rfl) (tcs_one _ _) ?_)
  clear HDa6
  have HB_6 := Lib.hid (below_ext HB_5.out hq)
  obtain ⟨w6, hw⟩ : ∃ x, (((w5.alloc (.cells #[.slice none 0 0, .int .i64 0, .slice none 0 0] 28)).alloc (.cells #[.int .u8 0, .int .u8 0, .int .u8 0, .int .u8 0, .int .u8 0, .int .u8 0, .int .u8 0, .int .u8 0, .int .u8 0, .int .u8 0, .int .u8 0, .int .u8 0, .int .u8 0, .int .u8 0, .int .u8 0, .int .u8 0, .int .u8 0, .int .u8 0, .int .u8 0, .int .u8 0, .int .u8 0, .int .u8 0, .int .u8 0, .int .u8 0, .int .u8 0, .int .u8 0, .int .u8 0, .int .u8 0, .int .u8 0, .int .u8 0, .int .u8 0, .int .u8 0, .int .i64 0] 56)).setRow (w5.heap.size + 1) (tcs (zer 32) 0)) = x := ⟨_, rfl⟩
  rw [hw] at HQW HQe6 HDe6 HB_6 ⊢
  clear hw hq
  have HB_w6_6 : Hid (Below w6.heap.size w6 w6) := Lib.hid (Below.refl _ _)
  have kS := Lib.hid (show ∀ u : World, Hid (Below w6.heap.size w6 u) → u.cell? ⟨w5.heap.size, 0, none⟩ = some (.slice none 0 0) ∧ u.cell? ⟨w5.heap.size, 1, none⟩ = some (.int .i64 0) ∧ u.cell? ⟨w5.heap.size, 2, none⟩ = some (.slice none 0 0) from fun u hh => ⟨cell_below HQe6.out.cells.1.1 hh.out, cell_below HQe6.out.cells.1.2.1 hh.out, cell_below HQe6.out.cells.1.2.2 hh.out⟩)
  have kS2 := Lib.hid (show ∀ u : World, Hid (Below w6.heap.size w6 u) → Hid (DBlk u (w5.heap.size + 1) (zer 32) 0) from fun u h => Lib.hid (HDe6.out.below h.out))
  obtain ⟨zc0, zc1, zc2⟩ := kC.out _ HB_6
  obtain ⟨kS_0, kS_1, kS_2⟩ := kS.out _ HB_w6_6
  go_wp2_with fail
  refine (same18_any none [] 0 0 0 none [] 0 0 none [] 0 0 0 none [] 0 0 (Lib.hid rfl) (Lib.hid rfl) (Lib.hid rfl) (Lib.hid rfl) (by omega) (by omega) (by omega) (by omega) true (Lib.hid rfl) _ (Lib.hid (sl_nil _)) (Lib.hid (sl_nil _)) (Lib.hid (sl_nil _)) (Lib.hid (sl_nil _))).mono ?_
  rintro e w7 ⟨rfl, hb0⟩
  have HB_7 := Lib.hid (below_ext HB_6.out hb0)
  have HB_w6_7 := Lib.hid (below_ext HB_w6_6.out hb0)
  clear zc0 zc1 zc2 kS_0 kS_1 kS_2
  clear hb0
  obtain ⟨zc0, zc1, zc2⟩ := kC.out _ HB_7
  obtain ⟨kS_0, kS_1, kS_2⟩ := kS.out _ HB_w6_7
  have hbF := below_ext HBw.out HB_7.out
  go_wp2
  go_ret
  exact ⟨rfl, hbF⟩
set_option maxHeartbeats 25600000 in
theorem eb_f (P Q G a b x : Int) (s o : ByteArray) (h : List Int) (c : Int) (hl : Hid (h.length = 32)) (hhb : Hid (bytesB h = true)) (hQ : Q < 9223372036854775808) (hs : s.size ≤ 100) (ho : o.size ≤ 100) (HVG : Hid (validG P Q G = true)) (hma : Hid (memG P Q a = true)) (hmb : Hid (memG P Q b = true)) (hck : Hid (chkG P Q G [a, b] = 0)) (hdr : Hid (drB c = true)) (hr : Hid (labB (bys s) = true)) (x0 : 0 ≤ x) (x1 : x < Q) (ya yb : Int) (hya : Hid (pw a (x % Q) P = ya)) (hyb : Hid (pw b (x % Q) P = yb)) (HST : Hid ((stD h Q c 1).2 = true)) (w : World) (hv : Hid (Vars w)) (hd : Hid (VarsD w)) :
    Calls Tryz.prog 6 #[gv P Q G, .int .i64 a, .int .i64 b, .int .i64 x, .string s, .string o, .agg (tcs h c)] w fun e' w' => e' = .returned (.bool true) ∧ Below w.heap.size w w' := by
  have dl : decide ((100 : Int) < (s.size : Int)) = false := by simp; omega
  have dlo : decide ((100 : Int) < (o.size : Int)) = false := by simp; omega
  obtain ⟨hp2, hp, hq3, hqp⟩ := validG_P HVG.out
  obtain ⟨w0, hW⟩ : ∃ W, ((w.alloc (gObj P Q G)).alloc (.cells (tcs h c) 56)) = W := ⟨_, rfl⟩
  have HBw : Hid (Below w.heap.size w w0) := Lib.hid (by rw [← hW]; exact below_two (Below.refl _ _))
  have hc : w0.cell? ⟨w.heap.size, 0, none⟩ = some (.int .i64 P) ∧ w0.cell? ⟨w.heap.size, 1, none⟩ = some (.int .i64 Q) ∧ w0.cell? ⟨w.heap.size, 2, none⟩ = some (.int .i64 G) := by rw [← hW]; exact ⟨cell_below (allocs_cell (by simp) (by rfl)) (below_box0 _ _), cell_below (allocs_cell (by simp) (by rfl)) (below_box0 _ _), cell_below (allocs_cell (by simp) (by rfl)) (below_box0 _ _)⟩
  have kC := Lib.hid (show ∀ u : World, Hid (Below w0.heap.size w0 u) → u.cell? ⟨w.heap.size, 0, none⟩ = some (.int .i64 P) ∧ u.cell? ⟨w.heap.size, 1, none⟩ = some (.int .i64 Q) ∧ u.cell? ⟨w.heap.size, 2, none⟩ = some (.int .i64 G) from fun u h => ⟨cell_below hc.1 h.out, cell_below hc.2.1 h.out, cell_below hc.2.2 h.out⟩)
  have kV := Lib.hid (show ∀ u : World, Hid (Below w0.heap.size w0 u) → Hid (Vars u) from fun u h => Lib.hid ((hv.out.below) (below_ext HBw.out h.out)))
  have kD := Lib.hid (show ∀ u : World, Hid (Below w0.heap.size w0 u) → Hid (VarsD u) from fun u h => Lib.hid ((hd.out.below) (below_ext HBw.out h.out)))
  have HB_0 : Hid (Below w0.heap.size w0 w0) := Lib.hid (Below.refl _ _)
  have HW := Lib.hid hW
  clear hW hc hv hd
  have HT0 : Hid (DBlk w0 (w.heap.size + 1) h c) := Lib.hid (by rw [← HW.out, show w.heap.size + 1 = (w.alloc (gObj P Q G)).heap.size by simp]; exact heap_alloc_new _ _)
  have kT := Lib.hid (show ∀ u : World, Hid (Below w0.heap.size w0 u) → Hid (DBlk u (w.heap.size + 1) h c) from fun u hh => Lib.hid (HT0.out.below hh.out))
  go_enter Tryz.func6, Tryz.ntmps6
  go_upto_region 1 with (fail)
  rw [HW.out]
  obtain ⟨zc0, zc1, zc2⟩ := kC.out _ HB_0
  go_wp2_with fail
  refine (awake18 _ (kV.out _ HB_0)).mono ?_
  rintro e w1 ⟨rfl, hb0⟩
  have HB_1 := Lib.hid (below_ext HB_0.out hb0)
  clear zc0 zc1 zc2
  clear hb0
  obtain ⟨zc0, zc1, zc2⟩ := kC.out _ HB_1
  go_wp2_with fail
  refine (rvalid_any P Q G true HVG hQ _).mono ?_
  rintro e w2 ⟨rfl, hb0⟩
  have HB_2 := Lib.hid (below_ext HB_1.out hb0)
  clear zc0 zc1 zc2
  clear hb0
  obtain ⟨zc0, zc1, zc2⟩ := kC.out _ HB_2
  go_wp2_with fail
  refine (rmember_any P Q G a true hma hp (by omega) hQ _).mono ?_
  rintro e w3 ⟨rfl, hb0⟩
  have HB_3 := Lib.hid (below_ext HB_2.out hb0)
  clear zc0 zc1 zc2
  clear hb0
  obtain ⟨zc0, zc1, zc2⟩ := kC.out _ HB_3
  go_wp2_with fail
  refine (rmember_any P Q G b true hmb hp (by omega) hQ _).mono ?_
  rintro e w4 ⟨rfl, hb0⟩
  have HB_4 := Lib.hid (below_ext HB_3.out hb0)
  clear zc0 zc1 zc2
  clear hb0
  obtain ⟨zc0, zc1, zc2⟩ := kC.out _ HB_4
  have HTk := kT.out _ HB_4
  go_wp2_with ((with_reducible show wpList _ _ _ (⟨some 58, _, _, _, _, _⟩ :: _) _ _); refine wpList_load_row_g (by rfl) 56 _ rfl (w.heap.size + 1) rfl _ _ _ _ HTk.out Tryz.underlying56 rfl (dr_info hl.out) ?_)
  refine (eqp_f P Q G a b x s h c (by omega) hl hQ hck hhb hdr hr x0 x1 ya yb hya hyb HST _ (kV.out _ HB_4) (kD.out _ HB_4)).mono ?_
  rintro e w5 ⟨rfl, hb0⟩
  have HB_5 := Lib.hid (below_ext HB_4.out hb0)
  clear zc0 zc1 zc2
  clear hb0 HTk
  rw [show PrvE (.agg #[.slice none 0 0, .int .i64 0, .slice none 0 0]) (zer 32) 0 5 = .tuple #[.agg #[.slice none 0 0, .int .i64 0, .slice none 0 0], .agg (tcs (zer 32) 0), .int .i64 5] from rfl]
  have HDa6 : Hid (DBlk ((w5.alloc (.cells #[.slice none 0 0, .int .i64 0, .slice none 0 0] 28)).alloc (.cells #[.int .u8 0, .int .u8 0, .int .u8 0, .int .u8 0, .int .u8 0, .int .u8 0, .int .u8 0, .int .u8 0, .int .u8 0, .int .u8 0, .int .u8 0, .int .u8 0, .int .u8 0, .int .u8 0, .int .u8 0, .int .u8 0, .int .u8 0, .int .u8 0, .int .u8 0, .int .u8 0, .int .u8 0, .int .u8 0, .int .u8 0, .int .u8 0, .int .u8 0, .int .u8 0, .int .u8 0, .int .u8 0, .int .u8 0, .int .u8 0, .int .u8 0, .int .u8 0, .int .i64 0] 56)) (w5.heap.size + 1) (zer 32) 0) := Lib.hid (by rw [ztr]; exact heap_alloc2_new _ _ _)
  have HQe6 : Hid (QBlk (((w5.alloc (.cells #[.slice none 0 0, .int .i64 0, .slice none 0 0] 28)).alloc (.cells #[.int .u8 0, .int .u8 0, .int .u8 0, .int .u8 0, .int .u8 0, .int .u8 0, .int .u8 0, .int .u8 0, .int .u8 0, .int .u8 0, .int .u8 0, .int .u8 0, .int .u8 0, .int .u8 0, .int .u8 0, .int .u8 0, .int .u8 0, .int .u8 0, .int .u8 0, .int .u8 0, .int .u8 0, .int .u8 0, .int .u8 0, .int .u8 0, .int .u8 0, .int .u8 0, .int .u8 0, .int .u8 0, .int .u8 0, .int .u8 0, .int .u8 0, .int .u8 0, .int .i64 0] 56)).setRow (w5.heap.size + 1) (tcs (zer 32) 0)) w5.heap.size (.slice none 0 0) (.int .i64 0) (.slice none 0 0)) := Lib.hid ((setRow_other _ _ _ _ (by omega)).trans (heap_alloc2_old _ _ _))
  have HDe6 : Hid (DBlk (((w5.alloc (.cells #[.slice none 0 0, .int .i64 0, .slice none 0 0] 28)).alloc (.cells #[.int .u8 0, .int .u8 0, .int .u8 0, .int .u8 0, .int .u8 0, .int .u8 0, .int .u8 0, .int .u8 0, .int .u8 0, .int .u8 0, .int .u8 0, .int .u8 0, .int .u8 0, .int .u8 0, .int .u8 0, .int .u8 0, .int .u8 0, .int .u8 0, .int .u8 0, .int .u8 0, .int .u8 0, .int .u8 0, .int .u8 0, .int .u8 0, .int .u8 0, .int .u8 0, .int .u8 0, .int .u8 0, .int .u8 0, .int .u8 0, .int .u8 0, .int .u8 0, .int .i64 0] 56)).setRow (w5.heap.size + 1) (tcs (zer 32) 0)) (w5.heap.size + 1) (zer 32) 0) := Lib.hid (DBlk.setRow HDa6.out)
  have hq : Below w5.heap.size w5 (((w5.alloc (.cells #[.slice none 0 0, .int .i64 0, .slice none 0 0] 28)).alloc (.cells #[.int .u8 0, .int .u8 0, .int .u8 0, .int .u8 0, .int .u8 0, .int .u8 0, .int .u8 0, .int .u8 0, .int .u8 0, .int .u8 0, .int .u8 0, .int .u8 0, .int .u8 0, .int .u8 0, .int .u8 0, .int .u8 0, .int .u8 0, .int .u8 0, .int .u8 0, .int .u8 0, .int .u8 0, .int .u8 0, .int .u8 0, .int .u8 0, .int .u8 0, .int .u8 0, .int .u8 0, .int .u8 0, .int .u8 0, .int .u8 0, .int .u8 0, .int .u8 0, .int .i64 0] 56)).setRow (w5.heap.size + 1) (tcs (zer 32) 0)) := below_setRow' (below_two (Below.refl _ _)) (Nat.le_succ _)
  have HQW := Lib.hid hq
  go_upto_region 6 with ((with_reducible show wpList _ _ _ (⟨none, _, _, _, _, _⟩ :: _) _ _); refine wpList_store_row rfl 56 _ _ rfl (w5.heap.size + 1) (tcs (zer 32) 0) rfl rfl _ _ HDa6.out (dr_info rfl) (tcs_sz (h := zer 32) (c := 0) rfl rfl) (tcs_one _ _) ?_)
  clear HDa6
  have HB_6 := Lib.hid (below_ext HB_5.out hq)
  obtain ⟨w6, hw⟩ : ∃ x, (((w5.alloc (.cells #[.slice none 0 0, .int .i64 0, .slice none 0 0] 28)).alloc (.cells #[.int .u8 0, .int .u8 0, .int .u8 0, .int .u8 0, .int .u8 0, .int .u8 0, .int .u8 0, .int .u8 0, .int .u8 0, .int .u8 0, .int .u8 0, .int .u8 0, .int .u8 0, .int .u8 0, .int .u8 0, .int .u8 0, .int .u8 0, .int .u8 0, .int .u8 0, .int .u8 0, .int .u8 0, .int .u8 0, .int .u8 0, .int .u8 0, .int .u8 0, .int .u8 0, .int .u8 0, .int .u8 0, .int .u8 0, .int .u8 0, .int .u8 0, .int .u8 0, .int .i64 0] 56)).setRow (w5.heap.size + 1) (tcs (zer 32) 0)) = x := ⟨_, rfl⟩
  rw [hw] at HQW HQe6 HDe6 HB_6 ⊢
  clear hw hq
  have HB_w6_6 : Hid (Below w6.heap.size w6 w6) := Lib.hid (Below.refl _ _)
  have kS := Lib.hid (show ∀ u : World, Hid (Below w6.heap.size w6 u) → u.cell? ⟨w5.heap.size, 0, none⟩ = some (.slice none 0 0) ∧ u.cell? ⟨w5.heap.size, 1, none⟩ = some (.int .i64 0) ∧ u.cell? ⟨w5.heap.size, 2, none⟩ = some (.slice none 0 0) from fun u hh => ⟨cell_below HQe6.out.cells.1.1 hh.out, cell_below HQe6.out.cells.1.2.1 hh.out, cell_below HQe6.out.cells.1.2.2 hh.out⟩)
  have kS2 := Lib.hid (show ∀ u : World, Hid (Below w6.heap.size w6 u) → Hid (DBlk u (w5.heap.size + 1) (zer 32) 0) from fun u h => Lib.hid (HDe6.out.below h.out))
  obtain ⟨zc0, zc1, zc2⟩ := kC.out _ HB_6
  obtain ⟨kS_0, kS_1, kS_2⟩ := kS.out _ HB_w6_6
  go_wp2_with fail
  refine (same18_any none [] 0 0 0 none [] 0 0 none [] 0 0 0 none [] 0 0 (Lib.hid rfl) (Lib.hid rfl) (Lib.hid rfl) (Lib.hid rfl) (by omega) (by omega) (by omega) (by omega) true (Lib.hid rfl) _ (Lib.hid (sl_nil _)) (Lib.hid (sl_nil _)) (Lib.hid (sl_nil _)) (Lib.hid (sl_nil _))).mono ?_
  rintro e w7 ⟨rfl, hb0⟩
  have HB_7 := Lib.hid (below_ext HB_6.out hb0)
  have HB_w6_7 := Lib.hid (below_ext HB_w6_6.out hb0)
  clear zc0 zc1 zc2 kS_0 kS_1 kS_2
  clear hb0
  obtain ⟨zc0, zc1, zc2⟩ := kC.out _ HB_7
  obtain ⟨kS_0, kS_1, kS_2⟩ := kS.out _ HB_w6_7
  have hbF := below_ext HBw.out HB_7.out
  go_wp2
  go_ret
  exact ⟨rfl, hbF⟩
set_option maxHeartbeats 25600000 in
theorem eb_o1 (P Q G a b x : Int) (s o : ByteArray) (h : List Int) (c : Int) (hl : Hid (h.length = 32)) (hhb : Hid (bytesB h = true)) (hQ : Q < 9223372036854775808) (hs : s.size ≤ 100) (ho : o.size ≤ 100) (HVG : Hid (validG P Q G = true)) (hma : Hid (memG P Q a = true)) (hmb : Hid (memG P Q b = true)) (hck : Hid (chkG P Q G [a, b] = 0)) (hdr : Hid (drB c = true)) (hr : Hid (labB (bys s) = true)) (x0 : 0 ≤ x) (x1 : x < Q) (ya yb : Int) (hya : Hid (pw a (x % Q) P = ya)) (hyb : Hid (pw b (x % Q) P = yb)) (HST : Hid ((stD h Q c 1).2 = false)) (c2 : Int) (hc2 : Hid ((stD h Q c 1).1 = c2)) (ks : List Int) (hks : Hid (lstD h Q c 1 = ks)) (hy1 : Hid (ya = 1 ∧ yb = 1)) (w : World) (hv : Hid (Vars w)) (hd : Hid (VarsD w)) :
    Calls Tryz.prog 6 #[gv P Q G, .int .i64 a, .int .i64 b, .int .i64 x, .string s, .string o, .agg (tcs h c)] w fun e' w' => e' = .returned (.bool true) ∧ Below w.heap.size w w' := by
  have dl : decide ((100 : Int) < (s.size : Int)) = false := by simp; omega
  have dlo : decide ((100 : Int) < (o.size : Int)) = false := by simp; omega
  have hs9 : s.size ≤ 1000 := by omega
  have ho9 : o.size ≤ 1000 := by omega
  have n2b : (2 : Nat) < 1000000 := by decide
  have n1b : (1 : Nat) < 1000000 := by decide
  obtain ⟨hho, hcr, hcy⟩ := eq_holds hck.out x0 x1 hya.out hyb.out
  obtain ⟨hp2, hp, hq3, hqp⟩ := validG_P HVG.out
  have HA1 := Lib.hid (chkG_ok (xs := [a]) HVG.out (by simp [hma.out]))
  have HB1 := Lib.hid (chkG_ok (xs := [b]) HVG.out (by simp [hmb.out]))
  have HHO := Lib.hid hho
  have HCY := Lib.hid hcy
  clear hho hcr hcy
  obtain ⟨AL, hAL⟩ : ∃ l, ((eqRows none none a b).map fun r => prodF P 1 r.xs ks) = l := ⟨_, rfl⟩
  have HAN : Hid (AL.length = 2) := Lib.hid (by rw [← hAL]; rfl)
  have HAL := Lib.hid hAL
  have HKN : Hid (ks.length = 1) := Lib.hid (by rw [← hks.out]; exact lstD_len _ _ _ _)
  have HKC : Hid (ks.all (scB Q) = true) := Lib.hid (by rw [← hks.out]; exact lstD_sc (by omega) _)
  have HOK : Hid (∀ i, i < (eqRows none none a b).length → ((eqRows none none a b).getD i noRow).xs.length = ((eqRows none none a b).getD i noRow).n) := Lib.hid (fun i hi => by
    match i, hi with
    | 0, _ => rfl
    | 1, _ => rfl)
  have HD2 : Hid (drB c2 = true) := Lib.hid (by
    have hd0 := hdr.out
    simp [drB] at hd0
    have := stD_lo (h := h) (q := Q) hd0.1 hd0.2 1
    rw [hc2.out] at this
    simp [drB]; exact ⟨this.1, this.2.1⟩)
  clear hAL
  obtain ⟨w0, hW⟩ : ∃ W, ((w.alloc (gObj P Q G)).alloc (.cells (tcs h c) 56)) = W := ⟨_, rfl⟩
  have HBw : Hid (Below w.heap.size w w0) := Lib.hid (by rw [← hW]; exact below_two (Below.refl _ _))
  have hc : w0.cell? ⟨w.heap.size, 0, none⟩ = some (.int .i64 P) ∧ w0.cell? ⟨w.heap.size, 1, none⟩ = some (.int .i64 Q) ∧ w0.cell? ⟨w.heap.size, 2, none⟩ = some (.int .i64 G) := by rw [← hW]; exact ⟨cell_below (allocs_cell (by simp) (by rfl)) (below_box0 _ _), cell_below (allocs_cell (by simp) (by rfl)) (below_box0 _ _), cell_below (allocs_cell (by simp) (by rfl)) (below_box0 _ _)⟩
  have kC := Lib.hid (show ∀ u : World, Hid (Below w0.heap.size w0 u) → u.cell? ⟨w.heap.size, 0, none⟩ = some (.int .i64 P) ∧ u.cell? ⟨w.heap.size, 1, none⟩ = some (.int .i64 Q) ∧ u.cell? ⟨w.heap.size, 2, none⟩ = some (.int .i64 G) from fun u h => ⟨cell_below hc.1 h.out, cell_below hc.2.1 h.out, cell_below hc.2.2 h.out⟩)
  have kV := Lib.hid (show ∀ u : World, Hid (Below w0.heap.size w0 u) → Hid (Vars u) from fun u h => Lib.hid ((hv.out.below) (below_ext HBw.out h.out)))
  have kD := Lib.hid (show ∀ u : World, Hid (Below w0.heap.size w0 u) → Hid (VarsD u) from fun u h => Lib.hid ((hd.out.below) (below_ext HBw.out h.out)))
  have HB_0 : Hid (Below w0.heap.size w0 w0) := Lib.hid (Below.refl _ _)
  have HW := Lib.hid hW
  clear hW hc hv hd
  have HT0 : Hid (DBlk w0 (w.heap.size + 1) h c) := Lib.hid (by rw [← HW.out, show w.heap.size + 1 = (w.alloc (gObj P Q G)).heap.size by simp]; exact heap_alloc_new _ _)
  have kT := Lib.hid (show ∀ u : World, Hid (Below w0.heap.size w0 u) → Hid (DBlk u (w.heap.size + 1) h c) from fun u hh => Lib.hid (HT0.out.below hh.out))
  go_enter Tryz.func6, Tryz.ntmps6
  go_upto_region 1 with (fail)
  rw [HW.out]
  obtain ⟨zc0, zc1, zc2⟩ := kC.out _ HB_0
  go_wp2_with fail
  refine (awake18 _ (kV.out _ HB_0)).mono ?_
  rintro e w1 ⟨rfl, hb0⟩
  have HB_1 := Lib.hid (below_ext HB_0.out hb0)
  clear zc0 zc1 zc2
  clear hb0
  obtain ⟨zc0, zc1, zc2⟩ := kC.out _ HB_1
  go_wp2_with fail
  refine (rvalid_any P Q G true HVG hQ _).mono ?_
  rintro e w2 ⟨rfl, hb0⟩
  have HB_2 := Lib.hid (below_ext HB_1.out hb0)
  clear zc0 zc1 zc2
  clear hb0
  obtain ⟨zc0, zc1, zc2⟩ := kC.out _ HB_2
  go_wp2_with fail
  refine (rmember_any P Q G a true hma hp (by omega) hQ _).mono ?_
  rintro e w3 ⟨rfl, hb0⟩
  have HB_3 := Lib.hid (below_ext HB_2.out hb0)
  clear zc0 zc1 zc2
  clear hb0
  obtain ⟨zc0, zc1, zc2⟩ := kC.out _ HB_3
  go_wp2_with fail
  refine (rmember_any P Q G b true hmb hp (by omega) hQ _).mono ?_
  rintro e w4 ⟨rfl, hb0⟩
  have HB_4 := Lib.hid (below_ext HB_3.out hb0)
  clear zc0 zc1 zc2
  clear hb0
  obtain ⟨zc0, zc1, zc2⟩ := kC.out _ HB_4
  have HTk := kT.out _ HB_4
  go_wp2_with ((with_reducible show wpList _ _ _ (⟨some 58, _, _, _, _, _⟩ :: _) _ _); refine wpList_load_row_g (by rfl) 56 _ rfl (w.heap.size + 1) rfl _ _ _ _ HTk.out Tryz.underlying56 rfl (dr_info hl.out) ?_)
  refine (eqp_o P Q G a b x s h c (by omega) hl hQ hck hhb hdr hr x0 x1 ya yb hya hyb HST c2 hc2 ks hks _ (kV.out _ HB_4) (kD.out _ HB_4)).mono ?_
  intro e w5 hP
  obtain ⟨A5, ca5, Z5, cz5, V, HVV, rfl, hA5, hZ5, hb0⟩ := hP
  rw [HAL.out] at hA5
  rw [show rowN (eqRows none none a b) = 1 from rfl] at hZ5 ⊢
  have HA5 := Lib.hid hA5
  have HZ5 := Lib.hid hZ5
  clear hA5 hZ5
  have HB_5 := Lib.hid (below_ext HB_4.out hb0)
  clear zc0 zc1 zc2
  clear hb0 HTk
  rw [show PrvE (.agg #[.slice A5 2 ca5, .int .i64 V, .slice Z5 1 cz5]) h c2 0 = .tuple #[.agg #[.slice A5 2 ca5, .int .i64 V, .slice Z5 1 cz5], .agg (tcs h c2), .int .i64 0] from rfl]
  have HDa6 : Hid (DBlk ((w5.alloc (.cells #[.slice A5 2 ca5, .int .i64 V, .slice Z5 1 cz5] 28)).alloc (.cells #[.int .u8 0, .int .u8 0, .int .u8 0, .int .u8 0, .int .u8 0, .int .u8 0, .int .u8 0, .int .u8 0, .int .u8 0, .int .u8 0, .int .u8 0, .int .u8 0, .int .u8 0, .int .u8 0, .int .u8 0, .int .u8 0, .int .u8 0, .int .u8 0, .int .u8 0, .int .u8 0, .int .u8 0, .int .u8 0, .int .u8 0, .int .u8 0, .int .u8 0, .int .u8 0, .int .u8 0, .int .u8 0, .int .u8 0, .int .u8 0, .int .u8 0, .int .u8 0, .int .i64 0] 56)) (w5.heap.size + 1) (zer 32) 0) := Lib.hid (by rw [ztr]; exact heap_alloc2_new _ _ _)
  have HQe6 : Hid (QBlk (((w5.alloc (.cells #[.slice A5 2 ca5, .int .i64 V, .slice Z5 1 cz5] 28)).alloc (.cells #[.int .u8 0, .int .u8 0, .int .u8 0, .int .u8 0, .int .u8 0, .int .u8 0, .int .u8 0, .int .u8 0, .int .u8 0, .int .u8 0, .int .u8 0, .int .u8 0, .int .u8 0, .int .u8 0, .int .u8 0, .int .u8 0, .int .u8 0, .int .u8 0, .int .u8 0, .int .u8 0, .int .u8 0, .int .u8 0, .int .u8 0, .int .u8 0, .int .u8 0, .int .u8 0, .int .u8 0, .int .u8 0, .int .u8 0, .int .u8 0, .int .u8 0, .int .u8 0, .int .i64 0] 56)).setRow (w5.heap.size + 1) (tcs h c2)) w5.heap.size (.slice A5 2 ca5) (.int .i64 V) (.slice Z5 1 cz5)) := Lib.hid ((setRow_other _ _ _ _ (by omega)).trans (heap_alloc2_old _ _ _))
  have HDe6 : Hid (DBlk (((w5.alloc (.cells #[.slice A5 2 ca5, .int .i64 V, .slice Z5 1 cz5] 28)).alloc (.cells #[.int .u8 0, .int .u8 0, .int .u8 0, .int .u8 0, .int .u8 0, .int .u8 0, .int .u8 0, .int .u8 0, .int .u8 0, .int .u8 0, .int .u8 0, .int .u8 0, .int .u8 0, .int .u8 0, .int .u8 0, .int .u8 0, .int .u8 0, .int .u8 0, .int .u8 0, .int .u8 0, .int .u8 0, .int .u8 0, .int .u8 0, .int .u8 0, .int .u8 0, .int .u8 0, .int .u8 0, .int .u8 0, .int .u8 0, .int .u8 0, .int .u8 0, .int .u8 0, .int .i64 0] 56)).setRow (w5.heap.size + 1) (tcs h c2)) (w5.heap.size + 1) h c2) := Lib.hid (DBlk.setRow HDa6.out)
  have hq : Below w5.heap.size w5 (((w5.alloc (.cells #[.slice A5 2 ca5, .int .i64 V, .slice Z5 1 cz5] 28)).alloc (.cells #[.int .u8 0, .int .u8 0, .int .u8 0, .int .u8 0, .int .u8 0, .int .u8 0, .int .u8 0, .int .u8 0, .int .u8 0, .int .u8 0, .int .u8 0, .int .u8 0, .int .u8 0, .int .u8 0, .int .u8 0, .int .u8 0, .int .u8 0, .int .u8 0, .int .u8 0, .int .u8 0, .int .u8 0, .int .u8 0, .int .u8 0, .int .u8 0, .int .u8 0, .int .u8 0, .int .u8 0, .int .u8 0, .int .u8 0, .int .u8 0, .int .u8 0, .int .u8 0, .int .i64 0] 56)).setRow (w5.heap.size + 1) (tcs h c2)) := below_setRow' (below_two (Below.refl _ _)) (Nat.le_succ _)
  have HQW := Lib.hid hq
  go_upto_region 6 with ((with_reducible show wpList _ _ _ (⟨none, _, _, _, _, _⟩ :: _) _ _); refine wpList_store_row rfl 56 _ _ rfl (w5.heap.size + 1) (tcs h c2) rfl rfl _ _ HDa6.out (dr_info hl.out) (tcs_sz (h := zer 32) (c := 0) rfl hl.out) (tcs_one _ _) ?_)
  clear HDa6
  have HB_6 := Lib.hid (below_ext HB_5.out hq)
  obtain ⟨w6, hw⟩ : ∃ x, (((w5.alloc (.cells #[.slice A5 2 ca5, .int .i64 V, .slice Z5 1 cz5] 28)).alloc (.cells #[.int .u8 0, .int .u8 0, .int .u8 0, .int .u8 0, .int .u8 0, .int .u8 0, .int .u8 0, .int .u8 0, .int .u8 0, .int .u8 0, .int .u8 0, .int .u8 0, .int .u8 0, .int .u8 0, .int .u8 0, .int .u8 0, .int .u8 0, .int .u8 0, .int .u8 0, .int .u8 0, .int .u8 0, .int .u8 0, .int .u8 0, .int .u8 0, .int .u8 0, .int .u8 0, .int .u8 0, .int .u8 0, .int .u8 0, .int .u8 0, .int .u8 0, .int .u8 0, .int .i64 0] 56)).setRow (w5.heap.size + 1) (tcs h c2)) = x := ⟨_, rfl⟩
  rw [hw] at HQW HQe6 HDe6 HB_6 ⊢
  clear hw hq
  have HB_w6_6 : Hid (Below w6.heap.size w6 w6) := Lib.hid (Below.refl _ _)
  have kS := Lib.hid (show ∀ u : World, Hid (Below w6.heap.size w6 u) → u.cell? ⟨w5.heap.size, 0, none⟩ = some (.slice A5 2 ca5) ∧ u.cell? ⟨w5.heap.size, 1, none⟩ = some (.int .i64 V) ∧ u.cell? ⟨w5.heap.size, 2, none⟩ = some (.slice Z5 1 cz5) from fun u hh => ⟨cell_below HQe6.out.cells.1.1 hh.out, cell_below HQe6.out.cells.1.2.1 hh.out, cell_below HQe6.out.cells.1.2.2 hh.out⟩)
  have kS2 := Lib.hid (show ∀ u : World, Hid (Below w6.heap.size w6 u) → Hid (DBlk u (w5.heap.size + 1) h c2) from fun u h => Lib.hid (HDe6.out.below h.out))
  obtain ⟨zc0, zc1, zc2⟩ := kC.out _ HB_6
  obtain ⟨kS_0, kS_1, kS_2⟩ := kS.out _ HB_w6_6
  obtain ⟨ZL, hZL⟩ : ∃ l, rspL Q V ks [x] 1 = l := ⟨_, rfl⟩
  have hV := chalV_lo (P := P) (Q := Q) (G := G) (by omega) (bys s) [ya, yb] (eqRows none none a b) ((eqRows none none a b).map fun r => prodF P 1 r.xs ks)
  rw [HVV.1] at hV
  obtain ⟨hV0, hV1⟩ := hV
  have hch := honest HHO.out hV0 hV1 (show rowN (eqRows none none a b) = 1 from rfl) HKN.out HKC.out (fun i hi => HOK.out i hi)
  rw [HAL.out, hZL] at hch
  rw [hZL] at HZ5
  have HZN : Hid (ZL.length = 1) := Lib.hid (by rw [← hZL]; exact rspL_length _ _ _ _ _)
  have HCH := Lib.hid hch
  have HVS : Kp (eqVer P Q G a ya b yb V (bys s) AL ZL = true) := ⟨by
    have hvv := HVV.1
    rw [eqVer, HCY.out, verL, HCH.out, hr.out]
    have e2 : chalV P Q G (bys s) [ya, yb] (eqRows none none a b) AL = V := by rw [← HAL.out]; exact hvv
    rw [e2]; simp⟩
  obtain ⟨V1, hV2⟩ : ∃ v, (V + 1) % Q = v := ⟨_, rfl⟩
  have HNX : Hid ((ya ≠ 1 ∨ yb ≠ 1) → eqChk P Q G a ya b yb V1 AL ZL = false) := Lib.hid (fun hne => by rw [eqChk, ← hV2, next_no HCH.out hne]; simp)
  have htm : (V + 1).tmod Q = V1 := by rw [Int.tmod_eq_emod_of_nonneg (by omega), hV2]
  have HTM := Lib.hid htm
  have hv10 : 0 ≤ V1 := by rw [← hV2]; exact Int.emod_nonneg _ (by omega)
  have hv11 : V1 < Q := by rw [← hV2]; exact Int.emod_lt_of_pos _ (by omega)
  clear hV2 hZL hch htm
  have kA5 := Lib.hid (show ∀ u : World, Hid (Below w6.heap.size w6 u) → Hid (Sl u A5 AL) from fun u h => Lib.hid (HA5.out.below (below_ext HQW h.out)))
  have kZ5 := Lib.hid (show ∀ u : World, Hid (Below w6.heap.size w6 u) → Hid (Sl u Z5 ZL) from fun u h => Lib.hid (HZ5.out.below (below_ext HQW h.out)))
  go_wp2_with fail
  refine (gpow_ok P Q G a x ya HA1 hya (by omega) (by omega) _ (kV.out _ HB_6)).mono ?_
  rintro e w7 ⟨rfl, hb0⟩
  have HB_7 := Lib.hid (below_ext HB_6.out hb0)
  have HB_w6_7 := Lib.hid (below_ext HB_w6_6.out hb0)
  clear zc0 zc1 zc2 kS_0 kS_1 kS_2
  clear hb0
  obtain ⟨zc0, zc1, zc2⟩ := kC.out _ HB_7
  obtain ⟨kS_0, kS_1, kS_2⟩ := kS.out _ HB_w6_7
  go_wp2_with fail
  refine (gpow_ok P Q G b x yb HB1 hyb (by omega) (by omega) _ (kV.out _ HB_7)).mono ?_
  rintro e w8 ⟨rfl, hb0⟩
  have HB_8 := Lib.hid (below_ext HB_7.out hb0)
  have HB_w6_8 := Lib.hid (below_ext HB_w6_7.out hb0)
  clear zc0 zc1 zc2 kS_0 kS_1 kS_2
  clear hb0
  obtain ⟨zc0, zc1, zc2⟩ := kC.out _ HB_8
  obtain ⟨kS_0, kS_1, kS_2⟩ := kS.out _ HB_w6_8
  have HNk := kS2.out _ HB_w6_8
  go_wp2_with ((with_reducible show wpList _ _ _ (⟨some 89, _, _, _, _, _⟩ :: _) _ _); refine wpList_load_row_g (by rfl) 56 _ rfl (w5.heap.size + 1) rfl _ _ _ _ HNk.out Tryz.underlying56 rfl (dr_info hl.out) ?_)
  refine (dvalid_any h hl c2 true HD2 _).mono ?_
  rintro e w9 ⟨rfl, hb0⟩
  have HB_9 := Lib.hid (below_ext HB_8.out hb0)
  have HB_w6_9 := Lib.hid (below_ext HB_w6_8.out hb0)
  clear zc0 zc1 zc2 kS_0 kS_1 kS_2
  clear hb0
  obtain ⟨zc0, zc1, zc2⟩ := kC.out _ HB_9
  obtain ⟨kS_0, kS_1, kS_2⟩ := kS.out _ HB_w6_9
  clear HNk
  go_wp2_with fail
  refine (eqvr_any P Q G a ya b yb A5 AL 2 ca5 V Z5 ZL 1 cz5 HAN HZN n2b n1b hQ s hs9 true HVS _ (kV.out _ HB_9) (kD.out _ HB_9) (kA5.out _ HB_w6_9) (kZ5.out _ HB_w6_9)).mono ?_
  rintro e w10 ⟨rfl, hb0⟩
  have HB_10 := Lib.hid (below_ext HB_9.out hb0)
  have HB_w6_10 := Lib.hid (below_ext HB_w6_9.out hb0)
  clear zc0 zc1 zc2 kS_0 kS_1 kS_2
  clear hb0
  obtain ⟨zc0, zc1, zc2⟩ := kC.out _ HB_10
  obtain ⟨kS_0, kS_1, kS_2⟩ := kS.out _ HB_w6_10
  have dq3 : decide (Q < 3) = false := by simp; omega
  go_upto_region 15 with (fail)
  have HQq : Hid (QBlk (w10.alloc (.cells #[.slice A5 2 ca5, .int .i64 V, .slice Z5 1 cz5] 28)) w10.heap.size (.slice A5 2 ca5) (.int .i64 V) (.slice Z5 1 cz5)) := Lib.hid (heap_alloc_new _ _)
  clear zc0 zc1 zc2 kS_0 kS_1 kS_2
  have HSZ_w0 : Hid (w0.heap.size ≤ w10.heap.size) := Lib.hid (HB_10.out.size)
  have HSZ_w6 : Hid (w6.heap.size ≤ w10.heap.size) := Lib.hid (HB_w6_10.out.size)
  have hq := below_box0 w10 (.cells #[.slice A5 2 ca5, .int .i64 V, .slice Z5 1 cz5] 28)
  have HB_11 := Lib.hid (below_ext HB_10.out hq)
  have HB_w6_11 := Lib.hid (below_ext HB_w6_10.out hq)
  clear hq
  obtain ⟨wq, hwq⟩ : ∃ u, w10.alloc (.cells #[.slice A5 2 ca5, .int .i64 V, .slice Z5 1 cz5] 28) = u := ⟨_, rfl⟩
  rw [hwq] at HQq HB_11 HB_w6_11 ⊢
  have HBq : Hid (w10.heap.size < wq.heap.size) := Lib.hid HQq.out.lt
  clear hwq
  obtain ⟨zc0, zc1, zc2⟩ := kC.out _ HB_11
  obtain ⟨kS_0, kS_1, kS_2⟩ := kS.out _ HB_w6_11
  obtain ⟨⟨q0, q1, q2⟩, qf0, qf1, qf2⟩ := HQq.out.cells
  have hq0 : ¬ (Q = 0) := by omega
  have hq0b : (Q == 0) = false := by simp; omega
  have htm := HTM.out
  have hwa : IntKind.i64.wrap (V + 1) = V + 1 := IntWalk.i64_in _ (by omega)
  have hwb : IntKind.i64.wrap V1 = V1 := IntWalk.i64_in _ (by omega)
  go_upto_region 16 with (fail)
  have HQ1 := Lib.hid (HQq.out.set1 (y' := .int .i64 V1))
  have hq : Below wq.heap.size wq wq := Below.refl _ _
  clear q0 q1 q2 qf0 qf1 qf2 htm hwa hwb hq
  obtain ⟨wr, hwr⟩ : ∃ u, wq.setCell ⟨w10.heap.size, 1, none⟩ (.int .i64 V1) = u := ⟨_, rfl⟩
  have HR_w0 : Hid (Below w0.heap.size w0 wr) := Lib.hid (by rw [← hwr]; exact (HB_11.out).setCell (by have := HSZ_w0.out; exact this) _)
  have HR_w6 : Hid (Below w6.heap.size w6 wr) := Lib.hid (by rw [← hwr]; exact (HB_w6_11.out).setCell (by have := HSZ_w6.out; exact this) _)
  rw [hwr] at HQ1 ⊢
  clear zc0 zc1 zc2 kS_0 kS_1 kS_2
  clear hwr
  have HB_wr_11 : Hid (Below wr.heap.size wr wr) := Lib.hid (Below.refl _ _)
  have kQ := Lib.hid (show ∀ u : World, Hid (Below wr.heap.size wr u) → u.cell? ⟨w10.heap.size, 0, none⟩ = some (.slice A5 2 ca5) ∧ u.cell? ⟨w10.heap.size, 1, none⟩ = some (.int .i64 V1) ∧ u.cell? ⟨w10.heap.size, 2, none⟩ = some (.slice Z5 1 cz5) from fun u hh => ⟨cell_below HQ1.out.cells.1.1 hh.out, cell_below HQ1.out.cells.1.2.1 hh.out, cell_below HQ1.out.cells.1.2.2 hh.out⟩)
  obtain ⟨zc0, zc1, zc2⟩ := kC.out _ HR_w0
  obtain ⟨kS_0, kS_1, kS_2⟩ := kS.out _ HR_w6
  obtain ⟨kQ_0, kQ_1, kQ_2⟩ := kQ.out _ HB_wr_11
  have e1 : (ya != 1) = false := by simp [hy1.out.1]
  have e2 : (yb != 1) = false := by simp [hy1.out.2]
  go_wp2_with fail
  refine (eqrel_ok P Q G a ya b yb hQ HCY _ (kV.out _ HR_w0)).mono ?_
  intro e w12 hE
  obtain ⟨g, rfl, hE, _, hb0⟩ := hE
  have HE := Lib.hid hE
  clear hE
  have HB_12 := Lib.hid (below_ext HR_w0.out hb0)
  have HB_w6_12 := Lib.hid (below_ext HR_w6.out hb0)
  have HB_wr_12 := Lib.hid (below_ext HB_wr_11.out hb0)
  clear zc0 zc1 zc2 kS_0 kS_1 kS_2 kQ_0 kQ_1 kQ_2
  clear hb0
  obtain ⟨zc0, zc1, zc2⟩ := kC.out _ HB_12
  obtain ⟨kS_0, kS_1, kS_2⟩ := kS.out _ HB_w6_12
  obtain ⟨kQ_0, kQ_1, kQ_2⟩ := kQ.out _ HB_wr_12
  have HB_w12_12 : Hid (Below w12.heap.size w12 w12) := Lib.hid (Below.refl _ _)
  have kY7 := Lib.hid (show ∀ u : World, Hid (Below w12.heap.size w12 u) → Hid (Sl u (some ⟨g + 1, 0, none⟩) [ya, yb]) from fun u h => Lib.hid (HE.out.sl.1.below h.out))
  have kB7 := Lib.hid (show ∀ u : World, Hid (Below w12.heap.size w12 u) → Hid (Rw u (some ⟨g + 1 + 1 + 1 + 1, 0, none⟩) (eqRows (some ⟨g + 1 + 1, 0, none⟩) (some ⟨g + 1 + 1 + 1, 0, none⟩) a b)) from fun u h => Lib.hid (HE.out.sl.2.below h.out))
  have hq := below_box0 w12 (relO (some ⟨g + 1, 0, none⟩) 2 2 (some ⟨g + 1 + 1 + 1 + 1, 0, none⟩) 2 2)
  have HB_13 := Lib.hid (below_ext HB_12.out hq)
  have HB_w6_13 := Lib.hid (below_ext HB_w6_12.out hq)
  have HB_wr_13 := Lib.hid (below_ext HB_wr_12.out hq)
  have HB_w12_13 := Lib.hid (below_ext HB_w12_12.out hq)
  have hc : (w12.alloc (relO (some ⟨g + 1, 0, none⟩) 2 2 (some ⟨g + 1 + 1 + 1 + 1, 0, none⟩) 2 2)).cell? ⟨w12.heap.size, 0, none⟩ = some (.slice (some ⟨g + 1, 0, none⟩) 2 2) ∧ (w12.alloc (relO (some ⟨g + 1, 0, none⟩) 2 2 (some ⟨g + 1 + 1 + 1 + 1, 0, none⟩) 2 2)).cell? ⟨w12.heap.size, 1, none⟩ = some (.slice (some ⟨g + 1 + 1 + 1 + 1, 0, none⟩) 2 2) := ⟨allocs_cell rfl (by rfl), allocs_cell rfl (by rfl)⟩
  have HC13 := Lib.hid hc
  clear zc0 zc1 zc2 kS_0 kS_1 kS_2 kQ_0 kQ_1 kQ_2
  clear hq
  obtain ⟨zc0, zc1, zc2⟩ := kC.out _ HB_13
  obtain ⟨kS_0, kS_1, kS_2⟩ := kS.out _ HB_w6_13
  obtain ⟨kQ_0, kQ_1, kQ_2⟩ := kQ.out _ HB_wr_13
  obtain ⟨zq0, zq1⟩ := hc
  go_wp2_with fail
  obtain ⟨w13, hw⟩ : ∃ x, (w12.alloc (relO (some ⟨g + 1, 0, none⟩) 2 2 (some ⟨g + 1 + 1 + 1 + 1, 0, none⟩) 2 2)) = x := ⟨_, rfl⟩
  rw [hw] at HC13 HB_13 HB_w6_13 HB_wr_13 HB_w12_13 ⊢
  have HSN13 : Hid (w13.heap.size = w12.heap.size + 1) := Lib.hid (by rw [← hw]; simp)
  clear zc0 zc1 zc2 kS_0 kS_1 kS_2 kQ_0 kQ_1 kQ_2 zq0 zq1
  clear hw
  have HB_w13_13 : Hid (Below w13.heap.size w13 w13) := Lib.hid (Below.refl _ _)
  have kR := Lib.hid (show ∀ u : World, Hid (Below w13.heap.size w13 u) → u.cell? ⟨w12.heap.size, 0, none⟩ = some (.slice (some ⟨g + 1, 0, none⟩) 2 2) ∧ u.cell? ⟨w12.heap.size, 1, none⟩ = some (.slice (some ⟨g + 1 + 1 + 1 + 1, 0, none⟩) 2 2) from fun u h => ⟨cell_below HC13.out.1 h.out, cell_below HC13.out.2 h.out⟩)
  obtain ⟨zc0, zc1, zc2⟩ := kC.out _ HB_13
  obtain ⟨kS_0, kS_1, kS_2⟩ := kS.out _ HB_w6_13
  obtain ⟨kQ_0, kQ_1, kQ_2⟩ := kQ.out _ HB_wr_13
  obtain ⟨kR_0, kR_1⟩ := kR.out _ HB_w13_13
  obtain ⟨vb, hvb⟩ : ∃ y, verL P Q G V (bys o) [ya, yb] (eqRows none none a b) AL ZL = y := ⟨_, rfl⟩
  have HVB : Kp (eqVer P Q G a ya b yb V (bys o) AL ZL = vb) := ⟨by rw [eqVer, HCY.out, hvb]; rfl⟩
  have HVL : Kp (verL P Q G V (bys o) [ya, yb] (eqRows (some ⟨g + 1 + 1, 0, none⟩) (some ⟨g + 1 + 1 + 1, 0, none⟩) a b) AL ZL = vb) := ⟨(verL_addr _ _).trans hvb⟩
  have evv : (vb == vb) = true := by simp
  clear hvb
  go_wp2_with fail
  clear zc0 zc1 zc2 kS_0 kS_1 kS_2 kQ_0 kQ_1 kQ_2 kR_0 kR_1
  have hS14 := Lib.hid (show ∀ u1 u2 : World, (Hid (Below w0.heap.size w0 u1) ∧ Hid (Below w6.heap.size w6 u1) ∧ Hid (Below wr.heap.size wr u1) ∧ Hid (Below w12.heap.size w12 u1) ∧ Hid (Below w13.heap.size w13 u1)) → Below u1.heap.size u1 u2 → (u2.cell? ⟨w.heap.size, 0, none⟩ = some (.int .i64 P) ∧ u2.cell? ⟨w.heap.size, 1, none⟩ = some (.int .i64 Q) ∧ u2.cell? ⟨w.heap.size, 2, none⟩ = some (.int .i64 G) ∧ u2.cell? ⟨w5.heap.size, 0, none⟩ = some (.slice A5 2 ca5) ∧ u2.cell? ⟨w5.heap.size, 1, none⟩ = some (.int .i64 V) ∧ u2.cell? ⟨w5.heap.size, 2, none⟩ = some (.slice Z5 1 cz5) ∧ u2.cell? ⟨w10.heap.size, 0, none⟩ = some (.slice A5 2 ca5) ∧ u2.cell? ⟨w10.heap.size, 1, none⟩ = some (.int .i64 V1) ∧ u2.cell? ⟨w10.heap.size, 2, none⟩ = some (.slice Z5 1 cz5) ∧ u2.cell? ⟨w12.heap.size, 0, none⟩ = some (.slice (some ⟨g + 1, 0, none⟩) 2 2) ∧ u2.cell? ⟨w12.heap.size, 1, none⟩ = some (.slice (some ⟨g + 1 + 1 + 1 + 1, 0, none⟩) 2 2) ∧ Hid (Below w0.heap.size w0 u2) ∧ Hid (Below w6.heap.size w6 u2) ∧ Hid (Below wr.heap.size wr u2) ∧ Hid (Below w12.heap.size w12 u2) ∧ Hid (Below w13.heap.size w13 u2)) from fun u1 u2 h1 h2 => by
    obtain ⟨q0, q1, q2, q3, q4⟩ := h1
    have r0 := Lib.hid (below_ext q0.out h2)
    have r1 := Lib.hid (below_ext q1.out h2)
    have r2 := Lib.hid (below_ext q2.out h2)
    have r3 := Lib.hid (below_ext q3.out h2)
    have r4 := Lib.hid (below_ext q4.out h2)
    obtain ⟨y0, y1, y2⟩ := kC.out _ r0
    obtain ⟨kS_0, kS_1, kS_2⟩ := kS.out _ r1
    obtain ⟨kQ_0, kQ_1, kQ_2⟩ := kQ.out _ r2
    obtain ⟨kR_0, kR_1⟩ := kR.out _ r4
    exact ⟨y0, y1, y2, kS_0, kS_1, kS_2, kQ_0, kQ_1, kQ_2, kR_0, kR_1, r0, r1, r2, r3, r4⟩)
  have HR14 := Lib.hid (show Hid (Below w0.heap.size w0 w13) ∧ Hid (Below w6.heap.size w6 w13) ∧ Hid (Below wr.heap.size wr w13) ∧ Hid (Below w12.heap.size w12 w13) ∧ Hid (Below w13.heap.size w13 w13) from ⟨HB_13, HB_w6_13, HB_wr_13, HB_w12_13, HB_w13_13⟩)
  go_region_held3 (fun w' => w'.cell? ⟨w.heap.size, 0, none⟩ = some (.int .i64 P) ∧ w'.cell? ⟨w.heap.size, 1, none⟩ = some (.int .i64 Q) ∧ w'.cell? ⟨w.heap.size, 2, none⟩ = some (.int .i64 G) ∧ w'.cell? ⟨w5.heap.size, 0, none⟩ = some (.slice A5 2 ca5) ∧ w'.cell? ⟨w5.heap.size, 1, none⟩ = some (.int .i64 V) ∧ w'.cell? ⟨w5.heap.size, 2, none⟩ = some (.slice Z5 1 cz5) ∧ w'.cell? ⟨w10.heap.size, 0, none⟩ = some (.slice A5 2 ca5) ∧ w'.cell? ⟨w10.heap.size, 1, none⟩ = some (.int .i64 V1) ∧ w'.cell? ⟨w10.heap.size, 2, none⟩ = some (.slice Z5 1 cz5) ∧ w'.cell? ⟨w12.heap.size, 0, none⟩ = some (.slice (some ⟨g + 1, 0, none⟩) 2 2) ∧ w'.cell? ⟨w12.heap.size, 1, none⟩ = some (.slice (some ⟨g + 1 + 1 + 1 + 1, 0, none⟩) 2 2) ∧ Hid (Below w0.heap.size w0 w') ∧ Hid (Below w6.heap.size w6 w') ∧ Hid (Below wr.heap.size wr w') ∧ Hid (Below w12.heap.size w12 w') ∧ Hid (Below w13.heap.size w13 w'))
    (first | exact hS14.out _ _ HR14.out ((Below.refl _ _).drew) | (exact hS14.out _ _ (by go_split_ands; exact ⟨(by assumption), (by assumption), (by assumption), (by assumption), (by assumption)⟩) hbA) | go_keep)
    ((first
      | (go_at_call 19; (with_reducible refine (eqvr_any P Q G a ya b yb A5 AL 2 ca5 V Z5 ZL 1 cz5 HAN HZN n2b n1b hQ o ho9 vb HVB _ ?_ ?_ ?_ ?_).mono ?_); (go_split_ands; exact kV.out _ (by assumption)); (go_split_ands; exact kD.out _ (by assumption)); (go_split_ands; exact kA5.out _ (by assumption)); (go_split_ands; exact kZ5.out _ (by assumption)); rintro e wA ⟨rfl, hbA⟩)
      | (go_at_call 22; (with_reducible refine (lver_any P Q G (some ⟨g + 1, 0, none⟩) [ya, yb] 2 2 (some ⟨g + 1 + 1 + 1 + 1, 0, none⟩) (eqRows (some ⟨g + 1 + 1, 0, none⟩) (some ⟨g + 1 + 1 + 1, 0, none⟩) a b) 2 2 A5 AL 2 ca5 V Z5 ZL 1 cz5 (Lib.hid rfl) (Lib.hid rfl) HAN HZN n2b n1b hQ o ho9 vb HVL _ ?_ ?_ ?_ ?_ ?_ ?_).mono ?_); (go_split_ands; exact kV.out _ (by assumption)); (go_split_ands; exact kD.out _ (by assumption)); (go_split_ands; exact kY7.out _ (by assumption)); (go_split_ands; exact kB7.out _ (by assumption)); (go_split_ands; exact kA5.out _ (by assumption)); (go_split_ands; exact kZ5.out _ (by assumption)); rintro e wA ⟨rfl, hbA⟩)))
  rename_i hHeld
  obtain ⟨x0, x1, x2, x3, x4, x5, x6, x7, x8, x9, x10, HN14_0, HN14_1, HN14_2, HN14_3, HN14_4⟩ := hHeld
  clear hS14 HR14 x0 x1 x2 x3 x4 x5 x6 x7 x8 x9 x10
  obtain ⟨zc0, zc1, zc2⟩ := kC.out _ HN14_0
  obtain ⟨kS_0, kS_1, kS_2⟩ := kS.out _ HN14_1
  obtain ⟨kQ_0, kQ_1, kQ_2⟩ := kQ.out _ HN14_2
  obtain ⟨kR_0, kR_1⟩ := kR.out _ HN14_4
  have hbF := below_ext HBw.out HN14_0.out
  go_wp2
  go_ret
  exact ⟨rfl, hbF⟩
set_option maxHeartbeats 25600000 in
theorem eb_o2 (P Q G a b x : Int) (s o : ByteArray) (h : List Int) (c : Int) (hl : Hid (h.length = 32)) (hhb : Hid (bytesB h = true)) (hQ : Q < 9223372036854775808) (hs : s.size ≤ 100) (ho : o.size ≤ 100) (HVG : Hid (validG P Q G = true)) (hma : Hid (memG P Q a = true)) (hmb : Hid (memG P Q b = true)) (hck : Hid (chkG P Q G [a, b] = 0)) (hdr : Hid (drB c = true)) (hr : Hid (labB (bys s) = true)) (x0 : 0 ≤ x) (x1 : x < Q) (ya yb : Int) (hya : Hid (pw a (x % Q) P = ya)) (hyb : Hid (pw b (x % Q) P = yb)) (HST : Hid ((stD h Q c 1).2 = false)) (c2 : Int) (hc2 : Hid ((stD h Q c 1).1 = c2)) (ks : List Int) (hks : Hid (lstD h Q c 1 = ks)) (hy1 : Hid (ya ≠ 1 ∨ yb ≠ 1)) (w : World) (hv : Hid (Vars w)) (hd : Hid (VarsD w)) :
    Calls Tryz.prog 6 #[gv P Q G, .int .i64 a, .int .i64 b, .int .i64 x, .string s, .string o, .agg (tcs h c)] w fun e' w' => e' = .returned (.bool true) ∧ Below w.heap.size w w' := by
  have dl : decide ((100 : Int) < (s.size : Int)) = false := by simp; omega
  have dlo : decide ((100 : Int) < (o.size : Int)) = false := by simp; omega
  have hs9 : s.size ≤ 1000 := by omega
  have ho9 : o.size ≤ 1000 := by omega
  have n2b : (2 : Nat) < 1000000 := by decide
  have n1b : (1 : Nat) < 1000000 := by decide
  obtain ⟨hho, hcr, hcy⟩ := eq_holds hck.out x0 x1 hya.out hyb.out
  obtain ⟨hp2, hp, hq3, hqp⟩ := validG_P HVG.out
  have HA1 := Lib.hid (chkG_ok (xs := [a]) HVG.out (by simp [hma.out]))
  have HB1 := Lib.hid (chkG_ok (xs := [b]) HVG.out (by simp [hmb.out]))
  have HHO := Lib.hid hho
  have HCY := Lib.hid hcy
  clear hho hcr hcy
  obtain ⟨AL, hAL⟩ : ∃ l, ((eqRows none none a b).map fun r => prodF P 1 r.xs ks) = l := ⟨_, rfl⟩
  have HAN : Hid (AL.length = 2) := Lib.hid (by rw [← hAL]; rfl)
  have HAL := Lib.hid hAL
  have HKN : Hid (ks.length = 1) := Lib.hid (by rw [← hks.out]; exact lstD_len _ _ _ _)
  have HKC : Hid (ks.all (scB Q) = true) := Lib.hid (by rw [← hks.out]; exact lstD_sc (by omega) _)
  have HOK : Hid (∀ i, i < (eqRows none none a b).length → ((eqRows none none a b).getD i noRow).xs.length = ((eqRows none none a b).getD i noRow).n) := Lib.hid (fun i hi => by
    match i, hi with
    | 0, _ => rfl
    | 1, _ => rfl)
  have HD2 : Hid (drB c2 = true) := Lib.hid (by
    have hd0 := hdr.out
    simp [drB] at hd0
    have := stD_lo (h := h) (q := Q) hd0.1 hd0.2 1
    rw [hc2.out] at this
    simp [drB]; exact ⟨this.1, this.2.1⟩)
  clear hAL
  obtain ⟨w0, hW⟩ : ∃ W, ((w.alloc (gObj P Q G)).alloc (.cells (tcs h c) 56)) = W := ⟨_, rfl⟩
  have HBw : Hid (Below w.heap.size w w0) := Lib.hid (by rw [← hW]; exact below_two (Below.refl _ _))
  have hc : w0.cell? ⟨w.heap.size, 0, none⟩ = some (.int .i64 P) ∧ w0.cell? ⟨w.heap.size, 1, none⟩ = some (.int .i64 Q) ∧ w0.cell? ⟨w.heap.size, 2, none⟩ = some (.int .i64 G) := by rw [← hW]; exact ⟨cell_below (allocs_cell (by simp) (by rfl)) (below_box0 _ _), cell_below (allocs_cell (by simp) (by rfl)) (below_box0 _ _), cell_below (allocs_cell (by simp) (by rfl)) (below_box0 _ _)⟩
  have kC := Lib.hid (show ∀ u : World, Hid (Below w0.heap.size w0 u) → u.cell? ⟨w.heap.size, 0, none⟩ = some (.int .i64 P) ∧ u.cell? ⟨w.heap.size, 1, none⟩ = some (.int .i64 Q) ∧ u.cell? ⟨w.heap.size, 2, none⟩ = some (.int .i64 G) from fun u h => ⟨cell_below hc.1 h.out, cell_below hc.2.1 h.out, cell_below hc.2.2 h.out⟩)
  have kV := Lib.hid (show ∀ u : World, Hid (Below w0.heap.size w0 u) → Hid (Vars u) from fun u h => Lib.hid ((hv.out.below) (below_ext HBw.out h.out)))
  have kD := Lib.hid (show ∀ u : World, Hid (Below w0.heap.size w0 u) → Hid (VarsD u) from fun u h => Lib.hid ((hd.out.below) (below_ext HBw.out h.out)))
  have HB_0 : Hid (Below w0.heap.size w0 w0) := Lib.hid (Below.refl _ _)
  have HW := Lib.hid hW
  clear hW hc hv hd
  have HT0 : Hid (DBlk w0 (w.heap.size + 1) h c) := Lib.hid (by rw [← HW.out, show w.heap.size + 1 = (w.alloc (gObj P Q G)).heap.size by simp]; exact heap_alloc_new _ _)
  have kT := Lib.hid (show ∀ u : World, Hid (Below w0.heap.size w0 u) → Hid (DBlk u (w.heap.size + 1) h c) from fun u hh => Lib.hid (HT0.out.below hh.out))
  go_enter Tryz.func6, Tryz.ntmps6
  go_upto_region 1 with (fail)
  rw [HW.out]
  obtain ⟨zc0, zc1, zc2⟩ := kC.out _ HB_0
  go_wp2_with fail
  refine (awake18 _ (kV.out _ HB_0)).mono ?_
  rintro e w1 ⟨rfl, hb0⟩
  have HB_1 := Lib.hid (below_ext HB_0.out hb0)
  clear zc0 zc1 zc2
  clear hb0
  obtain ⟨zc0, zc1, zc2⟩ := kC.out _ HB_1
  go_wp2_with fail
  refine (rvalid_any P Q G true HVG hQ _).mono ?_
  rintro e w2 ⟨rfl, hb0⟩
  have HB_2 := Lib.hid (below_ext HB_1.out hb0)
  clear zc0 zc1 zc2
  clear hb0
  obtain ⟨zc0, zc1, zc2⟩ := kC.out _ HB_2
  go_wp2_with fail
  refine (rmember_any P Q G a true hma hp (by omega) hQ _).mono ?_
  rintro e w3 ⟨rfl, hb0⟩
  have HB_3 := Lib.hid (below_ext HB_2.out hb0)
  clear zc0 zc1 zc2
  clear hb0
  obtain ⟨zc0, zc1, zc2⟩ := kC.out _ HB_3
  go_wp2_with fail
  refine (rmember_any P Q G b true hmb hp (by omega) hQ _).mono ?_
  rintro e w4 ⟨rfl, hb0⟩
  have HB_4 := Lib.hid (below_ext HB_3.out hb0)
  clear zc0 zc1 zc2
  clear hb0
  obtain ⟨zc0, zc1, zc2⟩ := kC.out _ HB_4
  have HTk := kT.out _ HB_4
  go_wp2_with ((with_reducible show wpList _ _ _ (⟨some 58, _, _, _, _, _⟩ :: _) _ _); refine wpList_load_row_g (by rfl) 56 _ rfl (w.heap.size + 1) rfl _ _ _ _ HTk.out Tryz.underlying56 rfl (dr_info hl.out) ?_)
  refine (eqp_o P Q G a b x s h c (by omega) hl hQ hck hhb hdr hr x0 x1 ya yb hya hyb HST c2 hc2 ks hks _ (kV.out _ HB_4) (kD.out _ HB_4)).mono ?_
  intro e w5 hP
  obtain ⟨A5, ca5, Z5, cz5, V, HVV, rfl, hA5, hZ5, hb0⟩ := hP
  rw [HAL.out] at hA5
  rw [show rowN (eqRows none none a b) = 1 from rfl] at hZ5 ⊢
  have HA5 := Lib.hid hA5
  have HZ5 := Lib.hid hZ5
  clear hA5 hZ5
  have HB_5 := Lib.hid (below_ext HB_4.out hb0)
  clear zc0 zc1 zc2
  clear hb0 HTk
  rw [show PrvE (.agg #[.slice A5 2 ca5, .int .i64 V, .slice Z5 1 cz5]) h c2 0 = .tuple #[.agg #[.slice A5 2 ca5, .int .i64 V, .slice Z5 1 cz5], .agg (tcs h c2), .int .i64 0] from rfl]
  have HDa6 : Hid (DBlk ((w5.alloc (.cells #[.slice A5 2 ca5, .int .i64 V, .slice Z5 1 cz5] 28)).alloc (.cells #[.int .u8 0, .int .u8 0, .int .u8 0, .int .u8 0, .int .u8 0, .int .u8 0, .int .u8 0, .int .u8 0, .int .u8 0, .int .u8 0, .int .u8 0, .int .u8 0, .int .u8 0, .int .u8 0, .int .u8 0, .int .u8 0, .int .u8 0, .int .u8 0, .int .u8 0, .int .u8 0, .int .u8 0, .int .u8 0, .int .u8 0, .int .u8 0, .int .u8 0, .int .u8 0, .int .u8 0, .int .u8 0, .int .u8 0, .int .u8 0, .int .u8 0, .int .u8 0, .int .i64 0] 56)) (w5.heap.size + 1) (zer 32) 0) := Lib.hid (by rw [ztr]; exact heap_alloc2_new _ _ _)
  have HQe6 : Hid (QBlk (((w5.alloc (.cells #[.slice A5 2 ca5, .int .i64 V, .slice Z5 1 cz5] 28)).alloc (.cells #[.int .u8 0, .int .u8 0, .int .u8 0, .int .u8 0, .int .u8 0, .int .u8 0, .int .u8 0, .int .u8 0, .int .u8 0, .int .u8 0, .int .u8 0, .int .u8 0, .int .u8 0, .int .u8 0, .int .u8 0, .int .u8 0, .int .u8 0, .int .u8 0, .int .u8 0, .int .u8 0, .int .u8 0, .int .u8 0, .int .u8 0, .int .u8 0, .int .u8 0, .int .u8 0, .int .u8 0, .int .u8 0, .int .u8 0, .int .u8 0, .int .u8 0, .int .u8 0, .int .i64 0] 56)).setRow (w5.heap.size + 1) (tcs h c2)) w5.heap.size (.slice A5 2 ca5) (.int .i64 V) (.slice Z5 1 cz5)) := Lib.hid ((setRow_other _ _ _ _ (by omega)).trans (heap_alloc2_old _ _ _))
  have HDe6 : Hid (DBlk (((w5.alloc (.cells #[.slice A5 2 ca5, .int .i64 V, .slice Z5 1 cz5] 28)).alloc (.cells #[.int .u8 0, .int .u8 0, .int .u8 0, .int .u8 0, .int .u8 0, .int .u8 0, .int .u8 0, .int .u8 0, .int .u8 0, .int .u8 0, .int .u8 0, .int .u8 0, .int .u8 0, .int .u8 0, .int .u8 0, .int .u8 0, .int .u8 0, .int .u8 0, .int .u8 0, .int .u8 0, .int .u8 0, .int .u8 0, .int .u8 0, .int .u8 0, .int .u8 0, .int .u8 0, .int .u8 0, .int .u8 0, .int .u8 0, .int .u8 0, .int .u8 0, .int .u8 0, .int .i64 0] 56)).setRow (w5.heap.size + 1) (tcs h c2)) (w5.heap.size + 1) h c2) := Lib.hid (DBlk.setRow HDa6.out)
  have hq : Below w5.heap.size w5 (((w5.alloc (.cells #[.slice A5 2 ca5, .int .i64 V, .slice Z5 1 cz5] 28)).alloc (.cells #[.int .u8 0, .int .u8 0, .int .u8 0, .int .u8 0, .int .u8 0, .int .u8 0, .int .u8 0, .int .u8 0, .int .u8 0, .int .u8 0, .int .u8 0, .int .u8 0, .int .u8 0, .int .u8 0, .int .u8 0, .int .u8 0, .int .u8 0, .int .u8 0, .int .u8 0, .int .u8 0, .int .u8 0, .int .u8 0, .int .u8 0, .int .u8 0, .int .u8 0, .int .u8 0, .int .u8 0, .int .u8 0, .int .u8 0, .int .u8 0, .int .u8 0, .int .u8 0, .int .i64 0] 56)).setRow (w5.heap.size + 1) (tcs h c2)) := below_setRow' (below_two (Below.refl _ _)) (Nat.le_succ _)
  have HQW := Lib.hid hq
  go_upto_region 6 with ((with_reducible show wpList _ _ _ (⟨none, _, _, _, _, _⟩ :: _) _ _); refine wpList_store_row rfl 56 _ _ rfl (w5.heap.size + 1) (tcs h c2) rfl rfl _ _ HDa6.out (dr_info hl.out) (tcs_sz (h := zer 32) (c := 0) rfl hl.out) (tcs_one _ _) ?_)
  clear HDa6
  have HB_6 := Lib.hid (below_ext HB_5.out hq)
  obtain ⟨w6, hw⟩ : ∃ x, (((w5.alloc (.cells #[.slice A5 2 ca5, .int .i64 V, .slice Z5 1 cz5] 28)).alloc (.cells #[.int .u8 0, .int .u8 0, .int .u8 0, .int .u8 0, .int .u8 0, .int .u8 0, .int .u8 0, .int .u8 0, .int .u8 0, .int .u8 0, .int .u8 0, .int .u8 0, .int .u8 0, .int .u8 0, .int .u8 0, .int .u8 0, .int .u8 0, .int .u8 0, .int .u8 0, .int .u8 0, .int .u8 0, .int .u8 0, .int .u8 0, .int .u8 0, .int .u8 0, .int .u8 0, .int .u8 0, .int .u8 0, .int .u8 0, .int .u8 0, .int .u8 0, .int .u8 0, .int .i64 0] 56)).setRow (w5.heap.size + 1) (tcs h c2)) = x := ⟨_, rfl⟩
  rw [hw] at HQW HQe6 HDe6 HB_6 ⊢
  clear hw hq
  have HB_w6_6 : Hid (Below w6.heap.size w6 w6) := Lib.hid (Below.refl _ _)
  have kS := Lib.hid (show ∀ u : World, Hid (Below w6.heap.size w6 u) → u.cell? ⟨w5.heap.size, 0, none⟩ = some (.slice A5 2 ca5) ∧ u.cell? ⟨w5.heap.size, 1, none⟩ = some (.int .i64 V) ∧ u.cell? ⟨w5.heap.size, 2, none⟩ = some (.slice Z5 1 cz5) from fun u hh => ⟨cell_below HQe6.out.cells.1.1 hh.out, cell_below HQe6.out.cells.1.2.1 hh.out, cell_below HQe6.out.cells.1.2.2 hh.out⟩)
  have kS2 := Lib.hid (show ∀ u : World, Hid (Below w6.heap.size w6 u) → Hid (DBlk u (w5.heap.size + 1) h c2) from fun u h => Lib.hid (HDe6.out.below h.out))
  obtain ⟨zc0, zc1, zc2⟩ := kC.out _ HB_6
  obtain ⟨kS_0, kS_1, kS_2⟩ := kS.out _ HB_w6_6
  obtain ⟨ZL, hZL⟩ : ∃ l, rspL Q V ks [x] 1 = l := ⟨_, rfl⟩
  have hV := chalV_lo (P := P) (Q := Q) (G := G) (by omega) (bys s) [ya, yb] (eqRows none none a b) ((eqRows none none a b).map fun r => prodF P 1 r.xs ks)
  rw [HVV.1] at hV
  obtain ⟨hV0, hV1⟩ := hV
  have hch := honest HHO.out hV0 hV1 (show rowN (eqRows none none a b) = 1 from rfl) HKN.out HKC.out (fun i hi => HOK.out i hi)
  rw [HAL.out, hZL] at hch
  rw [hZL] at HZ5
  have HZN : Hid (ZL.length = 1) := Lib.hid (by rw [← hZL]; exact rspL_length _ _ _ _ _)
  have HCH := Lib.hid hch
  have HVS : Kp (eqVer P Q G a ya b yb V (bys s) AL ZL = true) := ⟨by
    have hvv := HVV.1
    rw [eqVer, HCY.out, verL, HCH.out, hr.out]
    have e2 : chalV P Q G (bys s) [ya, yb] (eqRows none none a b) AL = V := by rw [← HAL.out]; exact hvv
    rw [e2]; simp⟩
  obtain ⟨V1, hV2⟩ : ∃ v, (V + 1) % Q = v := ⟨_, rfl⟩
  have HNX : Hid ((ya ≠ 1 ∨ yb ≠ 1) → eqChk P Q G a ya b yb V1 AL ZL = false) := Lib.hid (fun hne => by rw [eqChk, ← hV2, next_no HCH.out hne]; simp)
  have htm : (V + 1).tmod Q = V1 := by rw [Int.tmod_eq_emod_of_nonneg (by omega), hV2]
  have HTM := Lib.hid htm
  have hv10 : 0 ≤ V1 := by rw [← hV2]; exact Int.emod_nonneg _ (by omega)
  have hv11 : V1 < Q := by rw [← hV2]; exact Int.emod_lt_of_pos _ (by omega)
  clear hV2 hZL hch htm
  have kA5 := Lib.hid (show ∀ u : World, Hid (Below w6.heap.size w6 u) → Hid (Sl u A5 AL) from fun u h => Lib.hid (HA5.out.below (below_ext HQW h.out)))
  have kZ5 := Lib.hid (show ∀ u : World, Hid (Below w6.heap.size w6 u) → Hid (Sl u Z5 ZL) from fun u h => Lib.hid (HZ5.out.below (below_ext HQW h.out)))
  go_wp2_with fail
  refine (gpow_ok P Q G a x ya HA1 hya (by omega) (by omega) _ (kV.out _ HB_6)).mono ?_
  rintro e w7 ⟨rfl, hb0⟩
  have HB_7 := Lib.hid (below_ext HB_6.out hb0)
  have HB_w6_7 := Lib.hid (below_ext HB_w6_6.out hb0)
  clear zc0 zc1 zc2 kS_0 kS_1 kS_2
  clear hb0
  obtain ⟨zc0, zc1, zc2⟩ := kC.out _ HB_7
  obtain ⟨kS_0, kS_1, kS_2⟩ := kS.out _ HB_w6_7
  go_wp2_with fail
  refine (gpow_ok P Q G b x yb HB1 hyb (by omega) (by omega) _ (kV.out _ HB_7)).mono ?_
  rintro e w8 ⟨rfl, hb0⟩
  have HB_8 := Lib.hid (below_ext HB_7.out hb0)
  have HB_w6_8 := Lib.hid (below_ext HB_w6_7.out hb0)
  clear zc0 zc1 zc2 kS_0 kS_1 kS_2
  clear hb0
  obtain ⟨zc0, zc1, zc2⟩ := kC.out _ HB_8
  obtain ⟨kS_0, kS_1, kS_2⟩ := kS.out _ HB_w6_8
  have HNk := kS2.out _ HB_w6_8
  go_wp2_with ((with_reducible show wpList _ _ _ (⟨some 89, _, _, _, _, _⟩ :: _) _ _); refine wpList_load_row_g (by rfl) 56 _ rfl (w5.heap.size + 1) rfl _ _ _ _ HNk.out Tryz.underlying56 rfl (dr_info hl.out) ?_)
  refine (dvalid_any h hl c2 true HD2 _).mono ?_
  rintro e w9 ⟨rfl, hb0⟩
  have HB_9 := Lib.hid (below_ext HB_8.out hb0)
  have HB_w6_9 := Lib.hid (below_ext HB_w6_8.out hb0)
  clear zc0 zc1 zc2 kS_0 kS_1 kS_2
  clear hb0
  obtain ⟨zc0, zc1, zc2⟩ := kC.out _ HB_9
  obtain ⟨kS_0, kS_1, kS_2⟩ := kS.out _ HB_w6_9
  clear HNk
  go_wp2_with fail
  refine (eqvr_any P Q G a ya b yb A5 AL 2 ca5 V Z5 ZL 1 cz5 HAN HZN n2b n1b hQ s hs9 true HVS _ (kV.out _ HB_9) (kD.out _ HB_9) (kA5.out _ HB_w6_9) (kZ5.out _ HB_w6_9)).mono ?_
  rintro e w10 ⟨rfl, hb0⟩
  have HB_10 := Lib.hid (below_ext HB_9.out hb0)
  have HB_w6_10 := Lib.hid (below_ext HB_w6_9.out hb0)
  clear zc0 zc1 zc2 kS_0 kS_1 kS_2
  clear hb0
  obtain ⟨zc0, zc1, zc2⟩ := kC.out _ HB_10
  obtain ⟨kS_0, kS_1, kS_2⟩ := kS.out _ HB_w6_10
  have dq3 : decide (Q < 3) = false := by simp; omega
  go_upto_region 15 with (fail)
  have HQq : Hid (QBlk (w10.alloc (.cells #[.slice A5 2 ca5, .int .i64 V, .slice Z5 1 cz5] 28)) w10.heap.size (.slice A5 2 ca5) (.int .i64 V) (.slice Z5 1 cz5)) := Lib.hid (heap_alloc_new _ _)
  clear zc0 zc1 zc2 kS_0 kS_1 kS_2
  have HSZ_w0 : Hid (w0.heap.size ≤ w10.heap.size) := Lib.hid (HB_10.out.size)
  have HSZ_w6 : Hid (w6.heap.size ≤ w10.heap.size) := Lib.hid (HB_w6_10.out.size)
  have hq := below_box0 w10 (.cells #[.slice A5 2 ca5, .int .i64 V, .slice Z5 1 cz5] 28)
  have HB_11 := Lib.hid (below_ext HB_10.out hq)
  have HB_w6_11 := Lib.hid (below_ext HB_w6_10.out hq)
  clear hq
  obtain ⟨wq, hwq⟩ : ∃ u, w10.alloc (.cells #[.slice A5 2 ca5, .int .i64 V, .slice Z5 1 cz5] 28) = u := ⟨_, rfl⟩
  rw [hwq] at HQq HB_11 HB_w6_11 ⊢
  have HBq : Hid (w10.heap.size < wq.heap.size) := Lib.hid HQq.out.lt
  clear hwq
  obtain ⟨zc0, zc1, zc2⟩ := kC.out _ HB_11
  obtain ⟨kS_0, kS_1, kS_2⟩ := kS.out _ HB_w6_11
  obtain ⟨⟨q0, q1, q2⟩, qf0, qf1, qf2⟩ := HQq.out.cells
  have hq0 : ¬ (Q = 0) := by omega
  have hq0b : (Q == 0) = false := by simp; omega
  have htm := HTM.out
  have hwa : IntKind.i64.wrap (V + 1) = V + 1 := IntWalk.i64_in _ (by omega)
  have hwb : IntKind.i64.wrap V1 = V1 := IntWalk.i64_in _ (by omega)
  go_upto_region 16 with (fail)
  have HQ1 := Lib.hid (HQq.out.set1 (y' := .int .i64 V1))
  have hq : Below wq.heap.size wq wq := Below.refl _ _
  clear q0 q1 q2 qf0 qf1 qf2 htm hwa hwb hq
  obtain ⟨wr, hwr⟩ : ∃ u, wq.setCell ⟨w10.heap.size, 1, none⟩ (.int .i64 V1) = u := ⟨_, rfl⟩
  have HR_w0 : Hid (Below w0.heap.size w0 wr) := Lib.hid (by rw [← hwr]; exact (HB_11.out).setCell (by have := HSZ_w0.out; exact this) _)
  have HR_w6 : Hid (Below w6.heap.size w6 wr) := Lib.hid (by rw [← hwr]; exact (HB_w6_11.out).setCell (by have := HSZ_w6.out; exact this) _)
  rw [hwr] at HQ1 ⊢
  clear zc0 zc1 zc2 kS_0 kS_1 kS_2
  clear hwr
  have HB_wr_11 : Hid (Below wr.heap.size wr wr) := Lib.hid (Below.refl _ _)
  have kQ := Lib.hid (show ∀ u : World, Hid (Below wr.heap.size wr u) → u.cell? ⟨w10.heap.size, 0, none⟩ = some (.slice A5 2 ca5) ∧ u.cell? ⟨w10.heap.size, 1, none⟩ = some (.int .i64 V1) ∧ u.cell? ⟨w10.heap.size, 2, none⟩ = some (.slice Z5 1 cz5) from fun u hh => ⟨cell_below HQ1.out.cells.1.1 hh.out, cell_below HQ1.out.cells.1.2.1 hh.out, cell_below HQ1.out.cells.1.2.2 hh.out⟩)
  obtain ⟨zc0, zc1, zc2⟩ := kC.out _ HR_w0
  obtain ⟨kS_0, kS_1, kS_2⟩ := kS.out _ HR_w6
  obtain ⟨kQ_0, kQ_1, kQ_2⟩ := kQ.out _ HB_wr_11
  by_cases hc1 : ya ≠ 1
  · skip
    have e1 : (ya != 1) = true := by simp [hc1]
    go_wp2_with fail
    refine (eqck_any P Q G a ya b yb A5 AL 2 ca5 V1 Z5 ZL 1 cz5 HAN HZN n2b n1b hQ false (Lib.hid (HNX.out hy1.out)) _ (kV.out _ HR_w0) (kA5.out _ HR_w6) (kZ5.out _ HR_w6)).mono ?_
    rintro e w12 ⟨rfl, hb0⟩
    have HB_12 := Lib.hid (below_ext HR_w0.out hb0)
    have HB_w6_12 := Lib.hid (below_ext HR_w6.out hb0)
    have HB_wr_12 := Lib.hid (below_ext HB_wr_11.out hb0)
    clear zc0 zc1 zc2 kS_0 kS_1 kS_2 kQ_0 kQ_1 kQ_2
    clear hb0
    obtain ⟨zc0, zc1, zc2⟩ := kC.out _ HB_12
    obtain ⟨kS_0, kS_1, kS_2⟩ := kS.out _ HB_w6_12
    obtain ⟨kQ_0, kQ_1, kQ_2⟩ := kQ.out _ HB_wr_12
    go_wp2_with fail
    refine (eqrel_ok P Q G a ya b yb hQ HCY _ (kV.out _ HB_12)).mono ?_
    intro e w13 hE
    obtain ⟨g, rfl, hE, _, hb0⟩ := hE
    have HE := Lib.hid hE
    clear hE
    have HB_13 := Lib.hid (below_ext HB_12.out hb0)
    have HB_w6_13 := Lib.hid (below_ext HB_w6_12.out hb0)
    have HB_wr_13 := Lib.hid (below_ext HB_wr_12.out hb0)
    clear zc0 zc1 zc2 kS_0 kS_1 kS_2 kQ_0 kQ_1 kQ_2
    clear hb0
    obtain ⟨zc0, zc1, zc2⟩ := kC.out _ HB_13
    obtain ⟨kS_0, kS_1, kS_2⟩ := kS.out _ HB_w6_13
    obtain ⟨kQ_0, kQ_1, kQ_2⟩ := kQ.out _ HB_wr_13
    have HB_w13_13 : Hid (Below w13.heap.size w13 w13) := Lib.hid (Below.refl _ _)
    have kY7 := Lib.hid (show ∀ u : World, Hid (Below w13.heap.size w13 u) → Hid (Sl u (some ⟨g + 1, 0, none⟩) [ya, yb]) from fun u h => Lib.hid (HE.out.sl.1.below h.out))
    have kB7 := Lib.hid (show ∀ u : World, Hid (Below w13.heap.size w13 u) → Hid (Rw u (some ⟨g + 1 + 1 + 1 + 1, 0, none⟩) (eqRows (some ⟨g + 1 + 1, 0, none⟩) (some ⟨g + 1 + 1 + 1, 0, none⟩) a b)) from fun u h => Lib.hid (HE.out.sl.2.below h.out))
    have hq := below_box0 w13 (relO (some ⟨g + 1, 0, none⟩) 2 2 (some ⟨g + 1 + 1 + 1 + 1, 0, none⟩) 2 2)
    have HB_14 := Lib.hid (below_ext HB_13.out hq)
    have HB_w6_14 := Lib.hid (below_ext HB_w6_13.out hq)
    have HB_wr_14 := Lib.hid (below_ext HB_wr_13.out hq)
    have HB_w13_14 := Lib.hid (below_ext HB_w13_13.out hq)
    have hc : (w13.alloc (relO (some ⟨g + 1, 0, none⟩) 2 2 (some ⟨g + 1 + 1 + 1 + 1, 0, none⟩) 2 2)).cell? ⟨w13.heap.size, 0, none⟩ = some (.slice (some ⟨g + 1, 0, none⟩) 2 2) ∧ (w13.alloc (relO (some ⟨g + 1, 0, none⟩) 2 2 (some ⟨g + 1 + 1 + 1 + 1, 0, none⟩) 2 2)).cell? ⟨w13.heap.size, 1, none⟩ = some (.slice (some ⟨g + 1 + 1 + 1 + 1, 0, none⟩) 2 2) := ⟨allocs_cell rfl (by rfl), allocs_cell rfl (by rfl)⟩
    have HC14 := Lib.hid hc
    clear zc0 zc1 zc2 kS_0 kS_1 kS_2 kQ_0 kQ_1 kQ_2
    clear hq
    obtain ⟨zc0, zc1, zc2⟩ := kC.out _ HB_14
    obtain ⟨kS_0, kS_1, kS_2⟩ := kS.out _ HB_w6_14
    obtain ⟨kQ_0, kQ_1, kQ_2⟩ := kQ.out _ HB_wr_14
    obtain ⟨zq0, zq1⟩ := hc
    go_wp2_with fail
    obtain ⟨w14, hw⟩ : ∃ x, (w13.alloc (relO (some ⟨g + 1, 0, none⟩) 2 2 (some ⟨g + 1 + 1 + 1 + 1, 0, none⟩) 2 2)) = x := ⟨_, rfl⟩
    rw [hw] at HC14 HB_14 HB_w6_14 HB_wr_14 HB_w13_14 ⊢
    have HSN14 : Hid (w14.heap.size = w13.heap.size + 1) := Lib.hid (by rw [← hw]; simp)
    clear zc0 zc1 zc2 kS_0 kS_1 kS_2 kQ_0 kQ_1 kQ_2 zq0 zq1
    clear hw
    have HB_w14_14 : Hid (Below w14.heap.size w14 w14) := Lib.hid (Below.refl _ _)
    have kR := Lib.hid (show ∀ u : World, Hid (Below w14.heap.size w14 u) → u.cell? ⟨w13.heap.size, 0, none⟩ = some (.slice (some ⟨g + 1, 0, none⟩) 2 2) ∧ u.cell? ⟨w13.heap.size, 1, none⟩ = some (.slice (some ⟨g + 1 + 1 + 1 + 1, 0, none⟩) 2 2) from fun u h => ⟨cell_below HC14.out.1 h.out, cell_below HC14.out.2 h.out⟩)
    obtain ⟨zc0, zc1, zc2⟩ := kC.out _ HB_14
    obtain ⟨kS_0, kS_1, kS_2⟩ := kS.out _ HB_w6_14
    obtain ⟨kQ_0, kQ_1, kQ_2⟩ := kQ.out _ HB_wr_14
    obtain ⟨kR_0, kR_1⟩ := kR.out _ HB_w14_14
    obtain ⟨vb, hvb⟩ : ∃ y, verL P Q G V (bys o) [ya, yb] (eqRows none none a b) AL ZL = y := ⟨_, rfl⟩
    have HVB : Kp (eqVer P Q G a ya b yb V (bys o) AL ZL = vb) := ⟨by rw [eqVer, HCY.out, hvb]; rfl⟩
    have HVL : Kp (verL P Q G V (bys o) [ya, yb] (eqRows (some ⟨g + 1 + 1, 0, none⟩) (some ⟨g + 1 + 1 + 1, 0, none⟩) a b) AL ZL = vb) := ⟨(verL_addr _ _).trans hvb⟩
    have evv : (vb == vb) = true := by simp
    clear hvb
    go_wp2_with fail
    clear zc0 zc1 zc2 kS_0 kS_1 kS_2 kQ_0 kQ_1 kQ_2 kR_0 kR_1
    have hS15 := Lib.hid (show ∀ u1 u2 : World, (Hid (Below w0.heap.size w0 u1) ∧ Hid (Below w6.heap.size w6 u1) ∧ Hid (Below wr.heap.size wr u1) ∧ Hid (Below w13.heap.size w13 u1) ∧ Hid (Below w14.heap.size w14 u1)) → Below u1.heap.size u1 u2 → (u2.cell? ⟨w.heap.size, 0, none⟩ = some (.int .i64 P) ∧ u2.cell? ⟨w.heap.size, 1, none⟩ = some (.int .i64 Q) ∧ u2.cell? ⟨w.heap.size, 2, none⟩ = some (.int .i64 G) ∧ u2.cell? ⟨w5.heap.size, 0, none⟩ = some (.slice A5 2 ca5) ∧ u2.cell? ⟨w5.heap.size, 1, none⟩ = some (.int .i64 V) ∧ u2.cell? ⟨w5.heap.size, 2, none⟩ = some (.slice Z5 1 cz5) ∧ u2.cell? ⟨w10.heap.size, 0, none⟩ = some (.slice A5 2 ca5) ∧ u2.cell? ⟨w10.heap.size, 1, none⟩ = some (.int .i64 V1) ∧ u2.cell? ⟨w10.heap.size, 2, none⟩ = some (.slice Z5 1 cz5) ∧ u2.cell? ⟨w13.heap.size, 0, none⟩ = some (.slice (some ⟨g + 1, 0, none⟩) 2 2) ∧ u2.cell? ⟨w13.heap.size, 1, none⟩ = some (.slice (some ⟨g + 1 + 1 + 1 + 1, 0, none⟩) 2 2) ∧ Hid (Below w0.heap.size w0 u2) ∧ Hid (Below w6.heap.size w6 u2) ∧ Hid (Below wr.heap.size wr u2) ∧ Hid (Below w13.heap.size w13 u2) ∧ Hid (Below w14.heap.size w14 u2)) from fun u1 u2 h1 h2 => by
      obtain ⟨q0, q1, q2, q3, q4⟩ := h1
      have r0 := Lib.hid (below_ext q0.out h2)
      have r1 := Lib.hid (below_ext q1.out h2)
      have r2 := Lib.hid (below_ext q2.out h2)
      have r3 := Lib.hid (below_ext q3.out h2)
      have r4 := Lib.hid (below_ext q4.out h2)
      obtain ⟨y0, y1, y2⟩ := kC.out _ r0
      obtain ⟨kS_0, kS_1, kS_2⟩ := kS.out _ r1
      obtain ⟨kQ_0, kQ_1, kQ_2⟩ := kQ.out _ r2
      obtain ⟨kR_0, kR_1⟩ := kR.out _ r4
      exact ⟨y0, y1, y2, kS_0, kS_1, kS_2, kQ_0, kQ_1, kQ_2, kR_0, kR_1, r0, r1, r2, r3, r4⟩)
    have HR15 := Lib.hid (show Hid (Below w0.heap.size w0 w14) ∧ Hid (Below w6.heap.size w6 w14) ∧ Hid (Below wr.heap.size wr w14) ∧ Hid (Below w13.heap.size w13 w14) ∧ Hid (Below w14.heap.size w14 w14) from ⟨HB_14, HB_w6_14, HB_wr_14, HB_w13_14, HB_w14_14⟩)
    go_region_held3 (fun w' => w'.cell? ⟨w.heap.size, 0, none⟩ = some (.int .i64 P) ∧ w'.cell? ⟨w.heap.size, 1, none⟩ = some (.int .i64 Q) ∧ w'.cell? ⟨w.heap.size, 2, none⟩ = some (.int .i64 G) ∧ w'.cell? ⟨w5.heap.size, 0, none⟩ = some (.slice A5 2 ca5) ∧ w'.cell? ⟨w5.heap.size, 1, none⟩ = some (.int .i64 V) ∧ w'.cell? ⟨w5.heap.size, 2, none⟩ = some (.slice Z5 1 cz5) ∧ w'.cell? ⟨w10.heap.size, 0, none⟩ = some (.slice A5 2 ca5) ∧ w'.cell? ⟨w10.heap.size, 1, none⟩ = some (.int .i64 V1) ∧ w'.cell? ⟨w10.heap.size, 2, none⟩ = some (.slice Z5 1 cz5) ∧ w'.cell? ⟨w13.heap.size, 0, none⟩ = some (.slice (some ⟨g + 1, 0, none⟩) 2 2) ∧ w'.cell? ⟨w13.heap.size, 1, none⟩ = some (.slice (some ⟨g + 1 + 1 + 1 + 1, 0, none⟩) 2 2) ∧ Hid (Below w0.heap.size w0 w') ∧ Hid (Below w6.heap.size w6 w') ∧ Hid (Below wr.heap.size wr w') ∧ Hid (Below w13.heap.size w13 w') ∧ Hid (Below w14.heap.size w14 w'))
      (first | exact hS15.out _ _ HR15.out ((Below.refl _ _).drew) | (exact hS15.out _ _ (by go_split_ands; exact ⟨(by assumption), (by assumption), (by assumption), (by assumption), (by assumption)⟩) hbA) | go_keep)
      ((first
        | (go_at_call 19; (with_reducible refine (eqvr_any P Q G a ya b yb A5 AL 2 ca5 V Z5 ZL 1 cz5 HAN HZN n2b n1b hQ o ho9 vb HVB _ ?_ ?_ ?_ ?_).mono ?_); (go_split_ands; exact kV.out _ (by assumption)); (go_split_ands; exact kD.out _ (by assumption)); (go_split_ands; exact kA5.out _ (by assumption)); (go_split_ands; exact kZ5.out _ (by assumption)); rintro e wA ⟨rfl, hbA⟩)
        | (go_at_call 22; (with_reducible refine (lver_any P Q G (some ⟨g + 1, 0, none⟩) [ya, yb] 2 2 (some ⟨g + 1 + 1 + 1 + 1, 0, none⟩) (eqRows (some ⟨g + 1 + 1, 0, none⟩) (some ⟨g + 1 + 1 + 1, 0, none⟩) a b) 2 2 A5 AL 2 ca5 V Z5 ZL 1 cz5 (Lib.hid rfl) (Lib.hid rfl) HAN HZN n2b n1b hQ o ho9 vb HVL _ ?_ ?_ ?_ ?_ ?_ ?_).mono ?_); (go_split_ands; exact kV.out _ (by assumption)); (go_split_ands; exact kD.out _ (by assumption)); (go_split_ands; exact kY7.out _ (by assumption)); (go_split_ands; exact kB7.out _ (by assumption)); (go_split_ands; exact kA5.out _ (by assumption)); (go_split_ands; exact kZ5.out _ (by assumption)); rintro e wA ⟨rfl, hbA⟩)))
    rename_i hHeld
    obtain ⟨x0, x1, x2, x3, x4, x5, x6, x7, x8, x9, x10, HN15_0, HN15_1, HN15_2, HN15_3, HN15_4⟩ := hHeld
    clear hS15 HR15 x0 x1 x2 x3 x4 x5 x6 x7 x8 x9 x10
    obtain ⟨zc0, zc1, zc2⟩ := kC.out _ HN15_0
    obtain ⟨kS_0, kS_1, kS_2⟩ := kS.out _ HN15_1
    obtain ⟨kQ_0, kQ_1, kQ_2⟩ := kQ.out _ HN15_2
    obtain ⟨kR_0, kR_1⟩ := kR.out _ HN15_4
    have hbF := below_ext HBw.out HN15_0.out
    go_wp2
    go_ret
    exact ⟨rfl, hbF⟩
  · skip
    have e1 : (ya != 1) = false := by simp at hc1; simp [hc1]
    have e2 : (yb != 1) = true := by simp at hc1; simp; exact hy1.out.resolve_left (by simp [hc1])
    go_wp2_with fail
    refine (eqck_any P Q G a ya b yb A5 AL 2 ca5 V1 Z5 ZL 1 cz5 HAN HZN n2b n1b hQ false (Lib.hid (HNX.out hy1.out)) _ (kV.out _ HR_w0) (kA5.out _ HR_w6) (kZ5.out _ HR_w6)).mono ?_
    rintro e w12 ⟨rfl, hb0⟩
    have HB_12 := Lib.hid (below_ext HR_w0.out hb0)
    have HB_w6_12 := Lib.hid (below_ext HR_w6.out hb0)
    have HB_wr_12 := Lib.hid (below_ext HB_wr_11.out hb0)
    clear zc0 zc1 zc2 kS_0 kS_1 kS_2 kQ_0 kQ_1 kQ_2
    clear hb0
    obtain ⟨zc0, zc1, zc2⟩ := kC.out _ HB_12
    obtain ⟨kS_0, kS_1, kS_2⟩ := kS.out _ HB_w6_12
    obtain ⟨kQ_0, kQ_1, kQ_2⟩ := kQ.out _ HB_wr_12
    go_wp2_with fail
    refine (eqrel_ok P Q G a ya b yb hQ HCY _ (kV.out _ HB_12)).mono ?_
    intro e w13 hE
    obtain ⟨g, rfl, hE, _, hb0⟩ := hE
    have HE := Lib.hid hE
    clear hE
    have HB_13 := Lib.hid (below_ext HB_12.out hb0)
    have HB_w6_13 := Lib.hid (below_ext HB_w6_12.out hb0)
    have HB_wr_13 := Lib.hid (below_ext HB_wr_12.out hb0)
    clear zc0 zc1 zc2 kS_0 kS_1 kS_2 kQ_0 kQ_1 kQ_2
    clear hb0
    obtain ⟨zc0, zc1, zc2⟩ := kC.out _ HB_13
    obtain ⟨kS_0, kS_1, kS_2⟩ := kS.out _ HB_w6_13
    obtain ⟨kQ_0, kQ_1, kQ_2⟩ := kQ.out _ HB_wr_13
    have HB_w13_13 : Hid (Below w13.heap.size w13 w13) := Lib.hid (Below.refl _ _)
    have kY7 := Lib.hid (show ∀ u : World, Hid (Below w13.heap.size w13 u) → Hid (Sl u (some ⟨g + 1, 0, none⟩) [ya, yb]) from fun u h => Lib.hid (HE.out.sl.1.below h.out))
    have kB7 := Lib.hid (show ∀ u : World, Hid (Below w13.heap.size w13 u) → Hid (Rw u (some ⟨g + 1 + 1 + 1 + 1, 0, none⟩) (eqRows (some ⟨g + 1 + 1, 0, none⟩) (some ⟨g + 1 + 1 + 1, 0, none⟩) a b)) from fun u h => Lib.hid (HE.out.sl.2.below h.out))
    have hq := below_box0 w13 (relO (some ⟨g + 1, 0, none⟩) 2 2 (some ⟨g + 1 + 1 + 1 + 1, 0, none⟩) 2 2)
    have HB_14 := Lib.hid (below_ext HB_13.out hq)
    have HB_w6_14 := Lib.hid (below_ext HB_w6_13.out hq)
    have HB_wr_14 := Lib.hid (below_ext HB_wr_13.out hq)
    have HB_w13_14 := Lib.hid (below_ext HB_w13_13.out hq)
    have hc : (w13.alloc (relO (some ⟨g + 1, 0, none⟩) 2 2 (some ⟨g + 1 + 1 + 1 + 1, 0, none⟩) 2 2)).cell? ⟨w13.heap.size, 0, none⟩ = some (.slice (some ⟨g + 1, 0, none⟩) 2 2) ∧ (w13.alloc (relO (some ⟨g + 1, 0, none⟩) 2 2 (some ⟨g + 1 + 1 + 1 + 1, 0, none⟩) 2 2)).cell? ⟨w13.heap.size, 1, none⟩ = some (.slice (some ⟨g + 1 + 1 + 1 + 1, 0, none⟩) 2 2) := ⟨allocs_cell rfl (by rfl), allocs_cell rfl (by rfl)⟩
    have HC14 := Lib.hid hc
    clear zc0 zc1 zc2 kS_0 kS_1 kS_2 kQ_0 kQ_1 kQ_2
    clear hq
    obtain ⟨zc0, zc1, zc2⟩ := kC.out _ HB_14
    obtain ⟨kS_0, kS_1, kS_2⟩ := kS.out _ HB_w6_14
    obtain ⟨kQ_0, kQ_1, kQ_2⟩ := kQ.out _ HB_wr_14
    obtain ⟨zq0, zq1⟩ := hc
    go_wp2_with fail
    obtain ⟨w14, hw⟩ : ∃ x, (w13.alloc (relO (some ⟨g + 1, 0, none⟩) 2 2 (some ⟨g + 1 + 1 + 1 + 1, 0, none⟩) 2 2)) = x := ⟨_, rfl⟩
    rw [hw] at HC14 HB_14 HB_w6_14 HB_wr_14 HB_w13_14 ⊢
    have HSN14 : Hid (w14.heap.size = w13.heap.size + 1) := Lib.hid (by rw [← hw]; simp)
    clear zc0 zc1 zc2 kS_0 kS_1 kS_2 kQ_0 kQ_1 kQ_2 zq0 zq1
    clear hw
    have HB_w14_14 : Hid (Below w14.heap.size w14 w14) := Lib.hid (Below.refl _ _)
    have kR := Lib.hid (show ∀ u : World, Hid (Below w14.heap.size w14 u) → u.cell? ⟨w13.heap.size, 0, none⟩ = some (.slice (some ⟨g + 1, 0, none⟩) 2 2) ∧ u.cell? ⟨w13.heap.size, 1, none⟩ = some (.slice (some ⟨g + 1 + 1 + 1 + 1, 0, none⟩) 2 2) from fun u h => ⟨cell_below HC14.out.1 h.out, cell_below HC14.out.2 h.out⟩)
    obtain ⟨zc0, zc1, zc2⟩ := kC.out _ HB_14
    obtain ⟨kS_0, kS_1, kS_2⟩ := kS.out _ HB_w6_14
    obtain ⟨kQ_0, kQ_1, kQ_2⟩ := kQ.out _ HB_wr_14
    obtain ⟨kR_0, kR_1⟩ := kR.out _ HB_w14_14
    obtain ⟨vb, hvb⟩ : ∃ y, verL P Q G V (bys o) [ya, yb] (eqRows none none a b) AL ZL = y := ⟨_, rfl⟩
    have HVB : Kp (eqVer P Q G a ya b yb V (bys o) AL ZL = vb) := ⟨by rw [eqVer, HCY.out, hvb]; rfl⟩
    have HVL : Kp (verL P Q G V (bys o) [ya, yb] (eqRows (some ⟨g + 1 + 1, 0, none⟩) (some ⟨g + 1 + 1 + 1, 0, none⟩) a b) AL ZL = vb) := ⟨(verL_addr _ _).trans hvb⟩
    have evv : (vb == vb) = true := by simp
    clear hvb
    go_wp2_with fail
    clear zc0 zc1 zc2 kS_0 kS_1 kS_2 kQ_0 kQ_1 kQ_2 kR_0 kR_1
    have hS15 := Lib.hid (show ∀ u1 u2 : World, (Hid (Below w0.heap.size w0 u1) ∧ Hid (Below w6.heap.size w6 u1) ∧ Hid (Below wr.heap.size wr u1) ∧ Hid (Below w13.heap.size w13 u1) ∧ Hid (Below w14.heap.size w14 u1)) → Below u1.heap.size u1 u2 → (u2.cell? ⟨w.heap.size, 0, none⟩ = some (.int .i64 P) ∧ u2.cell? ⟨w.heap.size, 1, none⟩ = some (.int .i64 Q) ∧ u2.cell? ⟨w.heap.size, 2, none⟩ = some (.int .i64 G) ∧ u2.cell? ⟨w5.heap.size, 0, none⟩ = some (.slice A5 2 ca5) ∧ u2.cell? ⟨w5.heap.size, 1, none⟩ = some (.int .i64 V) ∧ u2.cell? ⟨w5.heap.size, 2, none⟩ = some (.slice Z5 1 cz5) ∧ u2.cell? ⟨w10.heap.size, 0, none⟩ = some (.slice A5 2 ca5) ∧ u2.cell? ⟨w10.heap.size, 1, none⟩ = some (.int .i64 V1) ∧ u2.cell? ⟨w10.heap.size, 2, none⟩ = some (.slice Z5 1 cz5) ∧ u2.cell? ⟨w13.heap.size, 0, none⟩ = some (.slice (some ⟨g + 1, 0, none⟩) 2 2) ∧ u2.cell? ⟨w13.heap.size, 1, none⟩ = some (.slice (some ⟨g + 1 + 1 + 1 + 1, 0, none⟩) 2 2) ∧ Hid (Below w0.heap.size w0 u2) ∧ Hid (Below w6.heap.size w6 u2) ∧ Hid (Below wr.heap.size wr u2) ∧ Hid (Below w13.heap.size w13 u2) ∧ Hid (Below w14.heap.size w14 u2)) from fun u1 u2 h1 h2 => by
      obtain ⟨q0, q1, q2, q3, q4⟩ := h1
      have r0 := Lib.hid (below_ext q0.out h2)
      have r1 := Lib.hid (below_ext q1.out h2)
      have r2 := Lib.hid (below_ext q2.out h2)
      have r3 := Lib.hid (below_ext q3.out h2)
      have r4 := Lib.hid (below_ext q4.out h2)
      obtain ⟨y0, y1, y2⟩ := kC.out _ r0
      obtain ⟨kS_0, kS_1, kS_2⟩ := kS.out _ r1
      obtain ⟨kQ_0, kQ_1, kQ_2⟩ := kQ.out _ r2
      obtain ⟨kR_0, kR_1⟩ := kR.out _ r4
      exact ⟨y0, y1, y2, kS_0, kS_1, kS_2, kQ_0, kQ_1, kQ_2, kR_0, kR_1, r0, r1, r2, r3, r4⟩)
    have HR15 := Lib.hid (show Hid (Below w0.heap.size w0 w14) ∧ Hid (Below w6.heap.size w6 w14) ∧ Hid (Below wr.heap.size wr w14) ∧ Hid (Below w13.heap.size w13 w14) ∧ Hid (Below w14.heap.size w14 w14) from ⟨HB_14, HB_w6_14, HB_wr_14, HB_w13_14, HB_w14_14⟩)
    go_region_held3 (fun w' => w'.cell? ⟨w.heap.size, 0, none⟩ = some (.int .i64 P) ∧ w'.cell? ⟨w.heap.size, 1, none⟩ = some (.int .i64 Q) ∧ w'.cell? ⟨w.heap.size, 2, none⟩ = some (.int .i64 G) ∧ w'.cell? ⟨w5.heap.size, 0, none⟩ = some (.slice A5 2 ca5) ∧ w'.cell? ⟨w5.heap.size, 1, none⟩ = some (.int .i64 V) ∧ w'.cell? ⟨w5.heap.size, 2, none⟩ = some (.slice Z5 1 cz5) ∧ w'.cell? ⟨w10.heap.size, 0, none⟩ = some (.slice A5 2 ca5) ∧ w'.cell? ⟨w10.heap.size, 1, none⟩ = some (.int .i64 V1) ∧ w'.cell? ⟨w10.heap.size, 2, none⟩ = some (.slice Z5 1 cz5) ∧ w'.cell? ⟨w13.heap.size, 0, none⟩ = some (.slice (some ⟨g + 1, 0, none⟩) 2 2) ∧ w'.cell? ⟨w13.heap.size, 1, none⟩ = some (.slice (some ⟨g + 1 + 1 + 1 + 1, 0, none⟩) 2 2) ∧ Hid (Below w0.heap.size w0 w') ∧ Hid (Below w6.heap.size w6 w') ∧ Hid (Below wr.heap.size wr w') ∧ Hid (Below w13.heap.size w13 w') ∧ Hid (Below w14.heap.size w14 w'))
      (first | exact hS15.out _ _ HR15.out ((Below.refl _ _).drew) | (exact hS15.out _ _ (by go_split_ands; exact ⟨(by assumption), (by assumption), (by assumption), (by assumption), (by assumption)⟩) hbA) | go_keep)
      ((first
        | (go_at_call 19; (with_reducible refine (eqvr_any P Q G a ya b yb A5 AL 2 ca5 V Z5 ZL 1 cz5 HAN HZN n2b n1b hQ o ho9 vb HVB _ ?_ ?_ ?_ ?_).mono ?_); (go_split_ands; exact kV.out _ (by assumption)); (go_split_ands; exact kD.out _ (by assumption)); (go_split_ands; exact kA5.out _ (by assumption)); (go_split_ands; exact kZ5.out _ (by assumption)); rintro e wA ⟨rfl, hbA⟩)
        | (go_at_call 22; (with_reducible refine (lver_any P Q G (some ⟨g + 1, 0, none⟩) [ya, yb] 2 2 (some ⟨g + 1 + 1 + 1 + 1, 0, none⟩) (eqRows (some ⟨g + 1 + 1, 0, none⟩) (some ⟨g + 1 + 1 + 1, 0, none⟩) a b) 2 2 A5 AL 2 ca5 V Z5 ZL 1 cz5 (Lib.hid rfl) (Lib.hid rfl) HAN HZN n2b n1b hQ o ho9 vb HVL _ ?_ ?_ ?_ ?_ ?_ ?_).mono ?_); (go_split_ands; exact kV.out _ (by assumption)); (go_split_ands; exact kD.out _ (by assumption)); (go_split_ands; exact kY7.out _ (by assumption)); (go_split_ands; exact kB7.out _ (by assumption)); (go_split_ands; exact kA5.out _ (by assumption)); (go_split_ands; exact kZ5.out _ (by assumption)); rintro e wA ⟨rfl, hbA⟩)))
    rename_i hHeld
    obtain ⟨x0, x1, x2, x3, x4, x5, x6, x7, x8, x9, x10, HN15_0, HN15_1, HN15_2, HN15_3, HN15_4⟩ := hHeld
    clear hS15 HR15 x0 x1 x2 x3 x4 x5 x6 x7 x8 x9 x10
    obtain ⟨zc0, zc1, zc2⟩ := kC.out _ HN15_0
    obtain ⟨kS_0, kS_1, kS_2⟩ := kS.out _ HN15_1
    obtain ⟨kQ_0, kQ_1, kQ_2⟩ := kQ.out _ HN15_2
    obtain ⟨kR_0, kR_1⟩ := kR.out _ HN15_4
    have hbF := below_ext HBw.out HN15_0.out
    go_wp2
    go_ret
    exact ⟨rfl, hbF⟩
/-- THE LAW: true for every input. -/
theorem eb_true (P Q G a b x : Int) (s o : ByteArray) (h : List Int) (c : Int) (hl : Hid (h.length = 32)) (hhb : Hid (bytesB h = true)) (hQ : Q < 9223372036854775808) (w : World) (hv : Hid (Vars w)) (hd : Hid (VarsD w)) :
    Calls Tryz.prog 6 #[gv P Q G, .int .i64 a, .int .i64 b, .int .i64 x, .string s, .string o, .agg (tcs h c)] w fun e' w' => e' = .returned (.bool true) ∧ Below w.heap.size w w' := by
  by_cases hs : 100 < s.size
  · exact eb_s P Q G a b x s o h c hl hhb hQ hs w hv hd
  by_cases ho : 100 < o.size
  · exact eb_o P Q G a b x s o h c hl hhb hQ (by omega) ho w hv hd
  have hs : s.size ≤ 100 := by omega
  have ho : o.size ≤ 100 := by omega
  cases hvg : validG P Q G with
  | false => exact eb_v P Q G a b x s o h c hl hhb hQ hs ho (Lib.hid hvg) w hv hd
  | true =>
    cases hma : memG P Q a with
    | false => exact eb_a P Q G a b x s o h c hl hhb hQ hs ho (Lib.hid hvg) (Lib.hid hma) w hv hd
    | true =>
      cases hmb : memG P Q b with
      | false => exact eb_b P Q G a b x s o h c hl hhb hQ hs ho (Lib.hid hvg) (Lib.hid hma) (Lib.hid hmb) w hv hd
      | true =>
        have hck : Hid (chkG P Q G [a, b] = 0) := Lib.hid (chkG_ok hvg (by simp [hma, hmb]))
        cases hdr : drB c with
        | false => exact eb_d P Q G a b x s o h c hl hhb hQ hs ho (Lib.hid hvg) (Lib.hid hma) (Lib.hid hmb) hck (Lib.hid hdr) w hv hd
        | true =>
          cases hr : labB (bys s) with
          | false => exact eb_l P Q G a b x s o h c hl hhb hQ hs ho (Lib.hid hvg) (Lib.hid hma) (Lib.hid hmb) hck (Lib.hid hdr) (Lib.hid hr) w hv hd
          | true =>
            by_cases hx : 0 ≤ x ∧ x < Q
            · cases hst : (stD h Q c 1).2 with
              | true => exact eb_f P Q G a b x s o h c hl hhb hQ hs ho (Lib.hid hvg) (Lib.hid hma) (Lib.hid hmb) hck (Lib.hid hdr) (Lib.hid hr) hx.1 hx.2 _ _ (Lib.hid rfl) (Lib.hid rfl) (Lib.hid hst) w hv hd
              | false =>
                by_cases hy : pw a (x % Q) P = 1 ∧ pw b (x % Q) P = 1
                · exact eb_o1 P Q G a b x s o h c hl hhb hQ hs ho (Lib.hid hvg) (Lib.hid hma) (Lib.hid hmb) hck (Lib.hid hdr) (Lib.hid hr) hx.1 hx.2 _ _ (Lib.hid rfl) (Lib.hid rfl) (Lib.hid hst) _ (Lib.hid rfl) _ (Lib.hid rfl) (Lib.hid hy) w hv hd
                · exact eb_o2 P Q G a b x s o h c hl hhb hQ hs ho (Lib.hid hvg) (Lib.hid hma) (Lib.hid hmb) hck (Lib.hid hdr) (Lib.hid hr) hx.1 hx.2 _ _ (Lib.hid rfl) (Lib.hid rfl) (Lib.hid hst) _ (Lib.hid rfl) _ (Lib.hid rfl) (Lib.hid (by
                    by_cases h1 : pw a (x % Q) P = 1
                    · exact Or.inr (fun h2 => hy ⟨h1, h2⟩)
                    · exact Or.inl h1)) w hv hd
            · exact eb_x P Q G a b x s o h c hl hhb hQ hs ho (Lib.hid hvg) (Lib.hid hma) (Lib.hid hmb) hck (Lib.hid hdr) (Lib.hid hr) hx w hv hd
end Go.Proofs.YtdlhodbiaoafiaaGreatDoor
