/- Contracts and lemmas: EqN, Many. -/
import Derived.Test.YtdlhodbiaoafiaaGreatDoorEs7
namespace Go.Proofs.YtdlhodbiaoafiaaGreatDoor
open Go.RowKit SpM
set_option linter.unusedVariables false
set_option linter.unusedSimpArgs false
set_option maxRecDepth 100000
theorem wpList_built_g {P : Program} {ops : Array Oper} {rest : List Oper} {o : Oper} {a : Act} {w : World} {Q : Exit → Act → World → Prop} (hw : Region.wanted o (yielded ops a.tmps) = true) (t : TypeId) (l : List (Nat × Operand)) (ho : o.op = .build t l.toArray) (cells : Array Value)
    (hf : P.built t (l.map fun x => (x.1, a.eval x.2)) = some cells) (h : wpList P ops Q rest (a.put o.dst (.agg cells)) w) : wpList P ops Q (o :: rest) a w :=
  wpList_step fun K hK => by
    rw [if_pos hw]
    unfold Oper.wp
    rw [yields_built (S := fun _ => True) t l ho cells hf w trivial]
    exact hK _ _ h
theorem rdvalid_any (h : List Int) (hl : Hid (h.length = 32)) (c : Int) (r : Bool) (hr : Hid (drB c = r)) (w : World) :
    Calls Tryz.prog 27 #[.agg (tcs h c)] w fun e w' => e = .returned (.bool r) ∧ Below w.heap.size w w' := by
  have hc := (DBlk.new w h c).count hl.out
  by_cases h0 : 0 ≤ c
  · have d1 : decide ((0 : Int) ≤ c) = true := by simp [h0]
    obtain ⟨t, ht⟩ : ∃ t, decide (c ≤ 1099511627776) = t := ⟨_, rfl⟩
    obtain rfl : t = r := by rw [← hr.out, drB, d1, ht]; rfl
    clear hr
    go_enter Tryz.func27, Tryz.ntmps27
    go_wp2
    go_ret
    exact ⟨by first | rfl | (rw [ht]), below_box0 _ _⟩
  · have d1 : decide ((0 : Int) ≤ c) = false := by simp; omega
    obtain rfl : r = false := by rw [← hr.out, drB, d1]; rfl
    clear hr
    go_enter Tryz.func27, Tryz.ntmps27
    go_wp2
    go_ret
    exact ⟨rfl, below_box0 _ _⟩
set_option maxHeartbeats 25600000 in
theorem ep_long (P Q G a b x : Int) (s : ByteArray) (h : List Int) (c : Int) (hl : Hid (h.length = 32)) (hhb : Hid (bytesB h = true)) (hQ : Q < 9223372036854775808) (hs : 100 < s.size) (w : World) (hv : Hid (Vars w)) (hd : Hid (VarsD w)) :
    Calls Tryz.prog 5 #[gv P Q G, .int .i64 a, .int .i64 b, .int .i64 x, .string s, .agg (tcs h c)] w fun e' w' => e' = .returned (.bool true) ∧ Below w.heap.size w w' := by
  have dl : decide ((100 : Int) < (s.size : Int)) = true := by simp; omega
  obtain ⟨w0, hW⟩ : ∃ W, ((w.alloc (gObj P Q G)).alloc (.cells (tcs h c) 56)) = W := ⟨_, rfl⟩
  have HBw : Hid (Below w.heap.size w w0) := Lib.hid (by rw [← hW]; exact below_two (Below.refl _ _))
  have hc : w0.cell? ⟨w.heap.size, 0, none⟩ = some (.int .i64 P) ∧ w0.cell? ⟨w.heap.size, 1, none⟩ = some (.int .i64 Q) ∧ w0.cell? ⟨w.heap.size, 2, none⟩ = some (.int .i64 G) := by rw [← hW]; exact ⟨cell_below (allocs_cell (by simp) (by rfl)) (below_box0 _ _), cell_below (allocs_cell (by simp) (by rfl)) (below_box0 _ _), cell_below (allocs_cell (by simp) (by rfl)) (below_box0 _ _)⟩
  have kC := Lib.hid (show ∀ u : World, Hid (Below w0.heap.size w0 u) → u.cell? ⟨w.heap.size, 0, none⟩ = some (.int .i64 P) ∧ u.cell? ⟨w.heap.size, 1, none⟩ = some (.int .i64 Q) ∧ u.cell? ⟨w.heap.size, 2, none⟩ = some (.int .i64 G) from fun u h => ⟨cell_below hc.1 h.out, cell_below hc.2.1 h.out, cell_below hc.2.2 h.out⟩)
  have kV := Lib.hid (show ∀ u : World, Hid (Below w0.heap.size w0 u) → Hid (Vars u) from fun u h => Lib.hid ((hv.out.below) (below_ext HBw.out h.out)))
  have kD := Lib.hid (show ∀ u : World, Hid (Below w0.heap.size w0 u) → Hid (VarsD u) from fun u h => Lib.hid ((hd.out.below) (below_ext HBw.out h.out)))
  have HB_0 : Hid (Below w0.heap.size w0 w0) := Lib.hid (Below.refl _ _)
  have HW := Lib.hid hW
  clear hW hc hv hd
  have HT0 : Hid (DBlk w0 (w.heap.size + 1) h c) := Lib.hid (by rw [← HW.out, show w.heap.size + 1 = (w.alloc (gObj P Q G)).heap.size by simp]; exact heap_alloc_new _ _)
  have kT := Lib.hid (show ∀ u : World, Hid (Below w0.heap.size w0 u) → Hid (DBlk u (w.heap.size + 1) h c) from fun u hh => Lib.hid (HT0.out.below hh.out))
  go_enter Tryz.func5, Tryz.ntmps5
  go_upto_region 1 with (fail)
  rw [HW.out]
  obtain ⟨zc0, zc1, zc2⟩ := kC.out _ HB_0
  go_wp2_with fail
  refine (awake18 _ (kV.out _ HB_0)).mono ?_
  rintro e w1 ⟨rfl, hb0⟩
  have HB_1 := Lib.hid (below_ext HB_0.out hb0)
  clear zc0 zc1 zc2
  clear hb0
  obtain ⟨zc0, zc1, zc2⟩ := kC.out _ HB_1
  have hbF := below_ext HBw.out HB_1.out
  go_wp2
  go_ret
  exact ⟨rfl, hbF⟩
set_option maxHeartbeats 25600000 in
theorem ep_v (P Q G a b x : Int) (s : ByteArray) (h : List Int) (c : Int) (hl : Hid (h.length = 32)) (hhb : Hid (bytesB h = true)) (hQ : Q < 9223372036854775808) (hs : s.size ≤ 100) (HVG : Hid (validG P Q G = false)) (hck : Hid (chkG P Q G [a, b] = 1)) (w : World) (hv : Hid (Vars w)) (hd : Hid (VarsD w)) :
    Calls Tryz.prog 5 #[gv P Q G, .int .i64 a, .int .i64 b, .int .i64 x, .string s, .agg (tcs h c)] w fun e' w' => e' = .returned (.bool true) ∧ Below w.heap.size w w' := by
  have dl : decide ((100 : Int) < (s.size : Int)) = false := by simp; omega
  obtain ⟨w0, hW⟩ : ∃ W, ((w.alloc (gObj P Q G)).alloc (.cells (tcs h c) 56)) = W := ⟨_, rfl⟩
  have HBw : Hid (Below w.heap.size w w0) := Lib.hid (by rw [← hW]; exact below_two (Below.refl _ _))
  have hc : w0.cell? ⟨w.heap.size, 0, none⟩ = some (.int .i64 P) ∧ w0.cell? ⟨w.heap.size, 1, none⟩ = some (.int .i64 Q) ∧ w0.cell? ⟨w.heap.size, 2, none⟩ = some (.int .i64 G) := by rw [← hW]; exact ⟨cell_below (allocs_cell (by simp) (by rfl)) (below_box0 _ _), cell_below (allocs_cell (by simp) (by rfl)) (below_box0 _ _), cell_below (allocs_cell (by simp) (by rfl)) (below_box0 _ _)⟩
  have kC := Lib.hid (show ∀ u : World, Hid (Below w0.heap.size w0 u) → u.cell? ⟨w.heap.size, 0, none⟩ = some (.int .i64 P) ∧ u.cell? ⟨w.heap.size, 1, none⟩ = some (.int .i64 Q) ∧ u.cell? ⟨w.heap.size, 2, none⟩ = some (.int .i64 G) from fun u h => ⟨cell_below hc.1 h.out, cell_below hc.2.1 h.out, cell_below hc.2.2 h.out⟩)
  have kV := Lib.hid (show ∀ u : World, Hid (Below w0.heap.size w0 u) → Hid (Vars u) from fun u h => Lib.hid ((hv.out.below) (below_ext HBw.out h.out)))
  have kD := Lib.hid (show ∀ u : World, Hid (Below w0.heap.size w0 u) → Hid (VarsD u) from fun u h => Lib.hid ((hd.out.below) (below_ext HBw.out h.out)))
  have HB_0 : Hid (Below w0.heap.size w0 w0) := Lib.hid (Below.refl _ _)
  have HW := Lib.hid hW
  clear hW hc hv hd
  have HT0 : Hid (DBlk w0 (w.heap.size + 1) h c) := Lib.hid (by rw [← HW.out, show w.heap.size + 1 = (w.alloc (gObj P Q G)).heap.size by simp]; exact heap_alloc_new _ _)
  have kT := Lib.hid (show ∀ u : World, Hid (Below w0.heap.size w0 u) → Hid (DBlk u (w.heap.size + 1) h c) from fun u hh => Lib.hid (HT0.out.below hh.out))
  go_enter Tryz.func5, Tryz.ntmps5
  go_upto_region 1 with (fail)
  rw [HW.out]
  obtain ⟨zc0, zc1, zc2⟩ := kC.out _ HB_0
  go_wp2_with fail
  refine (awake18 _ (kV.out _ HB_0)).mono ?_
  rintro e w1 ⟨rfl, hb0⟩
  have HB_1 := Lib.hid (below_ext HB_0.out hb0)
  clear zc0 zc1 zc2
  clear hb0
  obtain ⟨zc0, zc1, zc2⟩ := kC.out _ HB_1
  have HTk := kT.out _ HB_1
  go_wp2_with ((with_reducible show wpList _ _ _ (⟨some 33, _, _, _, _, _⟩ :: _) _ _); refine wpList_load_row_g (by rfl) 56 _ rfl (w.heap.size + 1) rfl _ _ _ _ HTk.out Tryz.underlying56 rfl (dr_info hl.out) ?_)
  refine (eqp_v P Q G a b x s h c (by omega) hl hQ hck _ (kV.out _ HB_1) (kD.out _ HB_1)).mono ?_
  rintro e w2 ⟨rfl, hb0⟩
  have HB_2 := Lib.hid (below_ext HB_1.out hb0)
  clear zc0 zc1 zc2
  clear hb0 HTk
  rw [show PrvE (.agg #[.slice none 0 0, .int .i64 0, .slice none 0 0]) (zer 32) 0 1 = .tuple #[.agg #[.slice none 0 0, .int .i64 0, .slice none 0 0], .agg (tcs (zer 32) 0), .int .i64 1] from rfl]
  have HDa3 : Hid (DBlk ((w2.alloc (.cells #[.slice none 0 0, .int .i64 0, .slice none 0 0] 28)).alloc (.cells #[.int .u8 0, .int .u8 0, .int .u8 0, .int .u8 0, .int .u8 0, .int .u8 0, .int .u8 0, .int .u8 0, .int .u8 0, .int .u8 0, .int .u8 0, .int .u8 0, .int .u8 0, .int .u8 0, .int .u8 0, .int .u8 0, .int .u8 0, .int .u8 0, .int .u8 0, .int .u8 0, .int .u8 0, .int .u8 0, .int .u8 0, .int .u8 0, .int .u8 0, .int .u8 0, .int .u8 0, .int .u8 0, .int .u8 0, .int .u8 0, .int .u8 0, .int .u8 0, .int .i64 0] 56)) (w2.heap.size + 1) (zer 32) 0) := Lib.hid (by rw [ztr]; exact heap_alloc2_new _ _ _)
  have HQe3 : Hid (QBlk (((w2.alloc (.cells #[.slice none 0 0, .int .i64 0, .slice none 0 0] 28)).alloc (.cells #[.int .u8 0, .int .u8 0, .int .u8 0, .int .u8 0, .int .u8 0, .int .u8 0, .int .u8 0, .int .u8 0, .int .u8 0, .int .u8 0, .int .u8 0, .int .u8 0, .int .u8 0, .int .u8 0, .int .u8 0, .int .u8 0, .int .u8 0, .int .u8 0, .int .u8 0, .int .u8 0, .int .u8 0, .int .u8 0, .int .u8 0, .int .u8 0, .int .u8 0, .int .u8 0, .int .u8 0, .int .u8 0, .int .u8 0, .int .u8 0, .int .u8 0, .int .u8 0, .int .i64 0] 56)).setRow (w2.heap.size + 1) (tcs (zer 32) 0)) w2.heap.size (.slice none 0 0) (.int .i64 0) (.slice none 0 0)) := Lib.hid ((setRow_other _ _ _ _ (by omega)).trans (heap_alloc2_old _ _ _))
  have HDe3 : Hid (DBlk (((w2.alloc (.cells #[.slice none 0 0, .int .i64 0, .slice none 0 0] 28)).alloc (.cells #[.int .u8 0, .int .u8 0, .int .u8 0, .int .u8 0, .int .u8 0, .int .u8 0, .int .u8 0, .int .u8 0, .int .u8 0, .int .u8 0, .int .u8 0, .int .u8 0, .int .u8 0, .int .u8 0, .int .u8 0, .int .u8 0, .int .u8 0, .int .u8 0, .int .u8 0, .int .u8 0, .int .u8 0, .int .u8 0, .int .u8 0, .int .u8 0, .int .u8 0, .int .u8 0, .int .u8 0, .int .u8 0, .int .u8 0, .int .u8 0, .int .u8 0, .int .u8 0, .int .i64 0] 56)).setRow (w2.heap.size + 1) (tcs (zer 32) 0)) (w2.heap.size + 1) (zer 32) 0) := Lib.hid (DBlk.setRow HDa3.out)
  have hq : Below w2.heap.size w2 (((w2.alloc (.cells #[.slice none 0 0, .int .i64 0, .slice none 0 0] 28)).alloc (.cells #[.int .u8 0, .int .u8 0, .int .u8 0, .int .u8 0, .int .u8 0, .int .u8 0, .int .u8 0, .int .u8 0, .int .u8 0, .int .u8 0, .int .u8 0, .int .u8 0, .int .u8 0, .int .u8 0, .int .u8 0, .int .u8 0, .int .u8 0, .int .u8 0, .int .u8 0, .int .u8 0, .int .u8 0, .int .u8 0, .int .u8 0, .int .u8 0, .int .u8 0, .int .u8 0, .int .u8 0, .int .u8 0, .int .u8 0, .int .u8 0, .int .u8 0, .int .u8 0, .int .i64 0] 56)).setRow (w2.heap.size + 1) (tcs (zer 32) 0)) := below_setRow' (below_two (Below.refl _ _)) (Nat.le_succ _)
  have HQW := Lib.hid hq
  go_upto_region 6 with ((with_reducible show wpList _ _ _ (⟨none, _, _, _, _, _⟩ :: _) _ _); refine wpList_store_row rfl 56 _ _ rfl (w2.heap.size + 1) (tcs (zer 32) 0) rfl rfl _ _ HDa3.out (dr_info rfl) (tcs_sz (h := zer 32) (c := 0) rfl rfl) (tcs_one _ _) ?_)
  clear HDa3
  have HB_3 := Lib.hid (below_ext HB_2.out hq)
  obtain ⟨w3, hw⟩ : ∃ x, (((w2.alloc (.cells #[.slice none 0 0, .int .i64 0, .slice none 0 0] 28)).alloc (.cells #[.int .u8 0, .int .u8 0, .int .u8 0, .int .u8 0, .int .u8 0, .int .u8 0, .int .u8 0, .int .u8 0, .int .u8 0, .int .u8 0, .int .u8 0, .int .u8 0, .int .u8 0, .int .u8 0, .int .u8 0, .int .u8 0, .int .u8 0, .int .u8 0, .int .u8 0, .int .u8 0, .int .u8 0, .int .u8 0, .int .u8 0, .int .u8 0, .int .u8 0, .int .u8 0, .int .u8 0, .int .u8 0, .int .u8 0, .int .u8 0, .int .u8 0, .int .u8 0, .int .i64 0] 56)).setRow (w2.heap.size + 1) (tcs (zer 32) 0)) = x := ⟨_, rfl⟩
  rw [hw] at HQW HQe3 HDe3 HB_3 ⊢
  clear hw hq
  have HB_w3_3 : Hid (Below w3.heap.size w3 w3) := Lib.hid (Below.refl _ _)
  have kS := Lib.hid (show ∀ u : World, Hid (Below w3.heap.size w3 u) → u.cell? ⟨w2.heap.size, 0, none⟩ = some (.slice none 0 0) ∧ u.cell? ⟨w2.heap.size, 1, none⟩ = some (.int .i64 0) ∧ u.cell? ⟨w2.heap.size, 2, none⟩ = some (.slice none 0 0) from fun u hh => ⟨cell_below HQe3.out.cells.1.1 hh.out, cell_below HQe3.out.cells.1.2.1 hh.out, cell_below HQe3.out.cells.1.2.2 hh.out⟩)
  have kS2 := Lib.hid (show ∀ u : World, Hid (Below w3.heap.size w3 u) → Hid (DBlk u (w2.heap.size + 1) (zer 32) 0) from fun u h => Lib.hid (HDe3.out.below h.out))
  obtain ⟨zc0, zc1, zc2⟩ := kC.out _ HB_3
  obtain ⟨kS_0, kS_1, kS_2⟩ := kS.out _ HB_w3_3
  go_wp2_with fail
  refine (same18_any none [] 0 0 0 none [] 0 0 none [] 0 0 0 none [] 0 0 (Lib.hid rfl) (Lib.hid rfl) (Lib.hid rfl) (Lib.hid rfl) (by omega) (by omega) (by omega) (by omega) true (Lib.hid rfl) _ (Lib.hid (sl_nil _)) (Lib.hid (sl_nil _)) (Lib.hid (sl_nil _)) (Lib.hid (sl_nil _))).mono ?_
  rintro e w4 ⟨rfl, hb0⟩
  have HB_4 := Lib.hid (below_ext HB_3.out hb0)
  have HB_w3_4 := Lib.hid (below_ext HB_w3_3.out hb0)
  clear zc0 zc1 zc2 kS_0 kS_1 kS_2
  clear hb0
  obtain ⟨zc0, zc1, zc2⟩ := kC.out _ HB_4
  obtain ⟨kS_0, kS_1, kS_2⟩ := kS.out _ HB_w3_4
  have HNk := kS2.out _ HB_w3_4
  go_upto_region 7 with (first | ((with_reducible show wpList _ _ _ (⟨some 42, _, _, _, _, _⟩ :: _) _ _); refine wpList_load_row_g (by rfl) 56 _ rfl (w2.heap.size + 1) rfl _ _ _ _ HNk.out Tryz.underlying56 rfl (dr_info rfl) ?_) | ((with_reducible show wpList _ _ _ (⟨some 43, _, _, _, _, _⟩ :: _) _ _); refine wpList_built_g (by rfl) 56 _ rfl _ builtD ?_) | ((with_reducible show wpList _ _ _ (⟨some 44, _, _, _, _, _⟩ :: _) _ _); refine wpList_eql_draw (by rfl) _ _ _ rfl (zer 32) (zer 32) rfl rfl 0 0 rfl rfl true (by decide) ?_))
  clear HNk
  go_wp2_with fail
  refine (rvalid_any P Q G false HVG hQ _).mono ?_
  rintro e w5 ⟨rfl, hb0⟩
  have HB_5 := Lib.hid (below_ext HB_4.out hb0)
  have HB_w3_5 := Lib.hid (below_ext HB_w3_4.out hb0)
  clear zc0 zc1 zc2 kS_0 kS_1 kS_2
  clear hb0
  obtain ⟨zc0, zc1, zc2⟩ := kC.out _ HB_5
  obtain ⟨kS_0, kS_1, kS_2⟩ := kS.out _ HB_w3_5
  have hbF := below_ext HBw.out HB_5.out
  go_wp2
  go_ret
  exact ⟨rfl, hbF⟩
set_option maxHeartbeats 25600000 in
theorem ep_d (P Q G a b x : Int) (s : ByteArray) (h : List Int) (c : Int) (hl : Hid (h.length = 32)) (hhb : Hid (bytesB h = true)) (hQ : Q < 9223372036854775808) (hs : s.size ≤ 100) (HVG : Hid (validG P Q G = true)) (r : Int) (hr1 : (r == 1) = false) (hck : Hid (chkG P Q G [a, b] = r)) (hdr : Hid (drB c = false)) (w : World) (hv : Hid (Vars w)) (hd : Hid (VarsD w)) :
    Calls Tryz.prog 5 #[gv P Q G, .int .i64 a, .int .i64 b, .int .i64 x, .string s, .agg (tcs h c)] w fun e' w' => e' = .returned (.bool true) ∧ Below w.heap.size w w' := by
  have dl : decide ((100 : Int) < (s.size : Int)) = false := by simp; omega
  obtain ⟨w0, hW⟩ : ∃ W, ((w.alloc (gObj P Q G)).alloc (.cells (tcs h c) 56)) = W := ⟨_, rfl⟩
  have HBw : Hid (Below w.heap.size w w0) := Lib.hid (by rw [← hW]; exact below_two (Below.refl _ _))
  have hc : w0.cell? ⟨w.heap.size, 0, none⟩ = some (.int .i64 P) ∧ w0.cell? ⟨w.heap.size, 1, none⟩ = some (.int .i64 Q) ∧ w0.cell? ⟨w.heap.size, 2, none⟩ = some (.int .i64 G) := by rw [← hW]; exact ⟨cell_below (allocs_cell (by simp) (by rfl)) (below_box0 _ _), cell_below (allocs_cell (by simp) (by rfl)) (below_box0 _ _), cell_below (allocs_cell (by simp) (by rfl)) (below_box0 _ _)⟩
  have kC := Lib.hid (show ∀ u : World, Hid (Below w0.heap.size w0 u) → u.cell? ⟨w.heap.size, 0, none⟩ = some (.int .i64 P) ∧ u.cell? ⟨w.heap.size, 1, none⟩ = some (.int .i64 Q) ∧ u.cell? ⟨w.heap.size, 2, none⟩ = some (.int .i64 G) from fun u h => ⟨cell_below hc.1 h.out, cell_below hc.2.1 h.out, cell_below hc.2.2 h.out⟩)
  have kV := Lib.hid (show ∀ u : World, Hid (Below w0.heap.size w0 u) → Hid (Vars u) from fun u h => Lib.hid ((hv.out.below) (below_ext HBw.out h.out)))
  have kD := Lib.hid (show ∀ u : World, Hid (Below w0.heap.size w0 u) → Hid (VarsD u) from fun u h => Lib.hid ((hd.out.below) (below_ext HBw.out h.out)))
  have HB_0 : Hid (Below w0.heap.size w0 w0) := Lib.hid (Below.refl _ _)
  have HW := Lib.hid hW
  clear hW hc hv hd
  have HT0 : Hid (DBlk w0 (w.heap.size + 1) h c) := Lib.hid (by rw [← HW.out, show w.heap.size + 1 = (w.alloc (gObj P Q G)).heap.size by simp]; exact heap_alloc_new _ _)
  have kT := Lib.hid (show ∀ u : World, Hid (Below w0.heap.size w0 u) → Hid (DBlk u (w.heap.size + 1) h c) from fun u hh => Lib.hid (HT0.out.below hh.out))
  go_enter Tryz.func5, Tryz.ntmps5
  go_upto_region 1 with (fail)
  rw [HW.out]
  obtain ⟨zc0, zc1, zc2⟩ := kC.out _ HB_0
  go_wp2_with fail
  refine (awake18 _ (kV.out _ HB_0)).mono ?_
  rintro e w1 ⟨rfl, hb0⟩
  have HB_1 := Lib.hid (below_ext HB_0.out hb0)
  clear zc0 zc1 zc2
  clear hb0
  obtain ⟨zc0, zc1, zc2⟩ := kC.out _ HB_1
  have HTk := kT.out _ HB_1
  go_wp2_with ((with_reducible show wpList _ _ _ (⟨some 33, _, _, _, _, _⟩ :: _) _ _); refine wpList_load_row_g (by rfl) 56 _ rfl (w.heap.size + 1) rfl _ _ _ _ HTk.out Tryz.underlying56 rfl (dr_info hl.out) ?_)
  refine (eqp_d P Q G a b x s h c (by omega) hl hQ r hr1 hck hdr _ (kV.out _ HB_1) (kD.out _ HB_1)).mono ?_
  rintro e w2 ⟨rfl, hb0⟩
  have HB_2 := Lib.hid (below_ext HB_1.out hb0)
  clear zc0 zc1 zc2
  clear hb0 HTk
  rw [show PrvE (.agg #[.slice none 0 0, .int .i64 0, .slice none 0 0]) (zer 32) 0 1 = .tuple #[.agg #[.slice none 0 0, .int .i64 0, .slice none 0 0], .agg (tcs (zer 32) 0), .int .i64 1] from rfl]
  have HDa3 : Hid (DBlk ((w2.alloc (.cells #[.slice none 0 0, .int .i64 0, .slice none 0 0] 28)).alloc (.cells #[.int .u8 0, .int .u8 0, .int .u8 0, .int .u8 0, .int .u8 0, .int .u8 0, .int .u8 0, .int .u8 0, .int .u8 0, .int .u8 0, .int .u8 0, .int .u8 0, .int .u8 0, .int .u8 0, .int .u8 0, .int .u8 0, .int .u8 0, .int .u8 0, .int .u8 0, .int .u8 0, .int .u8 0, .int .u8 0, .int .u8 0, .int .u8 0, .int .u8 0, .int .u8 0, .int .u8 0, .int .u8 0, .int .u8 0, .int .u8 0, .int .u8 0, .int .u8 0, .int .i64 0] 56)) (w2.heap.size + 1) (zer 32) 0) := Lib.hid (by rw [ztr]; exact heap_alloc2_new _ _ _)
  have HQe3 : Hid (QBlk (((w2.alloc (.cells #[.slice none 0 0, .int .i64 0, .slice none 0 0] 28)).alloc (.cells #[.int .u8 0, .int .u8 0, .int .u8 0, .int .u8 0, .int .u8 0, .int .u8 0, .int .u8 0, .int .u8 0, .int .u8 0, .int .u8 0, .int .u8 0, .int .u8 0, .int .u8 0, .int .u8 0, .int .u8 0, .int .u8 0, .int .u8 0, .int .u8 0, .int .u8 0, .int .u8 0, .int .u8 0, .int .u8 0, .int .u8 0, .int .u8 0, .int .u8 0, .int .u8 0, .int .u8 0, .int .u8 0, .int .u8 0, .int .u8 0, .int .u8 0, .int .u8 0, .int .i64 0] 56)).setRow (w2.heap.size + 1) (tcs (zer 32) 0)) w2.heap.size (.slice none 0 0) (.int .i64 0) (.slice none 0 0)) := Lib.hid ((setRow_other _ _ _ _ (by omega)).trans (heap_alloc2_old _ _ _))
  have HDe3 : Hid (DBlk (((w2.alloc (.cells #[.slice none 0 0, .int .i64 0, .slice none 0 0] 28)).alloc (.cells #[.int .u8 0, .int .u8 0, .int .u8 0, .int .u8 0, .int .u8 0, .int .u8 0, .int .u8 0, .int .u8 0, .int .u8 0, .int .u8 0, .int .u8 0, .int .u8 0, .int .u8 0, .int .u8 0, .int .u8 0, .int .u8 0, .int .u8 0, .int .u8 0, .int .u8 0, .int .u8 0, .int .u8 0, .int .u8 0, .int .u8 0, .int .u8 0, .int .u8 0, .int .u8 0, .int .u8 0, .int .u8 0, .int .u8 0, .int .u8 0, .int .u8 0, .int .u8 0, .int .i64 0] 56)).setRow (w2.heap.size + 1) (tcs (zer 32) 0)) (w2.heap.size + 1) (zer 32) 0) := Lib.hid (DBlk.setRow HDa3.out)
  have hq : Below w2.heap.size w2 (((w2.alloc (.cells #[.slice none 0 0, .int .i64 0, .slice none 0 0] 28)).alloc (.cells #[.int .u8 0, .int .u8 0, .int .u8 0, .int .u8 0, .int .u8 0, .int .u8 0, .int .u8 0, .int .u8 0, .int .u8 0, .int .u8 0, .int .u8 0, .int .u8 0, .int .u8 0, .int .u8 0, .int .u8 0, .int .u8 0, .int .u8 0, .int .u8 0, .int .u8 0, .int .u8 0, .int .u8 0, .int .u8 0, .int .u8 0, .int .u8 0, .int .u8 0, .int .u8 0, .int .u8 0, .int .u8 0, .int .u8 0, .int .u8 0, .int .u8 0, .int .u8 0, .int .i64 0] 56)).setRow (w2.heap.size + 1) (tcs (zer 32) 0)) := below_setRow' (below_two (Below.refl _ _)) (Nat.le_succ _)
  have HQW := Lib.hid hq
  go_upto_region 6 with ((with_reducible show wpList _ _ _ (⟨none, _, _, _, _, _⟩ :: _) _ _); refine wpList_store_row rfl 56 _ _ rfl (w2.heap.size + 1) (tcs (zer 32) 0) rfl rfl _ _ HDa3.out (dr_info rfl) (tcs_sz (h := zer 32) (c := 0) rfl rfl) (tcs_one _ _) ?_)
  clear HDa3
  have HB_3 := Lib.hid (below_ext HB_2.out hq)
  obtain ⟨w3, hw⟩ : ∃ x, (((w2.alloc (.cells #[.slice none 0 0, .int .i64 0, .slice none 0 0] 28)).alloc (.cells #[.int .u8 0, .int .u8 0, .int .u8 0, .int .u8 0, .int .u8 0, .int .u8 0, .int .u8 0, .int .u8 0, .int .u8 0, .int .u8 0, .int .u8 0, .int .u8 0, .int .u8 0, .int .u8 0, .int .u8 0, .int .u8 0, .int .u8 0, .int .u8 0, .int .u8 0, .int .u8 0, .int .u8 0, .int .u8 0, .int .u8 0, .int .u8 0, .int .u8 0, .int .u8 0, .int .u8 0, .int .u8 0, .int .u8 0, .int .u8 0, .int .u8 0, .int .u8 0, .int .i64 0] 56)).setRow (w2.heap.size + 1) (tcs (zer 32) 0)) = x := ⟨_, rfl⟩
  rw [hw] at HQW HQe3 HDe3 HB_3 ⊢
  clear hw hq
  have HB_w3_3 : Hid (Below w3.heap.size w3 w3) := Lib.hid (Below.refl _ _)
  have kS := Lib.hid (show ∀ u : World, Hid (Below w3.heap.size w3 u) → u.cell? ⟨w2.heap.size, 0, none⟩ = some (.slice none 0 0) ∧ u.cell? ⟨w2.heap.size, 1, none⟩ = some (.int .i64 0) ∧ u.cell? ⟨w2.heap.size, 2, none⟩ = some (.slice none 0 0) from fun u hh => ⟨cell_below HQe3.out.cells.1.1 hh.out, cell_below HQe3.out.cells.1.2.1 hh.out, cell_below HQe3.out.cells.1.2.2 hh.out⟩)
  have kS2 := Lib.hid (show ∀ u : World, Hid (Below w3.heap.size w3 u) → Hid (DBlk u (w2.heap.size + 1) (zer 32) 0) from fun u h => Lib.hid (HDe3.out.below h.out))
  obtain ⟨zc0, zc1, zc2⟩ := kC.out _ HB_3
  obtain ⟨kS_0, kS_1, kS_2⟩ := kS.out _ HB_w3_3
  go_wp2_with fail
  refine (same18_any none [] 0 0 0 none [] 0 0 none [] 0 0 0 none [] 0 0 (Lib.hid rfl) (Lib.hid rfl) (Lib.hid rfl) (Lib.hid rfl) (by omega) (by omega) (by omega) (by omega) true (Lib.hid rfl) _ (Lib.hid (sl_nil _)) (Lib.hid (sl_nil _)) (Lib.hid (sl_nil _)) (Lib.hid (sl_nil _))).mono ?_
  rintro e w4 ⟨rfl, hb0⟩
  have HB_4 := Lib.hid (below_ext HB_3.out hb0)
  have HB_w3_4 := Lib.hid (below_ext HB_w3_3.out hb0)
  clear zc0 zc1 zc2 kS_0 kS_1 kS_2
  clear hb0
  obtain ⟨zc0, zc1, zc2⟩ := kC.out _ HB_4
  obtain ⟨kS_0, kS_1, kS_2⟩ := kS.out _ HB_w3_4
  have HNk := kS2.out _ HB_w3_4
  go_upto_region 7 with (first | ((with_reducible show wpList _ _ _ (⟨some 42, _, _, _, _, _⟩ :: _) _ _); refine wpList_load_row_g (by rfl) 56 _ rfl (w2.heap.size + 1) rfl _ _ _ _ HNk.out Tryz.underlying56 rfl (dr_info rfl) ?_) | ((with_reducible show wpList _ _ _ (⟨some 43, _, _, _, _, _⟩ :: _) _ _); refine wpList_built_g (by rfl) 56 _ rfl _ builtD ?_) | ((with_reducible show wpList _ _ _ (⟨some 44, _, _, _, _, _⟩ :: _) _ _); refine wpList_eql_draw (by rfl) _ _ _ rfl (zer 32) (zer 32) rfl rfl 0 0 rfl rfl true (by decide) ?_))
  clear HNk
  go_wp2_with fail
  refine (rvalid_any P Q G true HVG hQ _).mono ?_
  rintro e w5 ⟨rfl, hb0⟩
  have HB_5 := Lib.hid (below_ext HB_4.out hb0)
  have HB_w3_5 := Lib.hid (below_ext HB_w3_4.out hb0)
  clear zc0 zc1 zc2 kS_0 kS_1 kS_2
  clear hb0
  obtain ⟨zc0, zc1, zc2⟩ := kC.out _ HB_5
  obtain ⟨kS_0, kS_1, kS_2⟩ := kS.out _ HB_w3_5
  have HTk := kT.out _ HB_5
  go_wp2_with ((with_reducible show wpList _ _ _ (⟨some 50, _, _, _, _, _⟩ :: _) _ _); refine wpList_load_row_g (by rfl) 56 _ rfl (w.heap.size + 1) rfl _ _ _ _ HTk.out Tryz.underlying56 rfl (dr_info hl.out) ?_)
  refine (rdvalid_any h hl c false hdr _).mono ?_
  rintro e w6 ⟨rfl, hb0⟩
  have HB_6 := Lib.hid (below_ext HB_5.out hb0)
  have HB_w3_6 := Lib.hid (below_ext HB_w3_5.out hb0)
  clear zc0 zc1 zc2 kS_0 kS_1 kS_2
  clear hb0
  obtain ⟨zc0, zc1, zc2⟩ := kC.out _ HB_6
  obtain ⟨kS_0, kS_1, kS_2⟩ := kS.out _ HB_w3_6
  clear HTk
  have hbF := below_ext HBw.out HB_6.out
  go_wp2
  go_ret
  exact ⟨rfl, hbF⟩
set_option maxHeartbeats 25600000 in
theorem ep_l (P Q G a b x : Int) (s : ByteArray) (h : List Int) (c : Int) (hl : Hid (h.length = 32)) (hhb : Hid (bytesB h = true)) (hQ : Q < 9223372036854775808) (hs : s.size ≤ 100) (HVG : Hid (validG P Q G = true)) (r : Int) (hr1 : (r == 1) = false) (hck : Hid (chkG P Q G [a, b] = r)) (hdr : Hid (drB c = true)) (hr : Hid (labB (bys s) = false)) (w : World) (hv : Hid (Vars w)) (hd : Hid (VarsD w)) :
    Calls Tryz.prog 5 #[gv P Q G, .int .i64 a, .int .i64 b, .int .i64 x, .string s, .agg (tcs h c)] w fun e' w' => e' = .returned (.bool true) ∧ Below w.heap.size w w' := by
  have dl : decide ((100 : Int) < (s.size : Int)) = false := by simp; omega
  obtain ⟨w0, hW⟩ : ∃ W, ((w.alloc (gObj P Q G)).alloc (.cells (tcs h c) 56)) = W := ⟨_, rfl⟩
  have HBw : Hid (Below w.heap.size w w0) := Lib.hid (by rw [← hW]; exact below_two (Below.refl _ _))
  have hc : w0.cell? ⟨w.heap.size, 0, none⟩ = some (.int .i64 P) ∧ w0.cell? ⟨w.heap.size, 1, none⟩ = some (.int .i64 Q) ∧ w0.cell? ⟨w.heap.size, 2, none⟩ = some (.int .i64 G) := by rw [← hW]; exact ⟨cell_below (allocs_cell (by simp) (by rfl)) (below_box0 _ _), cell_below (allocs_cell (by simp) (by rfl)) (below_box0 _ _), cell_below (allocs_cell (by simp) (by rfl)) (below_box0 _ _)⟩
  have kC := Lib.hid (show ∀ u : World, Hid (Below w0.heap.size w0 u) → u.cell? ⟨w.heap.size, 0, none⟩ = some (.int .i64 P) ∧ u.cell? ⟨w.heap.size, 1, none⟩ = some (.int .i64 Q) ∧ u.cell? ⟨w.heap.size, 2, none⟩ = some (.int .i64 G) from fun u h => ⟨cell_below hc.1 h.out, cell_below hc.2.1 h.out, cell_below hc.2.2 h.out⟩)
  have kV := Lib.hid (show ∀ u : World, Hid (Below w0.heap.size w0 u) → Hid (Vars u) from fun u h => Lib.hid ((hv.out.below) (below_ext HBw.out h.out)))
  have kD := Lib.hid (show ∀ u : World, Hid (Below w0.heap.size w0 u) → Hid (VarsD u) from fun u h => Lib.hid ((hd.out.below) (below_ext HBw.out h.out)))
  have HB_0 : Hid (Below w0.heap.size w0 w0) := Lib.hid (Below.refl _ _)
  have HW := Lib.hid hW
  clear hW hc hv hd
  have HT0 : Hid (DBlk w0 (w.heap.size + 1) h c) := Lib.hid (by rw [← HW.out, show w.heap.size + 1 = (w.alloc (gObj P Q G)).heap.size by simp]; exact heap_alloc_new _ _)
  have kT := Lib.hid (show ∀ u : World, Hid (Below w0.heap.size w0 u) → Hid (DBlk u (w.heap.size + 1) h c) from fun u hh => Lib.hid (HT0.out.below hh.out))
  go_enter Tryz.func5, Tryz.ntmps5
  go_upto_region 1 with (fail)
  rw [HW.out]
  obtain ⟨zc0, zc1, zc2⟩ := kC.out _ HB_0
  go_wp2_with fail
  refine (awake18 _ (kV.out _ HB_0)).mono ?_
  rintro e w1 ⟨rfl, hb0⟩
  have HB_1 := Lib.hid (below_ext HB_0.out hb0)
  clear zc0 zc1 zc2
  clear hb0
  obtain ⟨zc0, zc1, zc2⟩ := kC.out _ HB_1
  have HTk := kT.out _ HB_1
  go_wp2_with ((with_reducible show wpList _ _ _ (⟨some 33, _, _, _, _, _⟩ :: _) _ _); refine wpList_load_row_g (by rfl) 56 _ rfl (w.heap.size + 1) rfl _ _ _ _ HTk.out Tryz.underlying56 rfl (dr_info hl.out) ?_)
  refine (eqp_l P Q G a b x s h c (by omega) hl hQ r hr1 hck hdr hr _ (kV.out _ HB_1) (kD.out _ HB_1)).mono ?_
  rintro e w2 ⟨rfl, hb0⟩
  have HB_2 := Lib.hid (below_ext HB_1.out hb0)
  clear zc0 zc1 zc2
  clear hb0 HTk
  rw [show PrvE (.agg #[.slice none 0 0, .int .i64 0, .slice none 0 0]) (zer 32) 0 1 = .tuple #[.agg #[.slice none 0 0, .int .i64 0, .slice none 0 0], .agg (tcs (zer 32) 0), .int .i64 1] from rfl]
  have HDa3 : Hid (DBlk ((w2.alloc (.cells #[.slice none 0 0, .int .i64 0, .slice none 0 0] 28)).alloc (.cells #[.int .u8 0, .int .u8 0, .int .u8 0, .int .u8 0, .int .u8 0, .int .u8 0, .int .u8 0, .int .u8 0, .int .u8 0, .int .u8 0, .int .u8 0, .int .u8 0, .int .u8 0, .int .u8 0, .int .u8 0, .int .u8 0, .int .u8 0, .int .u8 0, .int .u8 0, .int .u8 0, .int .u8 0, .int .u8 0, .int .u8 0, .int .u8 0, .int .u8 0, .int .u8 0, .int .u8 0, .int .u8 0, .int .u8 0, .int .u8 0, .int .u8 0, .int .u8 0, .int .i64 0] 56)) (w2.heap.size + 1) (zer 32) 0) := Lib.hid (by rw [ztr]; exact heap_alloc2_new _ _ _)
  have HQe3 : Hid (QBlk (((w2.alloc (.cells #[.slice none 0 0, .int .i64 0, .slice none 0 0] 28)).alloc (.cells #[.int .u8 0, .int .u8 0, .int .u8 0, .int .u8 0, .int .u8 0, .int .u8 0, .int .u8 0, .int .u8 0, .int .u8 0, .int .u8 0, .int .u8 0, .int .u8 0, .int .u8 0, .int .u8 0, .int .u8 0, .int .u8 0, .int .u8 0, .int .u8 0, .int .u8 0, .int .u8 0, .int .u8 0, .int .u8 0, .int .u8 0, .int .u8 0, .int .u8 0, .int .u8 0, .int .u8 0, .int .u8 0, .int .u8 0, .int .u8 0, .int .u8 0, .int .u8 0, .int .i64 0] 56)).setRow (w2.heap.size + 1) (tcs (zer 32) 0)) w2.heap.size (.slice none 0 0) (.int .i64 0) (.slice none 0 0)) := Lib.hid ((setRow_other _ _ _ _ (by omega)).trans (heap_alloc2_old _ _ _))
  have HDe3 : Hid (DBlk (((w2.alloc (.cells #[.slice none 0 0, .int .i64 0, .slice none 0 0] 28)).alloc (.cells #[.int .u8 0, .int .u8 0, .int .u8 0, .int .u8 0, .int .u8 0, .int .u8 0, .int .u8 0, .int .u8 0, .int .u8 0, .int .u8 0, .int .u8 0, .int .u8 0, .int .u8 0, .int .u8 0, .int .u8 0, .int .u8 0, .int .u8 0, .int .u8 0, .int .u8 0, .int .u8 0, .int .u8 0, .int .u8 0, .int .u8 0, .int .u8 0, .int .u8 0, .int .u8 0, .int .u8 0, .int .u8 0, .int .u8 0, .int .u8 0, .int .u8 0, .int .u8 0, .int .i64 0] 56)).setRow (w2.heap.size + 1) (tcs (zer 32) 0)) (w2.heap.size + 1) (zer 32) 0) := Lib.hid (DBlk.setRow HDa3.out)
  have hq : Below w2.heap.size w2 (((w2.alloc (.cells #[.slice none 0 0, .int .i64 0, .slice none 0 0] 28)).alloc (.cells #[.int .u8 0, .int .u8 0, .int .u8 0, .int .u8 0, .int .u8 0, .int .u8 0, .int .u8 0, .int .u8 0, .int .u8 0, .int .u8 0, .int .u8 0, .int .u8 0, .int .u8 0, .int .u8 0, .int .u8 0, .int .u8 0, .int .u8 0, .int .u8 0, .int .u8 0, .int .u8 0, .int .u8 0, .int .u8 0, .int .u8 0, .int .u8 0, .int .u8 0, .int .u8 0, .int .u8 0, .int .u8 0, .int .u8 0, .int .u8 0, .int .u8 0, .int .u8 0, .int .i64 0] 56)).setRow (w2.heap.size + 1) (tcs (zer 32) 0)) := below_setRow' (below_two (Below.refl _ _)) (Nat.le_succ _)
  have HQW := Lib.hid hq
  go_upto_region 6 with ((with_reducible show wpList _ _ _ (⟨none, _, _, _, _, _⟩ :: _) _ _); refine wpList_store_row rfl 56 _ _ rfl (w2.heap.size + 1) (tcs (zer 32) 0) rfl rfl _ _ HDa3.out (dr_info rfl) (tcs_sz (h := zer 32) (c := 0) rfl rfl) (tcs_one _ _) ?_)
  clear HDa3
  have HB_3 := Lib.hid (below_ext HB_2.out hq)
  obtain ⟨w3, hw⟩ : ∃ x, (((w2.alloc (.cells #[.slice none 0 0, .int .i64 0, .slice none 0 0] 28)).alloc (.cells #[.int .u8 0, .int .u8 0, .int .u8 0, .int .u8 0, .int .u8 0, .int .u8 0, .int .u8 0, .int .u8 0, .int .u8 0, .int .u8 0, .int .u8 0, .int .u8 0, .int .u8 0, .int .u8 0, .int .u8 0, .int .u8 0, .int .u8 0, .int .u8 0, .int .u8 0, .int .u8 0, .int .u8 0, .int .u8 0, .int .u8 0, .int .u8 0, .int .u8 0, .int .u8 0, .int .u8 0, .int .u8 0, .int .u8 0, .int .u8 0, .int .u8 0, .int .u8 0, .int .i64 0] 56)).setRow (w2.heap.size + 1) (tcs (zer 32) 0)) = x := ⟨_, rfl⟩
  rw [hw] at HQW HQe3 HDe3 HB_3 ⊢
  clear hw hq
  have HB_w3_3 : Hid (Below w3.heap.size w3 w3) := Lib.hid (Below.refl _ _)
  have kS := Lib.hid (show ∀ u : World, Hid (Below w3.heap.size w3 u) → u.cell? ⟨w2.heap.size, 0, none⟩ = some (.slice none 0 0) ∧ u.cell? ⟨w2.heap.size, 1, none⟩ = some (.int .i64 0) ∧ u.cell? ⟨w2.heap.size, 2, none⟩ = some (.slice none 0 0) from fun u hh => ⟨cell_below HQe3.out.cells.1.1 hh.out, cell_below HQe3.out.cells.1.2.1 hh.out, cell_below HQe3.out.cells.1.2.2 hh.out⟩)
  have kS2 := Lib.hid (show ∀ u : World, Hid (Below w3.heap.size w3 u) → Hid (DBlk u (w2.heap.size + 1) (zer 32) 0) from fun u h => Lib.hid (HDe3.out.below h.out))
  obtain ⟨zc0, zc1, zc2⟩ := kC.out _ HB_3
  obtain ⟨kS_0, kS_1, kS_2⟩ := kS.out _ HB_w3_3
  go_wp2_with fail
  refine (same18_any none [] 0 0 0 none [] 0 0 none [] 0 0 0 none [] 0 0 (Lib.hid rfl) (Lib.hid rfl) (Lib.hid rfl) (Lib.hid rfl) (by omega) (by omega) (by omega) (by omega) true (Lib.hid rfl) _ (Lib.hid (sl_nil _)) (Lib.hid (sl_nil _)) (Lib.hid (sl_nil _)) (Lib.hid (sl_nil _))).mono ?_
  rintro e w4 ⟨rfl, hb0⟩
  have HB_4 := Lib.hid (below_ext HB_3.out hb0)
  have HB_w3_4 := Lib.hid (below_ext HB_w3_3.out hb0)
  clear zc0 zc1 zc2 kS_0 kS_1 kS_2
  clear hb0
  obtain ⟨zc0, zc1, zc2⟩ := kC.out _ HB_4
  obtain ⟨kS_0, kS_1, kS_2⟩ := kS.out _ HB_w3_4
  have HNk := kS2.out _ HB_w3_4
  go_upto_region 7 with (first | ((with_reducible show wpList _ _ _ (⟨some 42, _, _, _, _, _⟩ :: _) _ _); refine wpList_load_row_g (by rfl) 56 _ rfl (w2.heap.size + 1) rfl _ _ _ _ HNk.out Tryz.underlying56 rfl (dr_info rfl) ?_) | ((with_reducible show wpList _ _ _ (⟨some 43, _, _, _, _, _⟩ :: _) _ _); refine wpList_built_g (by rfl) 56 _ rfl _ builtD ?_) | ((with_reducible show wpList _ _ _ (⟨some 44, _, _, _, _, _⟩ :: _) _ _); refine wpList_eql_draw (by rfl) _ _ _ rfl (zer 32) (zer 32) rfl rfl 0 0 rfl rfl true (by decide) ?_))
  clear HNk
  go_wp2_with fail
  refine (rvalid_any P Q G true HVG hQ _).mono ?_
  rintro e w5 ⟨rfl, hb0⟩
  have HB_5 := Lib.hid (below_ext HB_4.out hb0)
  have HB_w3_5 := Lib.hid (below_ext HB_w3_4.out hb0)
  clear zc0 zc1 zc2 kS_0 kS_1 kS_2
  clear hb0
  obtain ⟨zc0, zc1, zc2⟩ := kC.out _ HB_5
  obtain ⟨kS_0, kS_1, kS_2⟩ := kS.out _ HB_w3_5
  have HTk := kT.out _ HB_5
  go_wp2_with ((with_reducible show wpList _ _ _ (⟨some 50, _, _, _, _, _⟩ :: _) _ _); refine wpList_load_row_g (by rfl) 56 _ rfl (w.heap.size + 1) rfl _ _ _ _ HTk.out Tryz.underlying56 rfl (dr_info hl.out) ?_)
  refine (rdvalid_any h hl c true hdr _).mono ?_
  rintro e w6 ⟨rfl, hb0⟩
  have HB_6 := Lib.hid (below_ext HB_5.out hb0)
  have HB_w3_6 := Lib.hid (below_ext HB_w3_5.out hb0)
  clear zc0 zc1 zc2 kS_0 kS_1 kS_2
  clear hb0
  obtain ⟨zc0, zc1, zc2⟩ := kC.out _ HB_6
  obtain ⟨kS_0, kS_1, kS_2⟩ := kS.out _ HB_w3_6
  clear HTk
  go_wp2_with fail
  refine (rlabel_any s (by omega) false hr _).mono ?_
  rintro e wz ⟨rfl, rfl⟩
  have hbF := below_ext HBw.out HB_6.out
  go_wp2
  go_ret
  exact ⟨rfl, hbF⟩
set_option maxHeartbeats 25600000 in
theorem ep_a (P Q G a b x : Int) (s : ByteArray) (h : List Int) (c : Int) (hl : Hid (h.length = 32)) (hhb : Hid (bytesB h = true)) (hQ : Q < 9223372036854775808) (hs : s.size ≤ 100) (HVG : Hid (validG P Q G = true)) (r : Int) (hr1 : (r == 1) = false) (hck : Hid (chkG P Q G [a, b] = r)) (hdr : Hid (drB c = true)) (hr : Hid (labB (bys s) = true)) (hne : (r != 0) = true) (hma : Hid (memG P Q a = false)) (w : World) (hv : Hid (Vars w)) (hd : Hid (VarsD w)) :
    Calls Tryz.prog 5 #[gv P Q G, .int .i64 a, .int .i64 b, .int .i64 x, .string s, .agg (tcs h c)] w fun e' w' => e' = .returned (.bool true) ∧ Below w.heap.size w w' := by
  have dl : decide ((100 : Int) < (s.size : Int)) = false := by simp; omega
  obtain ⟨hp2, hp, hq3, hqp⟩ := validG_P HVG.out
  obtain ⟨w0, hW⟩ : ∃ W, ((w.alloc (gObj P Q G)).alloc (.cells (tcs h c) 56)) = W := ⟨_, rfl⟩
  have HBw : Hid (Below w.heap.size w w0) := Lib.hid (by rw [← hW]; exact below_two (Below.refl _ _))
  have hc : w0.cell? ⟨w.heap.size, 0, none⟩ = some (.int .i64 P) ∧ w0.cell? ⟨w.heap.size, 1, none⟩ = some (.int .i64 Q) ∧ w0.cell? ⟨w.heap.size, 2, none⟩ = some (.int .i64 G) := by rw [← hW]; exact ⟨cell_below (allocs_cell (by simp) (by rfl)) (below_box0 _ _), cell_below (allocs_cell (by simp) (by rfl)) (below_box0 _ _), cell_below (allocs_cell (by simp) (by rfl)) (below_box0 _ _)⟩
  have kC := Lib.hid (show ∀ u : World, Hid (Below w0.heap.size w0 u) → u.cell? ⟨w.heap.size, 0, none⟩ = some (.int .i64 P) ∧ u.cell? ⟨w.heap.size, 1, none⟩ = some (.int .i64 Q) ∧ u.cell? ⟨w.heap.size, 2, none⟩ = some (.int .i64 G) from fun u h => ⟨cell_below hc.1 h.out, cell_below hc.2.1 h.out, cell_below hc.2.2 h.out⟩)
  have kV := Lib.hid (show ∀ u : World, Hid (Below w0.heap.size w0 u) → Hid (Vars u) from fun u h => Lib.hid ((hv.out.below) (below_ext HBw.out h.out)))
  have kD := Lib.hid (show ∀ u : World, Hid (Below w0.heap.size w0 u) → Hid (VarsD u) from fun u h => Lib.hid ((hd.out.below) (below_ext HBw.out h.out)))
  have HB_0 : Hid (Below w0.heap.size w0 w0) := Lib.hid (Below.refl _ _)
  have HW := Lib.hid hW
  clear hW hc hv hd
  have HT0 : Hid (DBlk w0 (w.heap.size + 1) h c) := Lib.hid (by rw [← HW.out, show w.heap.size + 1 = (w.alloc (gObj P Q G)).heap.size by simp]; exact heap_alloc_new _ _)
  have kT := Lib.hid (show ∀ u : World, Hid (Below w0.heap.size w0 u) → Hid (DBlk u (w.heap.size + 1) h c) from fun u hh => Lib.hid (HT0.out.below hh.out))
  go_enter Tryz.func5, Tryz.ntmps5
  go_upto_region 1 with (fail)
  rw [HW.out]
  obtain ⟨zc0, zc1, zc2⟩ := kC.out _ HB_0
  go_wp2_with fail
  refine (awake18 _ (kV.out _ HB_0)).mono ?_
  rintro e w1 ⟨rfl, hb0⟩
  have HB_1 := Lib.hid (below_ext HB_0.out hb0)
  clear zc0 zc1 zc2
  clear hb0
  obtain ⟨zc0, zc1, zc2⟩ := kC.out _ HB_1
  have HTk := kT.out _ HB_1
  go_wp2_with ((with_reducible show wpList _ _ _ (⟨some 33, _, _, _, _, _⟩ :: _) _ _); refine wpList_load_row_g (by rfl) 56 _ rfl (w.heap.size + 1) rfl _ _ _ _ HTk.out Tryz.underlying56 rfl (dr_info hl.out) ?_)
  refine (eqp_e P Q G a b x s h c (by omega) hl hQ r hr1 hck hdr hr hne _ (kV.out _ HB_1) (kD.out _ HB_1)).mono ?_
  rintro e w2 ⟨rfl, hb0⟩
  have HB_2 := Lib.hid (below_ext HB_1.out hb0)
  clear zc0 zc1 zc2
  clear hb0 HTk
  rw [show PrvE (.agg #[.slice none 0 0, .int .i64 0, .slice none 0 0]) (zer 32) 0 2 = .tuple #[.agg #[.slice none 0 0, .int .i64 0, .slice none 0 0], .agg (tcs (zer 32) 0), .int .i64 2] from rfl]
  have HDa3 : Hid (DBlk ((w2.alloc (.cells #[.slice none 0 0, .int .i64 0, .slice none 0 0] 28)).alloc (.cells #[.int .u8 0, .int .u8 0, .int .u8 0, .int .u8 0, .int .u8 0, .int .u8 0, .int .u8 0, .int .u8 0, .int .u8 0, .int .u8 0, .int .u8 0, .int .u8 0, .int .u8 0, .int .u8 0, .int .u8 0, .int .u8 0, .int .u8 0, .int .u8 0, .int .u8 0, .int .u8 0, .int .u8 0, .int .u8 0, .int .u8 0, .int .u8 0, .int .u8 0, .int .u8 0, .int .u8 0, .int .u8 0, .int .u8 0, .int .u8 0, .int .u8 0, .int .u8 0, .int .i64 0] 56)) (w2.heap.size + 1) (zer 32) 0) := Lib.hid (by rw [ztr]; exact heap_alloc2_new _ _ _)
  have HQe3 : Hid (QBlk (((w2.alloc (.cells #[.slice none 0 0, .int .i64 0, .slice none 0 0] 28)).alloc (.cells #[.int .u8 0, .int .u8 0, .int .u8 0, .int .u8 0, .int .u8 0, .int .u8 0, .int .u8 0, .int .u8 0, .int .u8 0, .int .u8 0, .int .u8 0, .int .u8 0, .int .u8 0, .int .u8 0, .int .u8 0, .int .u8 0, .int .u8 0, .int .u8 0, .int .u8 0, .int .u8 0, .int .u8 0, .int .u8 0, .int .u8 0, .int .u8 0, .int .u8 0, .int .u8 0, .int .u8 0, .int .u8 0, .int .u8 0, .int .u8 0, .int .u8 0, .int .u8 0, .int .i64 0] 56)).setRow (w2.heap.size + 1) (tcs (zer 32) 0)) w2.heap.size (.slice none 0 0) (.int .i64 0) (.slice none 0 0)) := Lib.hid ((setRow_other _ _ _ _ (by omega)).trans (heap_alloc2_old _ _ _))
  have HDe3 : Hid (DBlk (((w2.alloc (.cells #[.slice none 0 0, .int .i64 0, .slice none 0 0] 28)).alloc (.cells #[.int .u8 0, .int .u8 0, .int .u8 0, .int .u8 0, .int .u8 0, .int .u8 0, .int .u8 0, .int .u8 0, .int .u8 0, .int .u8 0, .int .u8 0, .int .u8 0, .int .u8 0, .int .u8 0, .int .u8 0, .int .u8 0, .int .u8 0, .int .u8 0, .int .u8 0, .int .u8 0, .int .u8 0, .int .u8 0, .int .u8 0, .int .u8 0, .int .u8 0, .int .u8 0, .int .u8 0, .int .u8 0, .int .u8 0, .int .u8 0, .int .u8 0, .int .u8 0, .int .i64 0] 56)).setRow (w2.heap.size + 1) (tcs (zer 32) 0)) (w2.heap.size + 1) (zer 32) 0) := Lib.hid (DBlk.setRow HDa3.out)
  have hq : Below w2.heap.size w2 (((w2.alloc (.cells #[.slice none 0 0, .int .i64 0, .slice none 0 0] 28)).alloc (.cells #[.int .u8 0, .int .u8 0, .int .u8 0, .int .u8 0, .int .u8 0, .int .u8 0, .int .u8 0, .int .u8 0, .int .u8 0, .int .u8 0, .int .u8 0, .int .u8 0, .int .u8 0, .int .u8 0, .int .u8 0, .int .u8 0, .int .u8 0, .int .u8 0, .int .u8 0, .int .u8 0, .int .u8 0, .int .u8 0, .int .u8 0, .int .u8 0, .int .u8 0, .int .u8 0, .int .u8 0, .int .u8 0, .int .u8 0, .int .u8 0, .int .u8 0, .int .u8 0, .int .i64 0] 56)).setRow (w2.heap.size + 1) (tcs (zer 32) 0)) := below_setRow' (below_two (Below.refl _ _)) (Nat.le_succ _)
  have HQW := Lib.hid hq
  go_upto_region 6 with ((with_reducible show wpList _ _ _ (⟨none, _, _, _, _, _⟩ :: _) _ _); refine wpList_store_row rfl 56 _ _ rfl (w2.heap.size + 1) (tcs (zer 32) 0) rfl rfl _ _ HDa3.out (dr_info rfl) (tcs_sz (h := zer 32) (c := 0) rfl rfl) (tcs_one _ _) ?_)
  clear HDa3
  have HB_3 := Lib.hid (below_ext HB_2.out hq)
  obtain ⟨w3, hw⟩ : ∃ x, (((w2.alloc (.cells #[.slice none 0 0, .int .i64 0, .slice none 0 0] 28)).alloc (.cells #[.int .u8 0, .int .u8 0, .int .u8 0, .int .u8 0, .int .u8 0, .int .u8 0, .int .u8 0, .int .u8 0, .int .u8 0, .int .u8 0, .int .u8 0, .int .u8 0, .int .u8 0, .int .u8 0, .int .u8 0, .int .u8 0, .int .u8 0, .int .u8 0, .int .u8 0, .int .u8 0, .int .u8 0, .int .u8 0, .int .u8 0, .int .u8 0, .int .u8 0, .int .u8 0, .int .u8 0, .int .u8 0, .int .u8 0, .int .u8 0, .int .u8 0, .int .u8 0, .int .i64 0] 56)).setRow (w2.heap.size + 1) (tcs (zer 32) 0)) = x := ⟨_, rfl⟩
  rw [hw] at HQW HQe3 HDe3 HB_3 ⊢
  clear hw hq
  have HB_w3_3 : Hid (Below w3.heap.size w3 w3) := Lib.hid (Below.refl _ _)
  have kS := Lib.hid (show ∀ u : World, Hid (Below w3.heap.size w3 u) → u.cell? ⟨w2.heap.size, 0, none⟩ = some (.slice none 0 0) ∧ u.cell? ⟨w2.heap.size, 1, none⟩ = some (.int .i64 0) ∧ u.cell? ⟨w2.heap.size, 2, none⟩ = some (.slice none 0 0) from fun u hh => ⟨cell_below HQe3.out.cells.1.1 hh.out, cell_below HQe3.out.cells.1.2.1 hh.out, cell_below HQe3.out.cells.1.2.2 hh.out⟩)
  have kS2 := Lib.hid (show ∀ u : World, Hid (Below w3.heap.size w3 u) → Hid (DBlk u (w2.heap.size + 1) (zer 32) 0) from fun u h => Lib.hid (HDe3.out.below h.out))
  obtain ⟨zc0, zc1, zc2⟩ := kC.out _ HB_3
  obtain ⟨kS_0, kS_1, kS_2⟩ := kS.out _ HB_w3_3
  go_wp2_with fail
  refine (same18_any none [] 0 0 0 none [] 0 0 none [] 0 0 0 none [] 0 0 (Lib.hid rfl) (Lib.hid rfl) (Lib.hid rfl) (Lib.hid rfl) (by omega) (by omega) (by omega) (by omega) true (Lib.hid rfl) _ (Lib.hid (sl_nil _)) (Lib.hid (sl_nil _)) (Lib.hid (sl_nil _)) (Lib.hid (sl_nil _))).mono ?_
  rintro e w4 ⟨rfl, hb0⟩
  have HB_4 := Lib.hid (below_ext HB_3.out hb0)
  have HB_w3_4 := Lib.hid (below_ext HB_w3_3.out hb0)
  clear zc0 zc1 zc2 kS_0 kS_1 kS_2
  clear hb0
  obtain ⟨zc0, zc1, zc2⟩ := kC.out _ HB_4
  obtain ⟨kS_0, kS_1, kS_2⟩ := kS.out _ HB_w3_4
  have HNk := kS2.out _ HB_w3_4
  go_upto_region 7 with (first | ((with_reducible show wpList _ _ _ (⟨some 42, _, _, _, _, _⟩ :: _) _ _); refine wpList_load_row_g (by rfl) 56 _ rfl (w2.heap.size + 1) rfl _ _ _ _ HNk.out Tryz.underlying56 rfl (dr_info rfl) ?_) | ((with_reducible show wpList _ _ _ (⟨some 43, _, _, _, _, _⟩ :: _) _ _); refine wpList_built_g (by rfl) 56 _ rfl _ builtD ?_) | ((with_reducible show wpList _ _ _ (⟨some 44, _, _, _, _, _⟩ :: _) _ _); refine wpList_eql_draw (by rfl) _ _ _ rfl (zer 32) (zer 32) rfl rfl 0 0 rfl rfl true (by decide) ?_))
  clear HNk
  go_wp2_with fail
  refine (rvalid_any P Q G true HVG hQ _).mono ?_
  rintro e w5 ⟨rfl, hb0⟩
  have HB_5 := Lib.hid (below_ext HB_4.out hb0)
  have HB_w3_5 := Lib.hid (below_ext HB_w3_4.out hb0)
  clear zc0 zc1 zc2 kS_0 kS_1 kS_2
  clear hb0
  obtain ⟨zc0, zc1, zc2⟩ := kC.out _ HB_5
  obtain ⟨kS_0, kS_1, kS_2⟩ := kS.out _ HB_w3_5
  have HTk := kT.out _ HB_5
  go_wp2_with ((with_reducible show wpList _ _ _ (⟨some 50, _, _, _, _, _⟩ :: _) _ _); refine wpList_load_row_g (by rfl) 56 _ rfl (w.heap.size + 1) rfl _ _ _ _ HTk.out Tryz.underlying56 rfl (dr_info hl.out) ?_)
  refine (rdvalid_any h hl c true hdr _).mono ?_
  rintro e w6 ⟨rfl, hb0⟩
  have HB_6 := Lib.hid (below_ext HB_5.out hb0)
  have HB_w3_6 := Lib.hid (below_ext HB_w3_5.out hb0)
  clear zc0 zc1 zc2 kS_0 kS_1 kS_2
  clear hb0
  obtain ⟨zc0, zc1, zc2⟩ := kC.out _ HB_6
  obtain ⟨kS_0, kS_1, kS_2⟩ := kS.out _ HB_w3_6
  clear HTk
  go_wp2_with fail
  refine (rlabel_any s (by omega) true hr _).mono ?_
  rintro e wz ⟨rfl, rfl⟩
  go_wp2_with fail
  refine (rmember_any P Q G a false hma hp (by omega) hQ _).mono ?_
  rintro e w7 ⟨rfl, hb0⟩
  have HB_7 := Lib.hid (below_ext HB_6.out hb0)
  have HB_w3_7 := Lib.hid (below_ext HB_w3_6.out hb0)
  clear zc0 zc1 zc2 kS_0 kS_1 kS_2
  clear hb0
  obtain ⟨zc0, zc1, zc2⟩ := kC.out _ HB_7
  obtain ⟨kS_0, kS_1, kS_2⟩ := kS.out _ HB_w3_7
  have hbF := below_ext HBw.out HB_7.out
  go_wp2
  go_ret
  exact ⟨rfl, hbF⟩
set_option maxHeartbeats 25600000 in
theorem ep_b (P Q G a b x : Int) (s : ByteArray) (h : List Int) (c : Int) (hl : Hid (h.length = 32)) (hhb : Hid (bytesB h = true)) (hQ : Q < 9223372036854775808) (hs : s.size ≤ 100) (HVG : Hid (validG P Q G = true)) (r : Int) (hr1 : (r == 1) = false) (hck : Hid (chkG P Q G [a, b] = r)) (hdr : Hid (drB c = true)) (hr : Hid (labB (bys s) = true)) (hne : (r != 0) = true) (hma : Hid (memG P Q a = true)) (hmb : Hid (memG P Q b = false)) (w : World) (hv : Hid (Vars w)) (hd : Hid (VarsD w)) :
    Calls Tryz.prog 5 #[gv P Q G, .int .i64 a, .int .i64 b, .int .i64 x, .string s, .agg (tcs h c)] w fun e' w' => e' = .returned (.bool true) ∧ Below w.heap.size w w' := by
  have dl : decide ((100 : Int) < (s.size : Int)) = false := by simp; omega
  obtain ⟨hp2, hp, hq3, hqp⟩ := validG_P HVG.out
  obtain ⟨w0, hW⟩ : ∃ W, ((w.alloc (gObj P Q G)).alloc (.cells (tcs h c) 56)) = W := ⟨_, rfl⟩
  have HBw : Hid (Below w.heap.size w w0) := Lib.hid (by rw [← hW]; exact below_two (Below.refl _ _))
  have hc : w0.cell? ⟨w.heap.size, 0, none⟩ = some (.int .i64 P) ∧ w0.cell? ⟨w.heap.size, 1, none⟩ = some (.int .i64 Q) ∧ w0.cell? ⟨w.heap.size, 2, none⟩ = some (.int .i64 G) := by rw [← hW]; exact ⟨cell_below (allocs_cell (by simp) (by rfl)) (below_box0 _ _), cell_below (allocs_cell (by simp) (by rfl)) (below_box0 _ _), cell_below (allocs_cell (by simp) (by rfl)) (below_box0 _ _)⟩
  have kC := Lib.hid (show ∀ u : World, Hid (Below w0.heap.size w0 u) → u.cell? ⟨w.heap.size, 0, none⟩ = some (.int .i64 P) ∧ u.cell? ⟨w.heap.size, 1, none⟩ = some (.int .i64 Q) ∧ u.cell? ⟨w.heap.size, 2, none⟩ = some (.int .i64 G) from fun u h => ⟨cell_below hc.1 h.out, cell_below hc.2.1 h.out, cell_below hc.2.2 h.out⟩)
  have kV := Lib.hid (show ∀ u : World, Hid (Below w0.heap.size w0 u) → Hid (Vars u) from fun u h => Lib.hid ((hv.out.below) (below_ext HBw.out h.out)))
  have kD := Lib.hid (show ∀ u : World, Hid (Below w0.heap.size w0 u) → Hid (VarsD u) from fun u h => Lib.hid ((hd.out.below) (below_ext HBw.out h.out)))
  have HB_0 : Hid (Below w0.heap.size w0 w0) := Lib.hid (Below.refl _ _)
  have HW := Lib.hid hW
  clear hW hc hv hd
  have HT0 : Hid (DBlk w0 (w.heap.size + 1) h c) := Lib.hid (by rw [← HW.out, show w.heap.size + 1 = (w.alloc (gObj P Q G)).heap.size by simp]; exact heap_alloc_new _ _)
  have kT := Lib.hid (show ∀ u : World, Hid (Below w0.heap.size w0 u) → Hid (DBlk u (w.heap.size + 1) h c) from fun u hh => Lib.hid (HT0.out.below hh.out))
  go_enter Tryz.func5, Tryz.ntmps5
  go_upto_region 1 with (fail)
  rw [HW.out]
  obtain ⟨zc0, zc1, zc2⟩ := kC.out _ HB_0
  go_wp2_with fail
  refine (awake18 _ (kV.out _ HB_0)).mono ?_
  rintro e w1 ⟨rfl, hb0⟩
  have HB_1 := Lib.hid (below_ext HB_0.out hb0)
  clear zc0 zc1 zc2
  clear hb0
  obtain ⟨zc0, zc1, zc2⟩ := kC.out _ HB_1
  have HTk := kT.out _ HB_1
  go_wp2_with ((with_reducible show wpList _ _ _ (⟨some 33, _, _, _, _, _⟩ :: _) _ _); refine wpList_load_row_g (by rfl) 56 _ rfl (w.heap.size + 1) rfl _ _ _ _ HTk.out Tryz.underlying56 rfl (dr_info hl.out) ?_)
  refine (eqp_e P Q G a b x s h c (by omega) hl hQ r hr1 hck hdr hr hne _ (kV.out _ HB_1) (kD.out _ HB_1)).mono ?_
  rintro e w2 ⟨rfl, hb0⟩
  have HB_2 := Lib.hid (below_ext HB_1.out hb0)
  clear zc0 zc1 zc2
  clear hb0 HTk
  rw [show PrvE (.agg #[.slice none 0 0, .int .i64 0, .slice none 0 0]) (zer 32) 0 2 = .tuple #[.agg #[.slice none 0 0, .int .i64 0, .slice none 0 0], .agg (tcs (zer 32) 0), .int .i64 2] from rfl]
  have HDa3 : Hid (DBlk ((w2.alloc (.cells #[.slice none 0 0, .int .i64 0, .slice none 0 0] 28)).alloc (.cells #[.int .u8 0, .int .u8 0, .int .u8 0, .int .u8 0, .int .u8 0, .int .u8 0, .int .u8 0, .int .u8 0, .int .u8 0, .int .u8 0, .int .u8 0, .int .u8 0, .int .u8 0, .int .u8 0, .int .u8 0, .int .u8 0, .int .u8 0, .int .u8 0, .int .u8 0, .int .u8 0, .int .u8 0, .int .u8 0, .int .u8 0, .int .u8 0, .int .u8 0, .int .u8 0, .int .u8 0, .int .u8 0, .int .u8 0, .int .u8 0, .int .u8 0, .int .u8 0, .int .i64 0] 56)) (w2.heap.size + 1) (zer 32) 0) := Lib.hid (by rw [ztr]; exact heap_alloc2_new _ _ _)
  have HQe3 : Hid (QBlk (((w2.alloc (.cells #[.slice none 0 0, .int .i64 0, .slice none 0 0] 28)).alloc (.cells #[.int .u8 0, .int .u8 0, .int .u8 0, .int .u8 0, .int .u8 0, .int .u8 0, .int .u8 0, .int .u8 0, .int .u8 0, .int .u8 0, .int .u8 0, .int .u8 0, .int .u8 0, .int .u8 0, .int .u8 0, .int .u8 0, .int .u8 0, .int .u8 0, .int .u8 0, .int .u8 0, .int .u8 0, .int .u8 0, .int .u8 0, .int .u8 0, .int .u8 0, .int .u8 0, .int .u8 0, .int .u8 0, .int .u8 0, .int .u8 0, .int .u8 0, .int .u8 0, .int .i64 0] 56)).setRow (w2.heap.size + 1) (tcs (zer 32) 0)) w2.heap.size (.slice none 0 0) (.int .i64 0) (.slice none 0 0)) := Lib.hid ((setRow_other _ _ _ _ (by omega)).trans (heap_alloc2_old _ _ _))
  have HDe3 : Hid (DBlk (((w2.alloc (.cells #[.slice none 0 0, .int .i64 0, .slice none 0 0] 28)).alloc (.cells #[.int .u8 0, .int .u8 0, .int .u8 0, .int .u8 0, .int .u8 0, .int .u8 0, .int .u8 0, .int .u8 0, .int .u8 0, .int .u8 0, .int .u8 0, .int .u8 0, .int .u8 0, .int .u8 0, .int .u8 0, .int .u8 0, .int .u8 0, .int .u8 0, .int .u8 0, .int .u8 0, .int .u8 0, .int .u8 0, .int .u8 0, .int .u8 0, .int .u8 0, .int .u8 0, .int .u8 0, .int .u8 0, .int .u8 0, .int .u8 0, .int .u8 0, .int .u8 0, .int .i64 0] 56)).setRow (w2.heap.size + 1) (tcs (zer 32) 0)) (w2.heap.size + 1) (zer 32) 0) := Lib.hid (DBlk.setRow HDa3.out)
  have hq : Below w2.heap.size w2 (((w2.alloc (.cells #[.slice none 0 0, .int .i64 0, .slice none 0 0] 28)).alloc (.cells #[.int .u8 0, .int .u8 0, .int .u8 0, .int .u8 0, .int .u8 0, .int .u8 0, .int .u8 0, .int .u8 0, .int .u8 0, .int .u8 0, .int .u8 0, .int .u8 0, .int .u8 0, .int .u8 0, .int .u8 0, .int .u8 0, .int .u8 0, .int .u8 0, .int .u8 0, .int .u8 0, .int .u8 0, .int .u8 0, .int .u8 0, .int .u8 0, .int .u8 0, .int .u8 0, .int .u8 0, .int .u8 0, .int .u8 0, .int .u8 0, .int .u8 0, .int .u8 0, .int .i64 0] 56)).setRow (w2.heap.size + 1) (tcs (zer 32) 0)) := below_setRow' (below_two (Below.refl _ _)) (Nat.le_succ _)
  have HQW := Lib.hid hq
  go_upto_region 6 with ((with_reducible show wpList _ _ _ (⟨none, _, _, _, _, _⟩ :: _) _ _); refine wpList_store_row rfl 56 _ _ rfl (w2.heap.size + 1) (tcs (zer 32) 0) rfl rfl _ _ HDa3.out (dr_info rfl) (tcs_sz (h := zer 32) (c := 0) rfl rfl) (tcs_one _ _) ?_)
  clear HDa3
  have HB_3 := Lib.hid (below_ext HB_2.out hq)
  obtain ⟨w3, hw⟩ : ∃ x, (((w2.alloc (.cells #[.slice none 0 0, .int .i64 0, .slice none 0 0] 28)).alloc (.cells #[.int .u8 0, .int .u8 0, .int .u8 0, .int .u8 0, .int .u8 0, .int .u8 0, .int .u8 0, .int .u8 0, .int .u8 0, .int .u8 0, .int .u8 0, .int .u8 0, .int .u8 0, .int .u8 0, .int .u8 0, .int .u8 0, .int .u8 0, .int .u8 0, .int .u8 0, .int .u8 0, .int .u8 0, .int .u8 0, .int .u8 0, .int .u8 0, .int .u8 0, .int .u8 0, .int .u8 0, .int .u8 0, .int .u8 0, .int .u8 0, .int .u8 0, .int .u8 0, .int .i64 0] 56)).setRow (w2.heap.size + 1) (tcs (zer 32) 0)) = x := ⟨_, rfl⟩
  rw [hw] at HQW HQe3 HDe3 HB_3 ⊢
  clear hw hq
  have HB_w3_3 : Hid (Below w3.heap.size w3 w3) := Lib.hid (Below.refl _ _)
  have kS := Lib.hid (show ∀ u : World, Hid (Below w3.heap.size w3 u) → u.cell? ⟨w2.heap.size, 0, none⟩ = some (.slice none 0 0) ∧ u.cell? ⟨w2.heap.size, 1, none⟩ = some (.int .i64 0) ∧ u.cell? ⟨w2.heap.size, 2, none⟩ = some (.slice none 0 0) from fun u hh => ⟨cell_below HQe3.out.cells.1.1 hh.out, cell_below HQe3.out.cells.1.2.1 hh.out, cell_below HQe3.out.cells.1.2.2 hh.out⟩)
  have kS2 := Lib.hid (show ∀ u : World, Hid (Below w3.heap.size w3 u) → Hid (DBlk u (w2.heap.size + 1) (zer 32) 0) from fun u h => Lib.hid (HDe3.out.below h.out))
  obtain ⟨zc0, zc1, zc2⟩ := kC.out _ HB_3
  obtain ⟨kS_0, kS_1, kS_2⟩ := kS.out _ HB_w3_3
  go_wp2_with fail
  refine (same18_any none [] 0 0 0 none [] 0 0 none [] 0 0 0 none [] 0 0 (Lib.hid rfl) (Lib.hid rfl) (Lib.hid rfl) (Lib.hid rfl) (by omega) (by omega) (by omega) (by omega) true (Lib.hid rfl) _ (Lib.hid (sl_nil _)) (Lib.hid (sl_nil _)) (Lib.hid (sl_nil _)) (Lib.hid (sl_nil _))).mono ?_
  rintro e w4 ⟨rfl, hb0⟩
  have HB_4 := Lib.hid (below_ext HB_3.out hb0)
  have HB_w3_4 := Lib.hid (below_ext HB_w3_3.out hb0)
  clear zc0 zc1 zc2 kS_0 kS_1 kS_2
  clear hb0
  obtain ⟨zc0, zc1, zc2⟩ := kC.out _ HB_4
  obtain ⟨kS_0, kS_1, kS_2⟩ := kS.out _ HB_w3_4
  have HNk := kS2.out _ HB_w3_4
  go_upto_region 7 with (first | ((with_reducible show wpList _ _ _ (⟨some 42, _, _, _, _, _⟩ :: _) _ _); refine wpList_load_row_g (by rfl) 56 _ rfl (w2.heap.size + 1) rfl _ _ _ _ HNk.out Tryz.underlying56 rfl (dr_info rfl) ?_) | ((with_reducible show wpList _ _ _ (⟨some 43, _, _, _, _, _⟩ :: _) _ _); refine wpList_built_g (by rfl) 56 _ rfl _ builtD ?_) | ((with_reducible show wpList _ _ _ (⟨some 44, _, _, _, _, _⟩ :: _) _ _); refine wpList_eql_draw (by rfl) _ _ _ rfl (zer 32) (zer 32) rfl rfl 0 0 rfl rfl true (by decide) ?_))
  clear HNk
  go_wp2_with fail
  refine (rvalid_any P Q G true HVG hQ _).mono ?_
  rintro e w5 ⟨rfl, hb0⟩
  have HB_5 := Lib.hid (below_ext HB_4.out hb0)
  have HB_w3_5 := Lib.hid (below_ext HB_w3_4.out hb0)
  clear zc0 zc1 zc2 kS_0 kS_1 kS_2
  clear hb0
  obtain ⟨zc0, zc1, zc2⟩ := kC.out _ HB_5
  obtain ⟨kS_0, kS_1, kS_2⟩ := kS.out _ HB_w3_5
  have HTk := kT.out _ HB_5
  go_wp2_with ((with_reducible show wpList _ _ _ (⟨some 50, _, _, _, _, _⟩ :: _) _ _); refine wpList_load_row_g (by rfl) 56 _ rfl (w.heap.size + 1) rfl _ _ _ _ HTk.out Tryz.underlying56 rfl (dr_info hl.out) ?_)
  refine (rdvalid_any h hl c true hdr _).mono ?_
  rintro e w6 ⟨rfl, hb0⟩
  have HB_6 := Lib.hid (below_ext HB_5.out hb0)
  have HB_w3_6 := Lib.hid (below_ext HB_w3_5.out hb0)
  clear zc0 zc1 zc2 kS_0 kS_1 kS_2
  clear hb0
  obtain ⟨zc0, zc1, zc2⟩ := kC.out _ HB_6
  obtain ⟨kS_0, kS_1, kS_2⟩ := kS.out _ HB_w3_6
  clear HTk
  go_wp2_with fail
  refine (rlabel_any s (by omega) true hr _).mono ?_
  rintro e wz ⟨rfl, rfl⟩
  go_wp2_with fail
  refine (rmember_any P Q G a true hma hp (by omega) hQ _).mono ?_
  rintro e w7 ⟨rfl, hb0⟩
  have HB_7 := Lib.hid (below_ext HB_6.out hb0)
  have HB_w3_7 := Lib.hid (below_ext HB_w3_6.out hb0)
  clear zc0 zc1 zc2 kS_0 kS_1 kS_2
  clear hb0
  obtain ⟨zc0, zc1, zc2⟩ := kC.out _ HB_7
  obtain ⟨kS_0, kS_1, kS_2⟩ := kS.out _ HB_w3_7
  go_wp2_with fail
  refine (rmember_any P Q G b false hmb hp (by omega) hQ _).mono ?_
  rintro e w8 ⟨rfl, hb0⟩
  have HB_8 := Lib.hid (below_ext HB_7.out hb0)
  have HB_w3_8 := Lib.hid (below_ext HB_w3_7.out hb0)
  clear zc0 zc1 zc2 kS_0 kS_1 kS_2
  clear hb0
  obtain ⟨zc0, zc1, zc2⟩ := kC.out _ HB_8
  obtain ⟨kS_0, kS_1, kS_2⟩ := kS.out _ HB_w3_8
  have hbF := below_ext HBw.out HB_8.out
  go_wp2
  go_ret
  exact ⟨rfl, hbF⟩
set_option maxHeartbeats 25600000 in
theorem ep_x (P Q G a b x : Int) (s : ByteArray) (h : List Int) (c : Int) (hl : Hid (h.length = 32)) (hhb : Hid (bytesB h = true)) (hQ : Q < 9223372036854775808) (hs : s.size ≤ 100) (HVG : Hid (validG P Q G = true)) (r : Int) (hr1 : (r == 1) = false) (hck : Hid (chkG P Q G [a, b] = r)) (hdr : Hid (drB c = true)) (hr : Hid (labB (bys s) = true)) (hz : r = 0) (hma : Hid (memG P Q a = true)) (hmb : Hid (memG P Q b = true)) (hx : ¬ (0 ≤ x ∧ x < Q)) (hsc : Hid (scB Q x = false)) (w : World) (hv : Hid (Vars w)) (hd : Hid (VarsD w)) :
    Calls Tryz.prog 5 #[gv P Q G, .int .i64 a, .int .i64 b, .int .i64 x, .string s, .agg (tcs h c)] w fun e' w' => e' = .returned (.bool true) ∧ Below w.heap.size w w' := by
  have dl : decide ((100 : Int) < (s.size : Int)) = false := by simp; omega
  obtain ⟨hp2, hp, hq3, hqp⟩ := validG_P HVG.out
  obtain ⟨w0, hW⟩ : ∃ W, ((w.alloc (gObj P Q G)).alloc (.cells (tcs h c) 56)) = W := ⟨_, rfl⟩
  have HBw : Hid (Below w.heap.size w w0) := Lib.hid (by rw [← hW]; exact below_two (Below.refl _ _))
  have hc : w0.cell? ⟨w.heap.size, 0, none⟩ = some (.int .i64 P) ∧ w0.cell? ⟨w.heap.size, 1, none⟩ = some (.int .i64 Q) ∧ w0.cell? ⟨w.heap.size, 2, none⟩ = some (.int .i64 G) := by rw [← hW]; exact ⟨cell_below (allocs_cell (by simp) (by rfl)) (below_box0 _ _), cell_below (allocs_cell (by simp) (by rfl)) (below_box0 _ _), cell_below (allocs_cell (by simp) (by rfl)) (below_box0 _ _)⟩
  have kC := Lib.hid (show ∀ u : World, Hid (Below w0.heap.size w0 u) → u.cell? ⟨w.heap.size, 0, none⟩ = some (.int .i64 P) ∧ u.cell? ⟨w.heap.size, 1, none⟩ = some (.int .i64 Q) ∧ u.cell? ⟨w.heap.size, 2, none⟩ = some (.int .i64 G) from fun u h => ⟨cell_below hc.1 h.out, cell_below hc.2.1 h.out, cell_below hc.2.2 h.out⟩)
  have kV := Lib.hid (show ∀ u : World, Hid (Below w0.heap.size w0 u) → Hid (Vars u) from fun u h => Lib.hid ((hv.out.below) (below_ext HBw.out h.out)))
  have kD := Lib.hid (show ∀ u : World, Hid (Below w0.heap.size w0 u) → Hid (VarsD u) from fun u h => Lib.hid ((hd.out.below) (below_ext HBw.out h.out)))
  have HB_0 : Hid (Below w0.heap.size w0 w0) := Lib.hid (Below.refl _ _)
  have HW := Lib.hid hW
  clear hW hc hv hd
  have HT0 : Hid (DBlk w0 (w.heap.size + 1) h c) := Lib.hid (by rw [← HW.out, show w.heap.size + 1 = (w.alloc (gObj P Q G)).heap.size by simp]; exact heap_alloc_new _ _)
  have kT := Lib.hid (show ∀ u : World, Hid (Below w0.heap.size w0 u) → Hid (DBlk u (w.heap.size + 1) h c) from fun u hh => Lib.hid (HT0.out.below hh.out))
  go_enter Tryz.func5, Tryz.ntmps5
  go_upto_region 1 with (fail)
  rw [HW.out]
  obtain ⟨zc0, zc1, zc2⟩ := kC.out _ HB_0
  go_wp2_with fail
  refine (awake18 _ (kV.out _ HB_0)).mono ?_
  rintro e w1 ⟨rfl, hb0⟩
  have HB_1 := Lib.hid (below_ext HB_0.out hb0)
  clear zc0 zc1 zc2
  clear hb0
  obtain ⟨zc0, zc1, zc2⟩ := kC.out _ HB_1
  have HTk := kT.out _ HB_1
  go_wp2_with ((with_reducible show wpList _ _ _ (⟨some 33, _, _, _, _, _⟩ :: _) _ _); refine wpList_load_row_g (by rfl) 56 _ rfl (w.heap.size + 1) rfl _ _ _ _ HTk.out Tryz.underlying56 rfl (dr_info hl.out) ?_)
  refine (eqp_x P Q G a b x s h c (by omega) hl hQ r hr1 hck hdr hr hz hx _ (kV.out _ HB_1) (kD.out _ HB_1)).mono ?_
  rintro e w2 ⟨rfl, hb0⟩
  have HB_2 := Lib.hid (below_ext HB_1.out hb0)
  clear zc0 zc1 zc2
  clear hb0 HTk
  rw [show PrvE (.agg #[.slice none 0 0, .int .i64 0, .slice none 0 0]) (zer 32) 0 2 = .tuple #[.agg #[.slice none 0 0, .int .i64 0, .slice none 0 0], .agg (tcs (zer 32) 0), .int .i64 2] from rfl]
  have HDa3 : Hid (DBlk ((w2.alloc (.cells #[.slice none 0 0, .int .i64 0, .slice none 0 0] 28)).alloc (.cells #[.int .u8 0, .int .u8 0, .int .u8 0, .int .u8 0, .int .u8 0, .int .u8 0, .int .u8 0, .int .u8 0, .int .u8 0, .int .u8 0, .int .u8 0, .int .u8 0, .int .u8 0, .int .u8 0, .int .u8 0, .int .u8 0, .int .u8 0, .int .u8 0, .int .u8 0, .int .u8 0, .int .u8 0, .int .u8 0, .int .u8 0, .int .u8 0, .int .u8 0, .int .u8 0, .int .u8 0, .int .u8 0, .int .u8 0, .int .u8 0, .int .u8 0, .int .u8 0, .int .i64 0] 56)) (w2.heap.size + 1) (zer 32) 0) := Lib.hid (by rw [ztr]; exact heap_alloc2_new _ _ _)
  have HQe3 : Hid (QBlk (((w2.alloc (.cells #[.slice none 0 0, .int .i64 0, .slice none 0 0] 28)).alloc (.cells #[.int .u8 0, .int .u8 0, .int .u8 0, .int .u8 0, .int .u8 0, .int .u8 0, .int .u8 0, .int .u8 0, .int .u8 0, .int .u8 0, .int .u8 0, .int .u8 0, .int .u8 0, .int .u8 0, .int .u8 0, .int .u8 0, .int .u8 0, .int .u8 0, .int .u8 0, .int .u8 0, .int .u8 0, .int .u8 0, .int .u8 0, .int .u8 0, .int .u8 0, .int .u8 0, .int .u8 0, .int .u8 0, .int .u8 0, .int .u8 0, .int .u8 0, .int .u8 0, .int .i64 0] 56)).setRow (w2.heap.size + 1) (tcs (zer 32) 0)) w2.heap.size (.slice none 0 0) (.int .i64 0) (.slice none 0 0)) := Lib.hid ((setRow_other _ _ _ _ (by omega)).trans (heap_alloc2_old _ _ _))
  have HDe3 : Hid (DBlk (((w2.alloc (.cells #[.slice none 0 0, .int .i64 0, .slice none 0 0] 28)).alloc (.cells #[.int .u8 0, .int .u8 0, .int .u8 0, .int .u8 0, .int .u8 0, .int .u8 0, .int .u8 0, .int .u8 0, .int .u8 0, .int .u8 0, .int .u8 0, .int .u8 0, .int .u8 0, .int .u8 0, .int .u8 0, .int .u8 0, .int .u8 0, .int .u8 0, .int .u8 0, .int .u8 0, .int .u8 0, .int .u8 0, .int .u8 0, .int .u8 0, .int .u8 0, .int .u8 0, .int .u8 0, .int .u8 0, .int .u8 0, .int .u8 0, .int .u8 0, .int .u8 0, .int .i64 0] 56)).setRow (w2.heap.size + 1) (tcs (zer 32) 0)) (w2.heap.size + 1) (zer 32) 0) := Lib.hid (DBlk.setRow HDa3.out)
  have hq : Below w2.heap.size w2 (((w2.alloc (.cells #[.slice none 0 0, .int .i64 0, .slice none 0 0] 28)).alloc (.cells #[.int .u8 0, .int .u8 0, .int .u8 0, .int .u8 0, .int .u8 0, .int .u8 0, .int .u8 0, .int .u8 0, .int .u8 0, .int .u8 0, .int .u8 0, .int .u8 0, .int .u8 0, .int .u8 0, .int .u8 0, .int .u8 0, .int .u8 0, .int .u8 0, .int .u8 0, .int .u8 0, .int .u8 0, .int .u8 0, .int .u8 0, .int .u8 0, .int .u8 0, .int .u8 0, .int .u8 0, .int .u8 0, .int .u8 0, .int .u8 0, .int .u8 0, .int .u8 0, .int .i64 0] 56)).setRow (w2.heap.size + 1) (tcs (zer 32) 0)) := below_setRow' (below_two (Below.refl _ _)) (Nat.le_succ _)
  have HQW := Lib.hid hq
  go_upto_region 6 with ((with_reducible show wpList _ _ _ (⟨none, _, _, _, _, _⟩ :: _) _ _); refine wpList_store_row rfl 56 _ _ rfl (w2.heap.size + 1) (tcs (zer 32) 0) rfl rfl _ _ HDa3.out (dr_info rfl) (tcs_sz (h := zer 32) (c := 0) rfl rfl) (tcs_one _ _) ?_)
  clear HDa3
  have HB_3 := Lib.hid (below_ext HB_2.out hq)
  obtain ⟨w3, hw⟩ : ∃ x, (((w2.alloc (.cells #[.slice none 0 0, .int .i64 0, .slice none 0 0] 28)).alloc (.cells #[.int .u8 0, .int .u8 0, .int .u8 0, .int .u8 0, .int .u8 0, .int .u8 0, .int .u8 0, .int .u8 0, .int .u8 0, .int .u8 0, .int .u8 0, .int .u8 0, .int .u8 0, .int .u8 0, .int .u8 0, .int .u8 0, .int .u8 0, .int .u8 0, .int .u8 0, .int .u8 0, .int .u8 0, .int .u8 0, .int .u8 0, .int .u8 0, .int .u8 0, .int .u8 0, .int .u8 0, .int .u8 0, .int .u8 0, .int .u8 0, .int .u8 0, .int .u8 0, .int .i64 0] 56)).setRow (w2.heap.size + 1) (tcs (zer 32) 0)) = x := ⟨_, rfl⟩
  rw [hw] at HQW HQe3 HDe3 HB_3 ⊢
  clear hw hq
  have HB_w3_3 : Hid (Below w3.heap.size w3 w3) := Lib.hid (Below.refl _ _)
  have kS := Lib.hid (show ∀ u : World, Hid (Below w3.heap.size w3 u) → u.cell? ⟨w2.heap.size, 0, none⟩ = some (.slice none 0 0) ∧ u.cell? ⟨w2.heap.size, 1, none⟩ = some (.int .i64 0) ∧ u.cell? ⟨w2.heap.size, 2, none⟩ = some (.slice none 0 0) from fun u hh => ⟨cell_below HQe3.out.cells.1.1 hh.out, cell_below HQe3.out.cells.1.2.1 hh.out, cell_below HQe3.out.cells.1.2.2 hh.out⟩)
  have kS2 := Lib.hid (show ∀ u : World, Hid (Below w3.heap.size w3 u) → Hid (DBlk u (w2.heap.size + 1) (zer 32) 0) from fun u h => Lib.hid (HDe3.out.below h.out))
  obtain ⟨zc0, zc1, zc2⟩ := kC.out _ HB_3
  obtain ⟨kS_0, kS_1, kS_2⟩ := kS.out _ HB_w3_3
  go_wp2_with fail
  refine (same18_any none [] 0 0 0 none [] 0 0 none [] 0 0 0 none [] 0 0 (Lib.hid rfl) (Lib.hid rfl) (Lib.hid rfl) (Lib.hid rfl) (by omega) (by omega) (by omega) (by omega) true (Lib.hid rfl) _ (Lib.hid (sl_nil _)) (Lib.hid (sl_nil _)) (Lib.hid (sl_nil _)) (Lib.hid (sl_nil _))).mono ?_
  rintro e w4 ⟨rfl, hb0⟩
  have HB_4 := Lib.hid (below_ext HB_3.out hb0)
  have HB_w3_4 := Lib.hid (below_ext HB_w3_3.out hb0)
  clear zc0 zc1 zc2 kS_0 kS_1 kS_2
  clear hb0
  obtain ⟨zc0, zc1, zc2⟩ := kC.out _ HB_4
  obtain ⟨kS_0, kS_1, kS_2⟩ := kS.out _ HB_w3_4
  have HNk := kS2.out _ HB_w3_4
  go_upto_region 7 with (first | ((with_reducible show wpList _ _ _ (⟨some 42, _, _, _, _, _⟩ :: _) _ _); refine wpList_load_row_g (by rfl) 56 _ rfl (w2.heap.size + 1) rfl _ _ _ _ HNk.out Tryz.underlying56 rfl (dr_info rfl) ?_) | ((with_reducible show wpList _ _ _ (⟨some 43, _, _, _, _, _⟩ :: _) _ _); refine wpList_built_g (by rfl) 56 _ rfl _ builtD ?_) | ((with_reducible show wpList _ _ _ (⟨some 44, _, _, _, _, _⟩ :: _) _ _); refine wpList_eql_draw (by rfl) _ _ _ rfl (zer 32) (zer 32) rfl rfl 0 0 rfl rfl true (by decide) ?_))
  clear HNk
  go_wp2_with fail
  refine (rvalid_any P Q G true HVG hQ _).mono ?_
  rintro e w5 ⟨rfl, hb0⟩
  have HB_5 := Lib.hid (below_ext HB_4.out hb0)
  have HB_w3_5 := Lib.hid (below_ext HB_w3_4.out hb0)
  clear zc0 zc1 zc2 kS_0 kS_1 kS_2
  clear hb0
  obtain ⟨zc0, zc1, zc2⟩ := kC.out _ HB_5
  obtain ⟨kS_0, kS_1, kS_2⟩ := kS.out _ HB_w3_5
  have HTk := kT.out _ HB_5
  go_wp2_with ((with_reducible show wpList _ _ _ (⟨some 50, _, _, _, _, _⟩ :: _) _ _); refine wpList_load_row_g (by rfl) 56 _ rfl (w.heap.size + 1) rfl _ _ _ _ HTk.out Tryz.underlying56 rfl (dr_info hl.out) ?_)
  refine (rdvalid_any h hl c true hdr _).mono ?_
  rintro e w6 ⟨rfl, hb0⟩
  have HB_6 := Lib.hid (below_ext HB_5.out hb0)
  have HB_w3_6 := Lib.hid (below_ext HB_w3_5.out hb0)
  clear zc0 zc1 zc2 kS_0 kS_1 kS_2
  clear hb0
  obtain ⟨zc0, zc1, zc2⟩ := kC.out _ HB_6
  obtain ⟨kS_0, kS_1, kS_2⟩ := kS.out _ HB_w3_6
  clear HTk
  go_wp2_with fail
  refine (rlabel_any s (by omega) true hr _).mono ?_
  rintro e wz ⟨rfl, rfl⟩
  go_wp2_with fail
  refine (rmember_any P Q G a true hma hp (by omega) hQ _).mono ?_
  rintro e w7 ⟨rfl, hb0⟩
  have HB_7 := Lib.hid (below_ext HB_6.out hb0)
  have HB_w3_7 := Lib.hid (below_ext HB_w3_6.out hb0)
  clear zc0 zc1 zc2 kS_0 kS_1 kS_2
  clear hb0
  obtain ⟨zc0, zc1, zc2⟩ := kC.out _ HB_7
  obtain ⟨kS_0, kS_1, kS_2⟩ := kS.out _ HB_w3_7
  go_wp2_with fail
  refine (rmember_any P Q G b true hmb hp (by omega) hQ _).mono ?_
  rintro e w8 ⟨rfl, hb0⟩
  have HB_8 := Lib.hid (below_ext HB_7.out hb0)
  have HB_w3_8 := Lib.hid (below_ext HB_w3_7.out hb0)
  clear zc0 zc1 zc2 kS_0 kS_1 kS_2
  clear hb0
  obtain ⟨zc0, zc1, zc2⟩ := kC.out _ HB_8
  obtain ⟨kS_0, kS_1, kS_2⟩ := kS.out _ HB_w3_8
  go_wp2_with fail
  refine (scalar18_any P Q G x false hsc _).mono ?_
  rintro e w9 ⟨rfl, hb0⟩
  have HB_9 := Lib.hid (below_ext HB_8.out hb0)
  have HB_w3_9 := Lib.hid (below_ext HB_w3_8.out hb0)
  clear zc0 zc1 zc2 kS_0 kS_1 kS_2
  clear hb0
  obtain ⟨zc0, zc1, zc2⟩ := kC.out _ HB_9
  obtain ⟨kS_0, kS_1, kS_2⟩ := kS.out _ HB_w3_9
  have hbF := below_ext HBw.out HB_9.out
  go_wp2
  go_ret
  exact ⟨rfl, hbF⟩
end Go.Proofs.YtdlhodbiaoafiaaGreatDoor
namespace Go.Proofs.YtdlhodbiaoafiaaGreatDoor
open Go
section
variable {P : Program} {ops : Array Oper} {Q : Exit → Act → World → Prop} {md : Region.Mode} {S : World → Prop} {E : List Nat}
theorem wpT_three {i1 i2 i3 : Nat} {o1 o2 o3 : Oper} {fuel : Nat} {listed : Array Bool} {a : Act} {w : World} (hr : Region.ready md ops listed = [i1, i2, i3]) (ho1 : ops[i1]? = some o1) (ho2 : ops[i2]? = some o2) (ho3 : ops[i3]? = some o3)
    (h1 : ∀ K' : Act → World → Prop, Shut (∀ a w, S w → (S w → wpT P md ops Q S E fuel (listed.setIfInBounds i1 true) a w) → K' a w) → if Region.wanted o1 (yielded ops a.tmps) = true then Oper.wp P o1 a w K' Q else K' (a.put o1.dst undef) w)
    (h2 : ∀ K' : Act → World → Prop, Shut (∀ a w, S w → (S w → wpT P md ops Q S E fuel (listed.setIfInBounds i2 true) a w) → K' a w) → if Region.wanted o2 (yielded ops a.tmps) = true then Oper.wp P o2 a w K' Q else K' (a.put o2.dst undef) w)
    (h3 : ∀ K' : Act → World → Prop, Shut (∀ a w, S w → (S w → wpT P md ops Q S E fuel (listed.setIfInBounds i3 true) a w) → K' a w) → if Region.wanted o3 (yielded ops a.tmps) = true then Oper.wp P o3 a w K' Q else K' (a.put o3.dst undef) w) :
    wpT P md ops Q S E (fuel + 1) listed a w :=
  ⟨fun h0 => absurd (hr ▸ h0) (by simp), fun j hj => by
    rw [hr] at hj
    rcases (by simpa using hj : j = i1 ∨ j = i2 ∨ j = i3) with rfl | rfl | rfl
    · exact wpOp_step ho1 (fun K' hK => h1 K' (fun a w hS hW => hK a w ⟨fun _ => hS, hW hS⟩))
    · exact wpOp_step ho2 (fun K' hK => h2 K' (fun a w hS hW => hK a w ⟨fun _ => hS, hW hS⟩))
    · exact wpOp_step ho3 (fun K' hK => h3 K' (fun a w hS hW => hK a w ⟨fun _ => hS, hW hS⟩))⟩
theorem wpT_four {i1 i2 i3 i4 : Nat} {o1 o2 o3 o4 : Oper} {fuel : Nat} {listed : Array Bool} {a : Act} {w : World} (hr : Region.ready md ops listed = [i1, i2, i3, i4]) (ho1 : ops[i1]? = some o1) (ho2 : ops[i2]? = some o2) (ho3 : ops[i3]? = some o3) (ho4 : ops[i4]? = some o4)
    (h1 : ∀ K' : Act → World → Prop, Shut (∀ a w, S w → (S w → wpT P md ops Q S E fuel (listed.setIfInBounds i1 true) a w) → K' a w) → if Region.wanted o1 (yielded ops a.tmps) = true then Oper.wp P o1 a w K' Q else K' (a.put o1.dst undef) w)
    (h2 : ∀ K' : Act → World → Prop, Shut (∀ a w, S w → (S w → wpT P md ops Q S E fuel (listed.setIfInBounds i2 true) a w) → K' a w) → if Region.wanted o2 (yielded ops a.tmps) = true then Oper.wp P o2 a w K' Q else K' (a.put o2.dst undef) w)
    (h3 : ∀ K' : Act → World → Prop, Shut (∀ a w, S w → (S w → wpT P md ops Q S E fuel (listed.setIfInBounds i3 true) a w) → K' a w) → if Region.wanted o3 (yielded ops a.tmps) = true then Oper.wp P o3 a w K' Q else K' (a.put o3.dst undef) w)
    (h4 : ∀ K' : Act → World → Prop, Shut (∀ a w, S w → (S w → wpT P md ops Q S E fuel (listed.setIfInBounds i4 true) a w) → K' a w) → if Region.wanted o4 (yielded ops a.tmps) = true then Oper.wp P o4 a w K' Q else K' (a.put o4.dst undef) w) :
    wpT P md ops Q S E (fuel + 1) listed a w :=
  ⟨fun h0 => absurd (hr ▸ h0) (by simp), fun j hj => by
    rw [hr] at hj
    rcases (by simpa using hj : j = i1 ∨ j = i2 ∨ j = i3 ∨ j = i4) with rfl | rfl | rfl | rfl
    · exact wpOp_step ho1 (fun K' hK => h1 K' (fun a w hS hW => hK a w ⟨fun _ => hS, hW hS⟩))
    · exact wpOp_step ho2 (fun K' hK => h2 K' (fun a w hS hW => hK a w ⟨fun _ => hS, hW hS⟩))
    · exact wpOp_step ho3 (fun K' hK => h3 K' (fun a w hS hW => hK a w ⟨fun _ => hS, hW hS⟩))
    · exact wpOp_step ho4 (fun K' hK => h4 K' (fun a w hS hW => hK a w ⟨fun _ => hS, hW hS⟩))⟩
/-- The region's own state, named: lemmas over it can be said within a proof. -/
theorem wpT_frame {fuel : Nat} {listed : Array Bool} {a : Act} {w : World} (h : ∀ (T : Nat → Array Bool → Act → World → Prop) (a0 : Act), T = wpT P md ops Q S E → a0 = a → T fuel listed a0 w) : wpT P md ops Q S E fuel listed a w := h _ _ rfl rfl
end
end Go.Proofs.YtdlhodbiaoafiaaGreatDoor
