/- Contracts and lemmas: EqO, LmA. -/
import Derived.Test.YtdlhodbiaoafiaaGreatDoorEs8
namespace Go.Proofs.YtdlhodbiaoafiaaGreatDoor
open Go.RowKit SpM
set_option linter.unusedVariables false
set_option linter.unusedSimpArgs false
set_option maxRecDepth 100000
theorem lists_lt {w : World} {gA gZ : Nat} {AL ZL : List Int} (hA : Sl w (some ⟨gA, 0, none⟩) AL) (hZ : Sl w (some ⟨gZ, 0, none⟩) ZL) (nA : AL.length = 2) (nZ : ZL.length = 1) : w.heap.size ≠ gA ∧ w.heap.size ≠ gZ := by
  obtain ⟨b1, o1, e1, h1⟩ := hA 0 (by omega)
  obtain ⟨b2, o2, e2, h2⟩ := hZ 0 (by omega)
  cases e1
  cases e2
  have l1 := World.block_lt_of_cell? _ _ h1
  have l2 := World.block_lt_of_cell? _ _ h2
  exact ⟨fun e => by simp at l1; omega, fun e => by simp at l2; omega⟩
theorem chal_same {P Q G a b : Int} {lb ys ks : List Int} {V : Int} (A1 B1 : Option Addr) (h : chalV P Q G lb ys (eqRows A1 B1 a b) ((eqRows A1 B1 a b).map fun r => prodF P 1 r.xs ks) = V) : chalV P Q G lb ys (eqRows none none a b) ((eqRows none none a b).map fun r => prodF P 1 r.xs ks) = V := h
set_option maxHeartbeats 25600000 in
theorem ep_f (P Q G a b x : Int) (s : ByteArray) (h : List Int) (c : Int) (hl : Hid (h.length = 32)) (hhb : Hid (bytesB h = true)) (hQ : Q < 9223372036854775808) (hs : s.size ≤ 100) (hck : Hid (chkG P Q G [a, b] = 0)) (hdr : Hid (drB c = true)) (hr : Hid (labB (bys s) = true)) (x0 : 0 ≤ x) (x1 : x < Q) (ya yb : Int) (hya : Hid (pw a (x % Q) P = ya)) (hyb : Hid (pw b (x % Q) P = yb)) (HST : Hid ((stD h Q c 1).2 = true)) (w : World) (hv : Hid (Vars w)) (hd : Hid (VarsD w)) :
    Calls Tryz.prog 5 #[gv P Q G, .int .i64 a, .int .i64 b, .int .i64 x, .string s, .agg (tcs h c)] w fun e' w' => e' = .returned (.bool true) ∧ Below w.heap.size w w' := by
  have dl : decide ((100 : Int) < (s.size : Int)) = false := by simp; omega
  obtain ⟨hho, hcr, hcy⟩ := eq_holds hck.out x0 x1 hya.out hyb.out
  obtain ⟨hvg, hmm⟩ := chkG_zero hck.out
  simp only [List.all_cons, List.all_nil, Bool.and_true, Bool.and_eq_true] at hmm
  obtain ⟨hp2, hp, hq3, hqp⟩ := validG_P hvg
  have la := memG_lo hmm.1
  have ua := memG_hi hmm.1
  have lb := memG_lo hmm.2
  have ub := memG_hi hmm.2
  have HVG := Lib.hid hvg
  have hma := Lib.hid hmm.1
  have hmb := Lib.hid hmm.2
  have hsc : Hid (scB Q x = true) := Lib.hid (by simp [scB]; omega)
  have HHO := Lib.hid hho
  have HCR := Lib.hid hcr
  have HCY := Lib.hid hcy
  clear hho hcr hcy hvg hmm
  have hs9 : s.size ≤ 1000 := by omega
  have n1b : (1 : Nat) < 1000000 := by decide
  obtain ⟨w0, hW⟩ : ∃ W, ((w.alloc (gObj P Q G)).alloc (.cells (tcs h c) 56)) = W := ⟨_, rfl⟩
  have HBw : Hid (Below w.heap.size w w0) := Lib.hid (by rw [← hW]; exact below_two (Below.refl _ _))
  have hc : w0.cell? ⟨w.heap.size, 0, none⟩ = some (.int .i64 P) ∧ w0.cell? ⟨w.heap.size, 1, none⟩ = some (.int .i64 Q) ∧ w0.cell? ⟨w.heap.size, 2, none⟩ = some (.int .i64 G) := by rw [← hW]; exact ⟨cell_below (allocs_cell (by simp) (by rfl)) (below_box0 _ _), cell_below (allocs_cell (by simp) (by rfl)) (below_box0 _ _), cell_below (allocs_cell (by simp) (by rfl)) (below_box0 _ _)⟩
  have kC := Lib.hid (show ∀ u : World, Hid (Below w0.heap.size w0 u) → u.cell? ⟨w.heap.size, 0, none⟩ = some (.int .i64 P) ∧ u.cell? ⟨w.heap.size, 1, none⟩ = some (.int .i64 Q) ∧ u.cell? ⟨w.heap.size, 2, none⟩ = some (.int .i64 G) from fun u h => ⟨cell_below hc.1 h.out, cell_below hc.2.1 h.out, cell_below hc.2.2 h.out⟩)
  have kV := Lib.hid (show ∀ u : World, Hid (Below w0.heap.size w0 u) → Hid (Vars u) from fun u h => Lib.hid ((hv.out.below) (below_ext HBw.out h.out)))
  have kD := Lib.hid (show ∀ u : World, Hid (Below w0.heap.size w0 u) → Hid (VarsD u) from fun u h => Lib.hid ((hd.out.below) (below_ext HBw.out h.out)))
  have HB_0 : Hid (Below w0.heap.size w0 w0) := Lib.hid (Below.refl _ _)
  have HW := Lib.hid hW
  clear hW hc hv hd
  have HT0 : Hid (DBlk w0 (w.heap.size + 1) h c) := Lib.hid (by rw [← HW.out, show w.heap.size + 1 = (w.alloc (gObj P Q G)).heap.size by simp]; exact heap_alloc_new _ _)
  have kT := Lib.hid (show ∀ u : World, Hid (Below w0.heap.size w0 u) → Hid (DBlk u (w.heap.size + 1) h c) from fun u hh => Lib.hid (HT0.out.below hh.out))
  go_enter Tryz.func5, Tryz.ntmps5
  go_upto_region 1 with (fail)
  rw [HW.out]
  obtain ⟨zc0, zc1, zc2⟩ := kC.out _ HB_0
  go_wp2_with fail
  refine (awake18 _ (kV.out _ HB_0)).mono ?_
  rintro e w1 ⟨rfl, hb0⟩
  have HB_1 := Lib.hid (below_ext HB_0.out hb0)
  clear zc0 zc1 zc2
  clear hb0
  obtain ⟨zc0, zc1, zc2⟩ := kC.out _ HB_1
  have HTk := kT.out _ HB_1
  go_wp2_with ((with_reducible show wpList _ _ _ (⟨some 33, _, _, _, _, _⟩ :: _) _ _); refine wpList_load_row_g (by rfl) 56 _ rfl (w.heap.size + 1) rfl _ _ _ _ HTk.out Tryz.underlying56 rfl (dr_info hl.out) ?_)
  refine (eqp_f P Q G a b x s h c (by omega) hl hQ hck hhb hdr hr x0 x1 ya yb hya hyb HST _ (kV.out _ HB_1) (kD.out _ HB_1)).mono ?_
  rintro e w2 ⟨rfl, hb0⟩
  have HB_2 := Lib.hid (below_ext HB_1.out hb0)
  clear zc0 zc1 zc2
  clear hb0 HTk
  rw [show PrvE (.agg #[.slice none 0 0, .int .i64 0, .slice none 0 0]) (zer 32) 0 5 = .tuple #[.agg #[.slice none 0 0, .int .i64 0, .slice none 0 0], .agg (tcs (zer 32) 0), .int .i64 5] from rfl]
  have HDa3 : Hid (DBlk ((w2.alloc (.cells #[.slice none 0 0, .int .i64 0, .slice none 0 0] 28)).alloc (.cells #[.int .u8 0, .int .u8 0, .int .u8 0, .int .u8 0, .int .u8 0, .int .u8 0, .int .u8 0, .int .u8 0, .int .u8 0, .int .u8 0, .int .u8 0, .int .u8 0, .int .u8 0, .int .u8 0, .int .u8 0, .int .u8 0, .int .u8 0, .int .u8 0, .int .u8 0, .int .u8 0, .int .u8 0, .int .u8 0, .int .u8 0, .int .u8 0, .int .u8 0, .int .u8 0, .int .u8 0, .int .u8 0, .int .u8 0, .int .u8 0, .int .u8 0, .int .u8 0, .int .i64 0] 56)) (w2.heap.size + 1) (zer 32) 0) := Lib.hid (by rw [ztr]; exact heap_alloc2_new _ _ _)
  have HQe3 : Hid (QBlk (((w2.alloc (.cells #[.slice none 0 0, .int .i64 0, .slice none 0 0] 28)).alloc (.cells #[.int .u8 0, .int .u8 0, .int .u8 0, .int .u8 0, .int .u8 0, .int .u8 0, .int .u8 0, .int .u8 0, .int .u8 0, .int .u8 0, .int .u8 0, .int .u8 0, .int .u8 0, .int .u8 0, .int .u8 0, .int .u8 0, .int .u8 0, .int .u8 0, .int .u8 0, .int .u8 0, .int .u8 0, .int .u8 0, .int .u8 0, .int .u8 0, .int .u8 0, .int .u8 0, .int .u8 0, .int .u8 0, .int .u8 0, .int .u8 0, .int .u8 0, .int .u8 0, .int .i64 0] 56)).setRow (w2.heap.size + 1) (tcs (zer 32) 0)) w2.heap.size (.slice none 0 0) (.int .i64 0) (.slice none 0 0)) := Lib.hid ((setRow_other _ _ _ _ (by omega)).trans (heap_alloc2_old _ _ _))
  have HDe3 : Hid (DBlk (((w2.alloc (.cells #[.slice none 0 0, .int .i64 0, .slice none 0 0] 28)).alloc (.cells #[.int .u8 0, .int .u8 0, .int .u8 0, .int .u8 0, .int .u8 0, .int .u8 0, .int .u8 0, .int .u8 0, .int .u8 0, .int .u8 0, .int .u8 0, .int .u8 0, .int .u8 0, .int .u8 0, .int .u8 0, .int .u8 0, .int .u8 0, .int .u8 0, .int .u8 0, .int .u8 0, .int .u8 0, .int .u8 0, .int .u8 0, .int .u8 0, .int .u8 0, .int .u8 0, .int .u8 0, .int .u8 0, .int .u8 0, .int .u8 0, .int .u8 0, .int .u8 0, .int .i64 0] 56)).setRow (w2.heap.size + 1) (tcs (zer 32) 0)) (w2.heap.size + 1) (zer 32) 0) := Lib.hid (DBlk.setRow HDa3.out)
  have hq : Below w2.heap.size w2 (((w2.alloc (.cells #[.slice none 0 0, .int .i64 0, .slice none 0 0] 28)).alloc (.cells #[.int .u8 0, .int .u8 0, .int .u8 0, .int .u8 0, .int .u8 0, .int .u8 0, .int .u8 0, .int .u8 0, .int .u8 0, .int .u8 0, .int .u8 0, .int .u8 0, .int .u8 0, .int .u8 0, .int .u8 0, .int .u8 0, .int .u8 0, .int .u8 0, .int .u8 0, .int .u8 0, .int .u8 0, .int .u8 0, .int .u8 0, .int .u8 0, .int .u8 0, .int .u8 0, .int .u8 0, .int .u8 0, .int .u8 0, .int .u8 0, .int .u8 0, .int .u8 0, .int .i64 0] 56)).setRow (w2.heap.size + 1) (tcs (zer 32) 0)) := below_setRow' (below_two (Below.refl _ _)) (Nat.le_succ _)
  have HQW := Lib.hid hq
  go_upto_region 6 with ((with_reducible show wpList _ _ _ (⟨none, _, _, _, _, _⟩ :: _) _ _); refine wpList_store_row rfl 56 _ _ rfl (w2.heap.size + 1) (tcs (zer 32) 0) rfl rfl _ _ HDa3.out (dr_info rfl) (tcs_sz (h := zer 32) (c := 0) rfl rfl) (tcs_one _ _) ?_)
  clear HDa3
  have HB_3 := Lib.hid (below_ext HB_2.out hq)
  obtain ⟨w3, hw⟩ : ∃ x, (((w2.alloc (.cells #[.slice none 0 0, .int .i64 0, .slice none 0 0] 28)).alloc (.cells #[.int .u8 0, .int .u8 0, .int .u8 0, .int .u8 0, .int .u8 0, .int .u8 0, .int .u8 0, .int .u8 0, .int .u8 0, .int .u8 0, .int .u8 0, .int .u8 0, .int .u8 0, .int .u8 0, .int .u8 0, .int .u8 0, .int .u8 0, .int .u8 0, .int .u8 0, .int .u8 0, .int .u8 0, .int .u8 0, .int .u8 0, .int .u8 0, .int .u8 0, .int .u8 0, .int .u8 0, .int .u8 0, .int .u8 0, .int .u8 0, .int .u8 0, .int .u8 0, .int .i64 0] 56)).setRow (w2.heap.size + 1) (tcs (zer 32) 0)) = x := ⟨_, rfl⟩
  rw [hw] at HQW HQe3 HDe3 HB_3 ⊢
  clear hw hq
  have HB_w3_3 : Hid (Below w3.heap.size w3 w3) := Lib.hid (Below.refl _ _)
  have kS := Lib.hid (show ∀ u : World, Hid (Below w3.heap.size w3 u) → u.cell? ⟨w2.heap.size, 0, none⟩ = some (.slice none 0 0) ∧ u.cell? ⟨w2.heap.size, 1, none⟩ = some (.int .i64 0) ∧ u.cell? ⟨w2.heap.size, 2, none⟩ = some (.slice none 0 0) from fun u hh => ⟨cell_below HQe3.out.cells.1.1 hh.out, cell_below HQe3.out.cells.1.2.1 hh.out, cell_below HQe3.out.cells.1.2.2 hh.out⟩)
  have kS2 := Lib.hid (show ∀ u : World, Hid (Below w3.heap.size w3 u) → Hid (DBlk u (w2.heap.size + 1) (zer 32) 0) from fun u h => Lib.hid (HDe3.out.below h.out))
  obtain ⟨zc0, zc1, zc2⟩ := kC.out _ HB_3
  obtain ⟨kS_0, kS_1, kS_2⟩ := kS.out _ HB_w3_3
  go_wp2_with fail
  refine (same18_any none [] 0 0 0 none [] 0 0 none [] 0 0 0 none [] 0 0 (Lib.hid rfl) (Lib.hid rfl) (Lib.hid rfl) (Lib.hid rfl) (by omega) (by omega) (by omega) (by omega) true (Lib.hid rfl) _ (Lib.hid (sl_nil _)) (Lib.hid (sl_nil _)) (Lib.hid (sl_nil _)) (Lib.hid (sl_nil _))).mono ?_
  rintro e w4 ⟨rfl, hb0⟩
  have HB_4 := Lib.hid (below_ext HB_3.out hb0)
  have HB_w3_4 := Lib.hid (below_ext HB_w3_3.out hb0)
  clear zc0 zc1 zc2 kS_0 kS_1 kS_2
  clear hb0
  obtain ⟨zc0, zc1, zc2⟩ := kC.out _ HB_4
  obtain ⟨kS_0, kS_1, kS_2⟩ := kS.out _ HB_w3_4
  have HNk := kS2.out _ HB_w3_4
  go_upto_region 7 with (first | ((with_reducible show wpList _ _ _ (⟨some 42, _, _, _, _, _⟩ :: _) _ _); refine wpList_load_row_g (by rfl) 56 _ rfl (w2.heap.size + 1) rfl _ _ _ _ HNk.out Tryz.underlying56 rfl (dr_info rfl) ?_) | ((with_reducible show wpList _ _ _ (⟨some 43, _, _, _, _, _⟩ :: _) _ _); refine wpList_built_g (by rfl) 56 _ rfl _ builtD ?_) | ((with_reducible show wpList _ _ _ (⟨some 44, _, _, _, _, _⟩ :: _) _ _); refine wpList_eql_draw (by rfl) _ _ _ rfl (zer 32) (zer 32) rfl rfl 0 0 rfl rfl true (by decide) ?_))
  clear HNk
  go_wp2_with fail
  refine (rvalid_any P Q G true HVG hQ _).mono ?_
  rintro e w5 ⟨rfl, hb0⟩
  have HB_5 := Lib.hid (below_ext HB_4.out hb0)
  have HB_w3_5 := Lib.hid (below_ext HB_w3_4.out hb0)
  clear zc0 zc1 zc2 kS_0 kS_1 kS_2
  clear hb0
  obtain ⟨zc0, zc1, zc2⟩ := kC.out _ HB_5
  obtain ⟨kS_0, kS_1, kS_2⟩ := kS.out _ HB_w3_5
  have HTk := kT.out _ HB_5
  go_wp2_with ((with_reducible show wpList _ _ _ (⟨some 50, _, _, _, _, _⟩ :: _) _ _); refine wpList_load_row_g (by rfl) 56 _ rfl (w.heap.size + 1) rfl _ _ _ _ HTk.out Tryz.underlying56 rfl (dr_info hl.out) ?_)
  refine (rdvalid_any h hl c true hdr _).mono ?_
  rintro e w6 ⟨rfl, hb0⟩
  have HB_6 := Lib.hid (below_ext HB_5.out hb0)
  have HB_w3_6 := Lib.hid (below_ext HB_w3_5.out hb0)
  clear zc0 zc1 zc2 kS_0 kS_1 kS_2
  clear hb0
  obtain ⟨zc0, zc1, zc2⟩ := kC.out _ HB_6
  obtain ⟨kS_0, kS_1, kS_2⟩ := kS.out _ HB_w3_6
  clear HTk
  go_wp2_with fail
  refine (rlabel_any s (by omega) true hr _).mono ?_
  rintro e wz ⟨rfl, rfl⟩
  go_wp2_with fail
  refine (rmember_any P Q G a true hma hp (by omega) hQ _).mono ?_
  rintro e w7 ⟨rfl, hb0⟩
  have HB_7 := Lib.hid (below_ext HB_6.out hb0)
  have HB_w3_7 := Lib.hid (below_ext HB_w3_6.out hb0)
  clear zc0 zc1 zc2 kS_0 kS_1 kS_2
  clear hb0
  obtain ⟨zc0, zc1, zc2⟩ := kC.out _ HB_7
  obtain ⟨kS_0, kS_1, kS_2⟩ := kS.out _ HB_w3_7
  go_wp2_with fail
  refine (rmember_any P Q G b true hmb hp (by omega) hQ _).mono ?_
  rintro e w8 ⟨rfl, hb0⟩
  have HB_8 := Lib.hid (below_ext HB_7.out hb0)
  have HB_w3_8 := Lib.hid (below_ext HB_w3_7.out hb0)
  clear zc0 zc1 zc2 kS_0 kS_1 kS_2
  clear hb0
  obtain ⟨zc0, zc1, zc2⟩ := kC.out _ HB_8
  obtain ⟨kS_0, kS_1, kS_2⟩ := kS.out _ HB_w3_8
  go_wp2_with fail
  refine (scalar18_any P Q G x true hsc _).mono ?_
  rintro e w9 ⟨rfl, hb0⟩
  have HB_9 := Lib.hid (below_ext HB_8.out hb0)
  have HB_w3_9 := Lib.hid (below_ext HB_w3_8.out hb0)
  clear zc0 zc1 zc2 kS_0 kS_1 kS_2
  clear hb0
  obtain ⟨zc0, zc1, zc2⟩ := kC.out _ HB_9
  obtain ⟨kS_0, kS_1, kS_2⟩ := kS.out _ HB_w3_9
  go_wp2_with fail
  clear zc0 zc1 zc2 kS_0 kS_1 kS_2
  have hS10 := Lib.hid (show ∀ u1 u2 : World, (Hid (Below w0.heap.size w0 u1) ∧ Hid (Below w3.heap.size w3 u1)) → Below u1.heap.size u1 u2 → (u2.cell? ⟨w.heap.size, 0, none⟩ = some (.int .i64 P) ∧ u2.cell? ⟨w.heap.size, 1, none⟩ = some (.int .i64 Q) ∧ u2.cell? ⟨w.heap.size, 2, none⟩ = some (.int .i64 G) ∧ u2.cell? ⟨w2.heap.size, 0, none⟩ = some (.slice none 0 0) ∧ u2.cell? ⟨w2.heap.size, 1, none⟩ = some (.int .i64 0) ∧ u2.cell? ⟨w2.heap.size, 2, none⟩ = some (.slice none 0 0) ∧ Hid (Below w0.heap.size w0 u2) ∧ Hid (Below w3.heap.size w3 u2)) from fun u1 u2 h1 h2 => by
    obtain ⟨q0, q1⟩ := h1
    have r0 := Lib.hid (below_ext q0.out h2)
    have r1 := Lib.hid (below_ext q1.out h2)
    obtain ⟨y0, y1, y2⟩ := kC.out _ r0
    obtain ⟨kS_0, kS_1, kS_2⟩ := kS.out _ r1
    exact ⟨y0, y1, y2, kS_0, kS_1, kS_2, r0, r1⟩)
  have HR10 := Lib.hid (show Hid (Below w0.heap.size w0 w9) ∧ Hid (Below w3.heap.size w3 w9) from ⟨HB_9, HB_w3_9⟩)
  go_region_held3 (fun w' => w'.cell? ⟨w.heap.size, 0, none⟩ = some (.int .i64 P) ∧ w'.cell? ⟨w.heap.size, 1, none⟩ = some (.int .i64 Q) ∧ w'.cell? ⟨w.heap.size, 2, none⟩ = some (.int .i64 G) ∧ w'.cell? ⟨w2.heap.size, 0, none⟩ = some (.slice none 0 0) ∧ w'.cell? ⟨w2.heap.size, 1, none⟩ = some (.int .i64 0) ∧ w'.cell? ⟨w2.heap.size, 2, none⟩ = some (.slice none 0 0) ∧ Hid (Below w0.heap.size w0 w') ∧ Hid (Below w3.heap.size w3 w'))
    (first | exact hS10.out _ _ HR10.out ((Below.refl _ _).drew) | (exact hS10.out _ _ (by go_split_ands; exact ⟨(by assumption), (by assumption)⟩) hbA) | go_keep)
    ((first
      | (go_at_call 30; (with_reducible refine (rpower_any P Q G a x ya hya (by omega) hp (by omega) (by omega) (by omega) ua (by omega) (by omega) _).mono ?_); rintro e wA ⟨rfl, hbA⟩)
      | (go_at_call 30; (with_reducible refine (rpower_any P Q G b x yb hyb (by omega) hp (by omega) (by omega) (by omega) ub (by omega) (by omega) _).mono ?_); rintro e wA ⟨rfl, hbA⟩)))
  rename_i hHeld
  obtain ⟨x0, x1, x2, x3, x4, x5, HN10_0, HN10_1⟩ := hHeld
  clear hS10 HR10 x0 x1 x2 x3 x4 x5
  obtain ⟨zc0, zc1, zc2⟩ := kC.out _ HN10_0
  obtain ⟨kS_0, kS_1, kS_2⟩ := kS.out _ HN10_1
  go_wp2_with fail
  clear zc0 zc1 zc2 kS_0 kS_1 kS_2
  have HB_wA_10 : Hid (Below wA.heap.size wA wA) := Lib.hid (Below.refl _ _)
  have HSZ_w0 : Hid (w0.heap.size ≤ wA.heap.size) := Lib.hid (HN10_0.out.size)
  have HSZ_w3 : Hid (w3.heap.size ≤ wA.heap.size) := Lib.hid (HN10_1.out.size)
  have HSZ_wA : Hid (wA.heap.size ≤ wA.heap.size) := Lib.hid (HB_wA_10.out.size)
  have hBx := Lib.hid (show ∀ u u2 : World, Hid (Below w0.heap.size w0 u ∧ Below w3.heap.size w3 u ∧ Below wA.heap.size wA u) → Below u.heap.size u u2 → Hid (Below w0.heap.size w0 u2 ∧ Below w3.heap.size w3 u2 ∧ Below wA.heap.size wA u2) from fun u u2 h1 h2 => Lib.hid ⟨below_ext h1.out.1 h2, below_ext h1.out.2.1 h2, below_ext h1.out.2.2 h2⟩)
  have hS := Lib.hid (show ∀ u : World, Hid (Below w0.heap.size w0 u ∧ Below w3.heap.size w3 u ∧ Below wA.heap.size wA u) → (u.cell? ⟨w.heap.size, 0, none⟩ = some (.int .i64 P) ∧ u.cell? ⟨w.heap.size, 1, none⟩ = some (.int .i64 Q) ∧ u.cell? ⟨w.heap.size, 2, none⟩ = some (.int .i64 G) ∧ u.heap[w.heap.size + 1]? = some (.cells (tcs h c) 56 (0, 0))) from fun u h1 => by
    have r0 := Lib.hid h1.out.1
    obtain ⟨y0, y1, y2⟩ := kC.out _ r0
    exact ⟨y0, y1, y2, (kT.out _ r0).out⟩)
  have HBA : Hid (Below w0.heap.size w0 wA ∧ Below w3.heap.size w3 wA ∧ Below wA.heap.size wA wA) := Lib.hid ⟨HN10_0.out, HN10_1.out, HB_wA_10.out⟩
  have HBD := hBx.out _ _ HBA (Below.refl _ _).drew
  refine wp_region_T (S := fun w' => w'.cell? ⟨w.heap.size, 0, none⟩ = some (.int .i64 P) ∧ w'.cell? ⟨w.heap.size, 1, none⟩ = some (.int .i64 Q) ∧ w'.cell? ⟨w.heap.size, 2, none⟩ = some (.int .i64 G) ∧ w'.heap[w.heap.size + 1]? = some (.cells (tcs h c) 56 (0, 0))) (E := []) (by kernel_rfl) (hS.out _ HBD) (fun hHeld => ?_)
  obtain ⟨wD, hwD⟩ : ∃ u, wA.drew = u := ⟨_, rfl⟩
  rw [hwD] at HBD hHeld ⊢
  clear hwD
  refine wpT_take (i := 0) (oi := _) (v := ?_) rfl (by kernel_rfl) (by kernel_rfl) (by kernel_rfl) (by kernel_rfl) (fun _ _ _ h => h) (Or.inl ⟨by rfl, ?_⟩) (by assumption) ?_
  rotate_left; (intro wS hSw; (try dsimp only at hSw); go_simp <;> with_reducible rfl)
  try simp only [List.getElem_toArray, List.getElem_cons_zero, List.getElem_cons_succ, Act.put, List.setIfInBounds_toArray, List.set_cons_zero, List.set_cons_succ]
  refine wpT_take (i := 1) (oi := _) (v := ?_) rfl (by kernel_rfl) (by kernel_rfl) (by kernel_rfl) (by kernel_rfl) (fun _ _ _ h => h) (Or.inl ⟨by rfl, ?_⟩) (by assumption) ?_
  rotate_left; (intro wS hSw; (try dsimp only at hSw); go_simp <;> with_reducible rfl)
  try simp only [List.getElem_toArray, List.getElem_cons_zero, List.getElem_cons_succ, Act.put, List.setIfInBounds_toArray, List.set_cons_zero, List.set_cons_succ]
  refine wpT_take (i := 2) (oi := _) (v := ?_) rfl (by kernel_rfl) (by kernel_rfl) (by kernel_rfl) (by kernel_rfl) (fun _ _ _ h => h) (Or.inl ⟨by rfl, ?_⟩) (by assumption) ?_
  rotate_left; (intro wS hSw; (try dsimp only at hSw); go_simp <;> with_reducible rfl)
  try simp only [List.getElem_toArray, List.getElem_cons_zero, List.getElem_cons_succ, Act.put, List.setIfInBounds_toArray, List.set_cons_zero, List.set_cons_succ]
  refine wpT_take (i := 3) (oi := _) (v := ?_) rfl (by kernel_rfl) (by kernel_rfl) (by kernel_rfl) (by kernel_rfl) (fun _ _ _ h => h) (Or.inl ⟨by rfl, ?_⟩) (by assumption) ?_
  rotate_left; (intro wS hSw; (try dsimp only at hSw); go_simp <;> with_reducible rfl)
  try simp only [List.getElem_toArray, List.getElem_cons_zero, List.getElem_cons_succ, Act.put, List.setIfInBounds_toArray, List.set_cons_zero, List.set_cons_succ]
  refine wpT_take (i := 4) (oi := _) (v := ?_) rfl (by kernel_rfl) (by kernel_rfl) (by kernel_rfl) (by kernel_rfl) (fun _ _ _ h => h) (Or.inl ⟨by rfl, ?_⟩) (by assumption) ?_
  rotate_left; (intro wS hSw; (try dsimp only at hSw); go_simp <;> with_reducible rfl)
  try simp only [List.getElem_toArray, List.getElem_cons_zero, List.getElem_cons_succ, Act.put, List.setIfInBounds_toArray, List.set_cons_zero, List.set_cons_succ]
  refine wpT_take (i := 6) (oi := _) (v := ?_) rfl (by kernel_rfl) (by kernel_rfl) (by kernel_rfl) (by kernel_rfl) (fun _ _ _ h => h) (Or.inl ⟨by rfl, ?_⟩) (by assumption) ?_
  rotate_left; (intro wS hSw; (try dsimp only at hSw); go_simp <;> with_reducible rfl)
  try simp only [List.getElem_toArray, List.getElem_cons_zero, List.getElem_cons_succ, Act.put, List.setIfInBounds_toArray, List.set_cons_zero, List.set_cons_succ]
  refine wpT_take (i := 8) (oi := _) (v := ?_) rfl (by kernel_rfl) (by kernel_rfl) (by kernel_rfl) (by kernel_rfl) (fun _ _ _ h => h) (Or.inl ⟨by rfl, ?_⟩) (by assumption) ?_
  rotate_left; (intro wS hSw; (try dsimp only at hSw); go_simp <;> with_reducible rfl)
  try simp only [List.getElem_toArray, List.getElem_cons_zero, List.getElem_cons_succ, Act.put, List.setIfInBounds_toArray, List.set_cons_zero, List.set_cons_succ]
  refine wpT_take (i := 9) (oi := _) (v := (.agg (tcs h c))) rfl (by kernel_rfl) (by kernel_rfl) (by kernel_rfl) (by kernel_rfl) (fun _ _ _ h => h) (Or.inl ⟨by rfl, yields_row 56 _ rfl (w.heap.size + 1) rfl _ _ _ _ (fun _ h => h.2.2.2) Tryz.underlying56 rfl (dr_info hl.out)⟩) (by assumption) ?_
  try simp only [List.getElem_toArray, List.getElem_cons_zero, List.getElem_cons_succ, Act.put, List.setIfInBounds_toArray, List.set_cons_zero, List.set_cons_succ]
  refine wpT_frame (fun T a0 hT ha0 => ?_)
  clear hHeld
  have G5_7_10_15_16 : ∀ (Y B A1 B1 : Option Addr) (g7 : Nat) (b15 : Nat) (b16 : Nat) (u : World), (Hid (Below w0.heap.size w0 u ∧ Below w3.heap.size w3 u ∧ Below wA.heap.size wA u)) → (Hid (Sl u Y [ya, yb])) → (Hid (Rw u B (eqRows A1 B1 a b))) → (Hid (Sl u (some ⟨g7, 0, none⟩) [x])) → (Hid (QBlk u b15 (.slice none 0 0) (.int .i64 0) (.slice none 0 0))) → (Hid (wA.heap.size ≤ b15)) → (Hid (DBlk u b16 (zer 32) 0)) → (Hid (wA.heap.size ≤ b16)) → (Hid (b15 ≠ b16)) → T 3 #[true, true, true, true, true, true, true, true, true, true, true, true, true, true, true, true, true, false, false, false] (((((((((a0.put (some 99) (relV Y 2 2 B 2 2)).put (some 101) (.slice (some ⟨g7, 0, none⟩) 1 1)).put (some 104) (.tuple #[.agg #[.slice none 0 0, .int .i64 0, .slice none 0 0], .agg (tcs (zer 32) 0), .int .i64 5])).put (some 93) (.tuple #[.agg #[.slice none 0 0, .int .i64 0, .slice none 0 0], .agg (tcs (zer 32) 0), .int .i64 5])).put (some 105) (.agg #[.slice none 0 0, .int .i64 0, .slice none 0 0])).put (some 106) (.agg (tcs (zer 32) 0))).put (some 107) (.int .i64 5)).put (some 19) (.pointer (some ⟨b15, 0, none⟩))).put (some 20) (.pointer (some ⟨b16, 0, none⟩))) u := by
    intro Y B A1 B1 g7 b15 b16 u FB FY FR FX FP FPl FD FDl FN
    have hHeld := hS.out _ FB
    rw [hT, ha0]
    try simp only [List.getElem_toArray, List.getElem_cons_zero, List.getElem_cons_succ, Act.put, List.setIfInBounds_toArray, List.set_cons_zero, List.set_cons_succ]
    have FB3 : Hid (Below w0.heap.size w0 (u.setRow b15 #[.slice none 0 0, .int .i64 0, .slice none 0 0]) ∧ Below w3.heap.size w3 (u.setRow b15 #[.slice none 0 0, .int .i64 0, .slice none 0 0]) ∧ Below wA.heap.size wA (u.setRow b15 #[.slice none 0 0, .int .i64 0, .slice none 0 0])) := Lib.hid ⟨below_setRow' FB.out.1 (Nat.le_trans HSZ_w0.out FPl.out), below_setRow' FB.out.2.1 (Nat.le_trans HSZ_w3.out FPl.out), below_setRow' FB.out.2.2 (Nat.le_trans HSZ_wA.out FPl.out)⟩
    have FB4 : Hid (Below w0.heap.size w0 ((u.setRow b15 #[.slice none 0 0, .int .i64 0, .slice none 0 0]).setRow b16 (tcs (zer 32) 0)) ∧ Below w3.heap.size w3 ((u.setRow b15 #[.slice none 0 0, .int .i64 0, .slice none 0 0]).setRow b16 (tcs (zer 32) 0)) ∧ Below wA.heap.size wA ((u.setRow b15 #[.slice none 0 0, .int .i64 0, .slice none 0 0]).setRow b16 (tcs (zer 32) 0))) := Lib.hid ⟨below_setRow' FB3.out.1 (Nat.le_trans HSZ_w0.out FDl.out), below_setRow' FB3.out.2.1 (Nat.le_trans HSZ_w3.out FDl.out), below_setRow' FB3.out.2.2 (Nat.le_trans HSZ_wA.out FDl.out)⟩
    have FD3 : Hid (DBlk (u.setRow b15 #[.slice none 0 0, .int .i64 0, .slice none 0 0]) b16 (zer 32) 0) := Lib.hid ((setRow_other _ _ _ _ (Ne.symm FN.out)).trans FD.out)
    refine wpT_one (i := 17) (by kernel_rfl) rfl (fun K hK => ?_)
    rw [show (if Region.wanted _ _ = true then _ else _ : Prop) = _ from if_pos rfl]
    refine wp_store_row 28 _ _ rfl b15 #[.slice none 0 0, .int .i64 0, .slice none 0 0] rfl rfl 28 _ FP.out infoP rfl (by simp [Value.oneCell']) ?_
    refine hK.out _ _ ?_ (fun hHeld => ?_)
    · exact hS.out _ FB3
    clear hK K
    try simp only [List.getElem_toArray, List.getElem_cons_zero, List.getElem_cons_succ, Act.put, List.setIfInBounds_toArray, List.set_cons_zero, List.set_cons_succ]
    refine wpT_one (i := 18) (by kernel_rfl) rfl (fun K hK => ?_)
    rw [show (if Region.wanted _ _ = true then _ else _ : Prop) = _ from if_pos rfl]
    refine wp_store_row 56 _ _ rfl b16 (tcs (zer 32) 0) rfl rfl 56 _ FD3.out (dr_info rfl) (tcs_sz rfl rfl) (tcs_one _ _) ?_
    refine hK.out _ _ ?_ (fun hHeld => ?_)
    · exact hS.out _ FB4
    clear hK K
    try simp only [List.getElem_toArray, List.getElem_cons_zero, List.getElem_cons_succ, Act.put, List.setIfInBounds_toArray, List.set_cons_zero, List.set_cons_succ]
    refine wpT_take (i := 19) (oi := _) (v := ?_) rfl (by kernel_rfl) (by kernel_rfl) (by kernel_rfl) (by kernel_rfl) (fun _ _ _ h => h) (Or.inl ⟨by rfl, ?_⟩) (by assumption) ?_
    rotate_left; (intro wS hSw; (try dsimp only at hSw); go_simp <;> with_reducible rfl)
    try simp only [List.getElem_toArray, List.getElem_cons_zero, List.getElem_cons_succ, Act.put, List.setIfInBounds_toArray, List.set_cons_zero, List.set_cons_succ]
    refine wpT_done (by kernel_rfl) ?_ _
    have FPE : Hid (QBlk ((u.setRow b15 #[.slice none 0 0, .int .i64 0, .slice none 0 0]).setRow b16 (tcs (zer 32) 0)) b15 (.slice none 0 0) (.int .i64 0) (.slice none 0 0)) := Lib.hid ((setRow_other _ _ _ _ FN.out).trans FP.out.setRow)
    have FDE : Hid (DBlk ((u.setRow b15 #[.slice none 0 0, .int .i64 0, .slice none 0 0]).setRow b16 (tcs (zer 32) 0)) b16 (zer 32) 0) := Lib.hid FD3.out.setRow
    obtain ⟨wE, hwE⟩ : ∃ y, ((u.setRow b15 #[.slice none 0 0, .int .i64 0, .slice none 0 0]).setRow b16 (tcs (zer 32) 0)) = y := ⟨_, rfl⟩
    rw [hwE] at FPE FDE FB4 ⊢
    clear hwE hT ha0 FB FB3 FD3 hHeld
    have HE_w0 := Lib.hid FB4.out.1
    have HE_w3 := Lib.hid FB4.out.2.1
    have HE_wA := Lib.hid FB4.out.2.2
    have HB_wE_11 : Hid (Below wE.heap.size wE wE) := Lib.hid (Below.refl _ _)
    have kW := Lib.hid (show ∀ y : World, Hid (Below wE.heap.size wE y) → y.cell? ⟨b15, 0, none⟩ = some (.slice none 0 0) ∧ y.cell? ⟨b15, 1, none⟩ = some (.int .i64 0) ∧ y.cell? ⟨b15, 2, none⟩ = some (.slice none 0 0) from fun y hy => ⟨cell_below FPE.out.cells.1.1 hy.out, cell_below FPE.out.cells.1.2.1 hy.out, cell_below FPE.out.cells.1.2.2 hy.out⟩)
    have kWD := Lib.hid (show ∀ u : World, Hid (Below wE.heap.size wE u) → Hid (DBlk u b16 (zer 32) 0) from fun u h => Lib.hid (FDE.out.below h.out))
    obtain ⟨zc0, zc1, zc2⟩ := kC.out _ HE_w0
    obtain ⟨kS_0, kS_1, kS_2⟩ := kS.out _ HE_w3
    obtain ⟨kW_0, kW_1, kW_2⟩ := kW.out _ HB_wE_11
    go_wp2_with fail
    refine (same18_any none [] 0 0 0 none [] 0 0 none [] 0 0 0 none [] 0 0 (Lib.hid rfl) (Lib.hid rfl) (Lib.hid rfl) (Lib.hid rfl) (by omega) (by omega) (by omega) (by omega) true (Lib.hid rfl) _ (Lib.hid (sl_nil _)) (Lib.hid (sl_nil _)) (Lib.hid (sl_nil _)) (Lib.hid (sl_nil _))).mono ?_
    rintro e w12 ⟨rfl, hb0⟩
    have HB_12 := Lib.hid (below_ext HE_w0.out hb0)
    have HB_w3_12 := Lib.hid (below_ext HE_w3.out hb0)
    have HB_wA_12 := Lib.hid (below_ext HE_wA.out hb0)
    have HB_wE_12 := Lib.hid (below_ext HB_wE_11.out hb0)
    clear zc0 zc1 zc2 kS_0 kS_1 kS_2 kW_0 kW_1 kW_2
    clear hb0
    obtain ⟨zc0, zc1, zc2⟩ := kC.out _ HB_12
    obtain ⟨kS_0, kS_1, kS_2⟩ := kS.out _ HB_w3_12
    obtain ⟨kW_0, kW_1, kW_2⟩ := kW.out _ HB_wE_12
    have HNk := kS2.out _ HB_w3_12
    have HNw := kWD.out _ HB_wE_12
    go_upto_region 15 with (first | ((with_reducible show wpList _ _ _ (⟨some 118, _, _, _, _, _⟩ :: _) _ _); refine wpList_load_row_g (by rfl) 56 _ rfl (w2.heap.size + 1) rfl _ _ _ _ HNk.out Tryz.underlying56 rfl (dr_info rfl) ?_) | ((with_reducible show wpList _ _ _ (⟨some 119, _, _, _, _, _⟩ :: _) _ _); refine wpList_load_row_g (by rfl) 56 _ rfl b16 rfl _ _ _ _ HNw.out Tryz.underlying56 rfl (dr_info rfl) ?_) | ((with_reducible show wpList _ _ _ (⟨some 120, _, _, _, _, _⟩ :: _) _ _); refine wpList_neq_draw (by rfl) _ _ _ rfl (zer 32) (zer 32) rfl rfl 0 0 rfl rfl false (by simp) ?_))
    clear HNk HNw
    have hbF := below_ext HBw.out HB_12.out
    go_wp2
    go_ret
    exact ⟨rfl, hbF⟩
  have G5_7_10_15 : ∀ (Y B A1 B1 : Option Addr) (g7 : Nat) (b15 : Nat) (u : World), (Hid (Below w0.heap.size w0 u ∧ Below w3.heap.size w3 u ∧ Below wA.heap.size wA u)) → (Hid (Sl u Y [ya, yb])) → (Hid (Rw u B (eqRows A1 B1 a b))) → (Hid (Sl u (some ⟨g7, 0, none⟩) [x])) → (Hid (QBlk u b15 (.slice none 0 0) (.int .i64 0) (.slice none 0 0))) → (Hid (wA.heap.size ≤ b15)) → T 4 #[true, true, true, true, true, true, true, true, true, true, true, true, true, true, true, true, false, false, false, false] ((((((((a0.put (some 99) (relV Y 2 2 B 2 2)).put (some 101) (.slice (some ⟨g7, 0, none⟩) 1 1)).put (some 104) (.tuple #[.agg #[.slice none 0 0, .int .i64 0, .slice none 0 0], .agg (tcs (zer 32) 0), .int .i64 5])).put (some 93) (.tuple #[.agg #[.slice none 0 0, .int .i64 0, .slice none 0 0], .agg (tcs (zer 32) 0), .int .i64 5])).put (some 105) (.agg #[.slice none 0 0, .int .i64 0, .slice none 0 0])).put (some 106) (.agg (tcs (zer 32) 0))).put (some 107) (.int .i64 5)).put (some 19) (.pointer (some ⟨b15, 0, none⟩))) u := by
    intro Y B A1 B1 g7 b15 u FB FY FR FX FP FPl
    have hHeld := hS.out _ FB
    rw [hT, ha0]
    try simp only [List.getElem_toArray, List.getElem_cons_zero, List.getElem_cons_succ, Act.put, List.setIfInBounds_toArray, List.set_cons_zero, List.set_cons_succ]
    refine wpT_one (i := 16) (by kernel_rfl) rfl (fun K hK => ?_)
    go_simp
    have FB2 := hBx.out _ _ FB (below_box0 u (.cells #[.int .u8 0, .int .u8 0, .int .u8 0, .int .u8 0, .int .u8 0, .int .u8 0, .int .u8 0, .int .u8 0, .int .u8 0, .int .u8 0, .int .u8 0, .int .u8 0, .int .u8 0, .int .u8 0, .int .u8 0, .int .u8 0, .int .u8 0, .int .u8 0, .int .u8 0, .int .u8 0, .int .u8 0, .int .u8 0, .int .u8 0, .int .u8 0, .int .u8 0, .int .u8 0, .int .u8 0, .int .u8 0, .int .u8 0, .int .u8 0, .int .u8 0, .int .u8 0, .int .i64 0] 56))
    refine hK.out _ _ ?_ (fun hHeld => ?_)
    · exact hS.out _ FB2
    clear hK K hHeld
    try simp only [List.getElem_toArray, List.getElem_cons_zero, List.getElem_cons_succ, Act.put, List.setIfInBounds_toArray, List.set_cons_zero, List.set_cons_succ]
    have hG := G5_7_10_15_16 Y B A1 B1 g7 b15 u.heap.size (u.alloc (.cells #[.int .u8 0, .int .u8 0, .int .u8 0, .int .u8 0, .int .u8 0, .int .u8 0, .int .u8 0, .int .u8 0, .int .u8 0, .int .u8 0, .int .u8 0, .int .u8 0, .int .u8 0, .int .u8 0, .int .u8 0, .int .u8 0, .int .u8 0, .int .u8 0, .int .u8 0, .int .u8 0, .int .u8 0, .int .u8 0, .int .u8 0, .int .u8 0, .int .u8 0, .int .u8 0, .int .u8 0, .int .u8 0, .int .u8 0, .int .u8 0, .int .u8 0, .int .u8 0, .int .i64 0] 56)) FB2 (Lib.hid (FY.out.below (below_box0 u (.cells #[.int .u8 0, .int .u8 0, .int .u8 0, .int .u8 0, .int .u8 0, .int .u8 0, .int .u8 0, .int .u8 0, .int .u8 0, .int .u8 0, .int .u8 0, .int .u8 0, .int .u8 0, .int .u8 0, .int .u8 0, .int .u8 0, .int .u8 0, .int .u8 0, .int .u8 0, .int .u8 0, .int .u8 0, .int .u8 0, .int .u8 0, .int .u8 0, .int .u8 0, .int .u8 0, .int .u8 0, .int .u8 0, .int .u8 0, .int .u8 0, .int .u8 0, .int .u8 0, .int .i64 0] 56)))) (Lib.hid (FR.out.below (below_box0 u (.cells #[.int .u8 0, .int .u8 0, .int .u8 0, .int .u8 0, .int .u8 0, .int .u8 0, .int .u8 0, .int .u8 0, .int .u8 0, .int .u8 0, .int .u8 0, .int .u8 0, .int .u8 0, .int .u8 0, .int .u8 0, .int .u8 0, .int .u8 0, .int .u8 0, .int .u8 0, .int .u8 0, .int .u8 0, .int .u8 0, .int .u8 0, .int .u8 0, .int .u8 0, .int .u8 0, .int .u8 0, .int .u8 0, .int .u8 0, .int .u8 0, .int .u8 0, .int .u8 0, .int .i64 0] 56)))) (Lib.hid (FX.out.below (below_box0 u (.cells #[.int .u8 0, .int .u8 0, .int .u8 0, .int .u8 0, .int .u8 0, .int .u8 0, .int .u8 0, .int .u8 0, .int .u8 0, .int .u8 0, .int .u8 0, .int .u8 0, .int .u8 0, .int .u8 0, .int .u8 0, .int .u8 0, .int .u8 0, .int .u8 0, .int .u8 0, .int .u8 0, .int .u8 0, .int .u8 0, .int .u8 0, .int .u8 0, .int .u8 0, .int .u8 0, .int .u8 0, .int .u8 0, .int .u8 0, .int .u8 0, .int .u8 0, .int .u8 0, .int .i64 0] 56)))) (Lib.hid (FP.out.below (below_box0 u (.cells #[.int .u8 0, .int .u8 0, .int .u8 0, .int .u8 0, .int .u8 0, .int .u8 0, .int .u8 0, .int .u8 0, .int .u8 0, .int .u8 0, .int .u8 0, .int .u8 0, .int .u8 0, .int .u8 0, .int .u8 0, .int .u8 0, .int .u8 0, .int .u8 0, .int .u8 0, .int .u8 0, .int .u8 0, .int .u8 0, .int .u8 0, .int .u8 0, .int .u8 0, .int .u8 0, .int .u8 0, .int .u8 0, .int .u8 0, .int .u8 0, .int .u8 0, .int .u8 0, .int .i64 0] 56)))) (FPl) (Lib.hid (by rw [ztr]; exact DBlk.new u (zer 32) 0)) (Lib.hid (FB.out.2.2.size)) (Lib.hid (fun e => by have := FP.out.lt; omega))
    rw [hT, ha0] at hG
    (try simp only [List.getElem_toArray, List.getElem_cons_zero, List.getElem_cons_succ, Act.put, List.setIfInBounds_toArray, List.set_cons_zero, List.set_cons_succ] at hG)
    exact hG
  have G5_7_10_16 : ∀ (Y B A1 B1 : Option Addr) (g7 : Nat) (b16 : Nat) (u : World), (Hid (Below w0.heap.size w0 u ∧ Below w3.heap.size w3 u ∧ Below wA.heap.size wA u)) → (Hid (Sl u Y [ya, yb])) → (Hid (Rw u B (eqRows A1 B1 a b))) → (Hid (Sl u (some ⟨g7, 0, none⟩) [x])) → (Hid (DBlk u b16 (zer 32) 0)) → (Hid (wA.heap.size ≤ b16)) → T 4 #[true, true, true, true, true, true, true, true, true, true, true, true, true, true, true, false, true, false, false, false] ((((((((a0.put (some 99) (relV Y 2 2 B 2 2)).put (some 101) (.slice (some ⟨g7, 0, none⟩) 1 1)).put (some 104) (.tuple #[.agg #[.slice none 0 0, .int .i64 0, .slice none 0 0], .agg (tcs (zer 32) 0), .int .i64 5])).put (some 93) (.tuple #[.agg #[.slice none 0 0, .int .i64 0, .slice none 0 0], .agg (tcs (zer 32) 0), .int .i64 5])).put (some 105) (.agg #[.slice none 0 0, .int .i64 0, .slice none 0 0])).put (some 106) (.agg (tcs (zer 32) 0))).put (some 107) (.int .i64 5)).put (some 20) (.pointer (some ⟨b16, 0, none⟩))) u := by
    intro Y B A1 B1 g7 b16 u FB FY FR FX FD FDl
    have hHeld := hS.out _ FB
    rw [hT, ha0]
    try simp only [List.getElem_toArray, List.getElem_cons_zero, List.getElem_cons_succ, Act.put, List.setIfInBounds_toArray, List.set_cons_zero, List.set_cons_succ]
    refine wpT_one (i := 15) (by kernel_rfl) rfl (fun K hK => ?_)
    go_simp
    have FB2 := hBx.out _ _ FB (below_box0 u (.cells #[.slice none 0 0, .int .i64 0, .slice none 0 0] 28))
    refine hK.out _ _ ?_ (fun hHeld => ?_)
    · exact hS.out _ FB2
    clear hK K hHeld
    try simp only [List.getElem_toArray, List.getElem_cons_zero, List.getElem_cons_succ, Act.put, List.setIfInBounds_toArray, List.set_cons_zero, List.set_cons_succ]
    have hG := G5_7_10_15_16 Y B A1 B1 g7 u.heap.size b16 (u.alloc (.cells #[.slice none 0 0, .int .i64 0, .slice none 0 0] 28)) FB2 (Lib.hid (FY.out.below (below_box0 u (.cells #[.slice none 0 0, .int .i64 0, .slice none 0 0] 28)))) (Lib.hid (FR.out.below (below_box0 u (.cells #[.slice none 0 0, .int .i64 0, .slice none 0 0] 28)))) (Lib.hid (FX.out.below (below_box0 u (.cells #[.slice none 0 0, .int .i64 0, .slice none 0 0] 28)))) (Lib.hid (heap_alloc_new _ _)) (Lib.hid (FB.out.2.2.size)) (Lib.hid (FD.out.below (below_box0 u (.cells #[.slice none 0 0, .int .i64 0, .slice none 0 0] 28)))) (FDl) (Lib.hid (fun e => by have := FD.out.lt; omega))
    rw [hT, ha0] at hG
    (try simp only [List.getElem_toArray, List.getElem_cons_zero, List.getElem_cons_succ, Act.put, List.setIfInBounds_toArray, List.set_cons_zero, List.set_cons_succ] at hG)
    exact hG
  have G5_7_15_16 : ∀ (Y B A1 B1 : Option Addr) (g7 : Nat) (b15 : Nat) (b16 : Nat) (u : World), (Hid (Below w0.heap.size w0 u ∧ Below w3.heap.size w3 u ∧ Below wA.heap.size wA u)) → (Hid (Sl u Y [ya, yb])) → (Hid (Rw u B (eqRows A1 B1 a b))) → (Hid (Sl u (some ⟨g7, 0, none⟩) [x])) → (Hid (QBlk u b15 (.slice none 0 0) (.int .i64 0) (.slice none 0 0))) → (Hid (wA.heap.size ≤ b15)) → (Hid (DBlk u b16 (zer 32) 0)) → (Hid (wA.heap.size ≤ b16)) → (Hid (b15 ≠ b16)) → T 8 #[true, true, true, true, true, true, true, true, true, true, false, false, false, false, false, true, true, false, false, false] ((((a0.put (some 99) (relV Y 2 2 B 2 2)).put (some 101) (.slice (some ⟨g7, 0, none⟩) 1 1)).put (some 19) (.pointer (some ⟨b15, 0, none⟩))).put (some 20) (.pointer (some ⟨b16, 0, none⟩))) u := by
    intro Y B A1 B1 g7 b15 b16 u FB FY FR FX FP FPl FD FDl FN
    have hHeld := hS.out _ FB
    rw [hT, ha0]
    try simp only [List.getElem_toArray, List.getElem_cons_zero, List.getElem_cons_succ, Act.put, List.setIfInBounds_toArray, List.set_cons_zero, List.set_cons_succ]
    refine wpT_one (i := 10) (by kernel_rfl) rfl (fun K hK => ?_)
    go_simp
    refine (lprove_f P Q G Y [ya, yb] 2 2 B (eqRows A1 B1 a b) 2 2 (some ⟨g7, 0, none⟩) [x] 1 1 s h c (Lib.hid rfl) (Lib.hid rfl) (Lib.hid rfl) n1b hs9 hl hQ hhb hr hdr HCR HHO HST _ (kV.out _ (Lib.hid FB.out.1)) (kD.out _ (Lib.hid FB.out.1)) FY FR FX).mono ?_
    rintro e wB ⟨rfl, hq⟩
    rw [show PrvE (.agg #[.slice none 0 0, .int .i64 0, .slice none 0 0]) (zer 32) 0 5 = .tuple #[.agg #[.slice none 0 0, .int .i64 0, .slice none 0 0], .agg (tcs (zer 32) 0), .int .i64 5] from rfl]
    have FB2 := hBx.out _ _ FB hq
    refine hK.out _ _ ?_ (fun hHeld => ?_)
    · exact hS.out _ FB2
    clear hK K
    try simp only [List.getElem_toArray, List.getElem_cons_zero, List.getElem_cons_succ, Act.put, List.setIfInBounds_toArray, List.set_cons_zero, List.set_cons_succ]
    refine wpT_take (i := 11) (oi := _) (v := ?_) rfl (by kernel_rfl) (by kernel_rfl) (by kernel_rfl) (by kernel_rfl) (fun _ _ _ h => h) (Or.inl ⟨by rfl, ?_⟩) (by assumption) ?_
    rotate_left; (intro wS hSw; (try dsimp only at hSw); go_simp <;> with_reducible rfl)
    try simp only [List.getElem_toArray, List.getElem_cons_zero, List.getElem_cons_succ, Act.put, List.setIfInBounds_toArray, List.set_cons_zero, List.set_cons_succ]
    refine wpT_take (i := 12) (oi := _) (v := ?_) rfl (by kernel_rfl) (by kernel_rfl) (by kernel_rfl) (by kernel_rfl) (fun _ _ _ h => h) (Or.inl ⟨by rfl, ?_⟩) (by assumption) ?_
    rotate_left; (intro wS hSw; (try dsimp only at hSw); go_simp <;> with_reducible rfl)
    try simp only [List.getElem_toArray, List.getElem_cons_zero, List.getElem_cons_succ, Act.put, List.setIfInBounds_toArray, List.set_cons_zero, List.set_cons_succ]
    refine wpT_take (i := 13) (oi := _) (v := ?_) rfl (by kernel_rfl) (by kernel_rfl) (by kernel_rfl) (by kernel_rfl) (fun _ _ _ h => h) (Or.inl ⟨by rfl, ?_⟩) (by assumption) ?_
    rotate_left; (intro wS hSw; (try dsimp only at hSw); go_simp <;> with_reducible rfl)
    try simp only [List.getElem_toArray, List.getElem_cons_zero, List.getElem_cons_succ, Act.put, List.setIfInBounds_toArray, List.set_cons_zero, List.set_cons_succ]
    refine wpT_take (i := 14) (oi := _) (v := ?_) rfl (by kernel_rfl) (by kernel_rfl) (by kernel_rfl) (by kernel_rfl) (fun _ _ _ h => h) (Or.inl ⟨by rfl, ?_⟩) (by assumption) ?_
    rotate_left; (intro wS hSw; (try dsimp only at hSw); go_simp <;> with_reducible rfl)
    try simp only [List.getElem_toArray, List.getElem_cons_zero, List.getElem_cons_succ, Act.put, List.setIfInBounds_toArray, List.set_cons_zero, List.set_cons_succ]
    clear hHeld
    have hG := G5_7_10_15_16 Y B A1 B1 g7 b15 b16 wB FB2 (Lib.hid (FY.out.below hq)) (Lib.hid (FR.out.below hq)) (Lib.hid (FX.out.below hq)) (Lib.hid (FP.out.below hq)) (FPl) (Lib.hid (FD.out.below hq)) (FDl) (FN)
    rw [hT, ha0] at hG
    (try simp only [List.getElem_toArray, List.getElem_cons_zero, List.getElem_cons_succ, Act.put, List.setIfInBounds_toArray, List.set_cons_zero, List.set_cons_succ] at hG)
    exact hG
  have G5_7_10 : ∀ (Y B A1 B1 : Option Addr) (g7 : Nat) (u : World), (Hid (Below w0.heap.size w0 u ∧ Below w3.heap.size w3 u ∧ Below wA.heap.size wA u)) → (Hid (Sl u Y [ya, yb])) → (Hid (Rw u B (eqRows A1 B1 a b))) → (Hid (Sl u (some ⟨g7, 0, none⟩) [x])) → T 5 #[true, true, true, true, true, true, true, true, true, true, true, true, true, true, true, false, false, false, false, false] (((((((a0.put (some 99) (relV Y 2 2 B 2 2)).put (some 101) (.slice (some ⟨g7, 0, none⟩) 1 1)).put (some 104) (.tuple #[.agg #[.slice none 0 0, .int .i64 0, .slice none 0 0], .agg (tcs (zer 32) 0), .int .i64 5])).put (some 93) (.tuple #[.agg #[.slice none 0 0, .int .i64 0, .slice none 0 0], .agg (tcs (zer 32) 0), .int .i64 5])).put (some 105) (.agg #[.slice none 0 0, .int .i64 0, .slice none 0 0])).put (some 106) (.agg (tcs (zer 32) 0))).put (some 107) (.int .i64 5)) u := by
    intro Y B A1 B1 g7 u FB FY FR FX
    have hHeld := hS.out _ FB
    rw [hT, ha0]
    try simp only [List.getElem_toArray, List.getElem_cons_zero, List.getElem_cons_succ, Act.put, List.setIfInBounds_toArray, List.set_cons_zero, List.set_cons_succ]
    refine wpT_two (i1 := 15) (i2 := 16) (by kernel_rfl) rfl rfl (fun K hK => ?_) (fun K hK => ?_)
    · skip
      go_simp
      have FB2 := hBx.out _ _ FB (below_box0 u (.cells #[.slice none 0 0, .int .i64 0, .slice none 0 0] 28))
      refine hK.out _ _ ?_ (fun hHeld => ?_)
      · exact hS.out _ FB2
      clear hK K hHeld
      try simp only [List.getElem_toArray, List.getElem_cons_zero, List.getElem_cons_succ, Act.put, List.setIfInBounds_toArray, List.set_cons_zero, List.set_cons_succ]
      have hG := G5_7_10_15 Y B A1 B1 g7 u.heap.size (u.alloc (.cells #[.slice none 0 0, .int .i64 0, .slice none 0 0] 28)) FB2 (Lib.hid (FY.out.below (below_box0 u (.cells #[.slice none 0 0, .int .i64 0, .slice none 0 0] 28)))) (Lib.hid (FR.out.below (below_box0 u (.cells #[.slice none 0 0, .int .i64 0, .slice none 0 0] 28)))) (Lib.hid (FX.out.below (below_box0 u (.cells #[.slice none 0 0, .int .i64 0, .slice none 0 0] 28)))) (Lib.hid (heap_alloc_new _ _)) (Lib.hid (FB.out.2.2.size))
      rw [hT, ha0] at hG
      (try simp only [List.getElem_toArray, List.getElem_cons_zero, List.getElem_cons_succ, Act.put, List.setIfInBounds_toArray, List.set_cons_zero, List.set_cons_succ] at hG)
      exact hG
    · skip
      go_simp
      have FB2 := hBx.out _ _ FB (below_box0 u (.cells #[.int .u8 0, .int .u8 0, .int .u8 0, .int .u8 0, .int .u8 0, .int .u8 0, .int .u8 0, .int .u8 0, .int .u8 0, .int .u8 0, .int .u8 0, .int .u8 0, .int .u8 0, .int .u8 0, .int .u8 0, .int .u8 0, .int .u8 0, .int .u8 0, .int .u8 0, .int .u8 0, .int .u8 0, .int .u8 0, .int .u8 0, .int .u8 0, .int .u8 0, .int .u8 0, .int .u8 0, .int .u8 0, .int .u8 0, .int .u8 0, .int .u8 0, .int .u8 0, .int .i64 0] 56))
      refine hK.out _ _ ?_ (fun hHeld => ?_)
      · exact hS.out _ FB2
      clear hK K hHeld
      try simp only [List.getElem_toArray, List.getElem_cons_zero, List.getElem_cons_succ, Act.put, List.setIfInBounds_toArray, List.set_cons_zero, List.set_cons_succ]
      have hG := G5_7_10_16 Y B A1 B1 g7 u.heap.size (u.alloc (.cells #[.int .u8 0, .int .u8 0, .int .u8 0, .int .u8 0, .int .u8 0, .int .u8 0, .int .u8 0, .int .u8 0, .int .u8 0, .int .u8 0, .int .u8 0, .int .u8 0, .int .u8 0, .int .u8 0, .int .u8 0, .int .u8 0, .int .u8 0, .int .u8 0, .int .u8 0, .int .u8 0, .int .u8 0, .int .u8 0, .int .u8 0, .int .u8 0, .int .u8 0, .int .u8 0, .int .u8 0, .int .u8 0, .int .u8 0, .int .u8 0, .int .u8 0, .int .u8 0, .int .i64 0] 56)) FB2 (Lib.hid (FY.out.below (below_box0 u (.cells #[.int .u8 0, .int .u8 0, .int .u8 0, .int .u8 0, .int .u8 0, .int .u8 0, .int .u8 0, .int .u8 0, .int .u8 0, .int .u8 0, .int .u8 0, .int .u8 0, .int .u8 0, .int .u8 0, .int .u8 0, .int .u8 0, .int .u8 0, .int .u8 0, .int .u8 0, .int .u8 0, .int .u8 0, .int .u8 0, .int .u8 0, .int .u8 0, .int .u8 0, .int .u8 0, .int .u8 0, .int .u8 0, .int .u8 0, .int .u8 0, .int .u8 0, .int .u8 0, .int .i64 0] 56)))) (Lib.hid (FR.out.below (below_box0 u (.cells #[.int .u8 0, .int .u8 0, .int .u8 0, .int .u8 0, .int .u8 0, .int .u8 0, .int .u8 0, .int .u8 0, .int .u8 0, .int .u8 0, .int .u8 0, .int .u8 0, .int .u8 0, .int .u8 0, .int .u8 0, .int .u8 0, .int .u8 0, .int .u8 0, .int .u8 0, .int .u8 0, .int .u8 0, .int .u8 0, .int .u8 0, .int .u8 0, .int .u8 0, .int .u8 0, .int .u8 0, .int .u8 0, .int .u8 0, .int .u8 0, .int .u8 0, .int .u8 0, .int .i64 0] 56)))) (Lib.hid (FX.out.below (below_box0 u (.cells #[.int .u8 0, .int .u8 0, .int .u8 0, .int .u8 0, .int .u8 0, .int .u8 0, .int .u8 0, .int .u8 0, .int .u8 0, .int .u8 0, .int .u8 0, .int .u8 0, .int .u8 0, .int .u8 0, .int .u8 0, .int .u8 0, .int .u8 0, .int .u8 0, .int .u8 0, .int .u8 0, .int .u8 0, .int .u8 0, .int .u8 0, .int .u8 0, .int .u8 0, .int .u8 0, .int .u8 0, .int .u8 0, .int .u8 0, .int .u8 0, .int .u8 0, .int .u8 0, .int .i64 0] 56)))) (Lib.hid (by rw [ztr]; exact DBlk.new u (zer 32) 0)) (Lib.hid (FB.out.2.2.size))
      rw [hT, ha0] at hG
      (try simp only [List.getElem_toArray, List.getElem_cons_zero, List.getElem_cons_succ, Act.put, List.setIfInBounds_toArray, List.set_cons_zero, List.set_cons_succ] at hG)
      exact hG
  have G5_7_15 : ∀ (Y B A1 B1 : Option Addr) (g7 : Nat) (b15 : Nat) (u : World), (Hid (Below w0.heap.size w0 u ∧ Below w3.heap.size w3 u ∧ Below wA.heap.size wA u)) → (Hid (Sl u Y [ya, yb])) → (Hid (Rw u B (eqRows A1 B1 a b))) → (Hid (Sl u (some ⟨g7, 0, none⟩) [x])) → (Hid (QBlk u b15 (.slice none 0 0) (.int .i64 0) (.slice none 0 0))) → (Hid (wA.heap.size ≤ b15)) → T 9 #[true, true, true, true, true, true, true, true, true, true, false, false, false, false, false, true, false, false, false, false] (((a0.put (some 99) (relV Y 2 2 B 2 2)).put (some 101) (.slice (some ⟨g7, 0, none⟩) 1 1)).put (some 19) (.pointer (some ⟨b15, 0, none⟩))) u := by
    intro Y B A1 B1 g7 b15 u FB FY FR FX FP FPl
    have hHeld := hS.out _ FB
    rw [hT, ha0]
    try simp only [List.getElem_toArray, List.getElem_cons_zero, List.getElem_cons_succ, Act.put, List.setIfInBounds_toArray, List.set_cons_zero, List.set_cons_succ]
    refine wpT_two (i1 := 10) (i2 := 16) (by kernel_rfl) rfl rfl (fun K hK => ?_) (fun K hK => ?_)
    · skip
      go_simp
      refine (lprove_f P Q G Y [ya, yb] 2 2 B (eqRows A1 B1 a b) 2 2 (some ⟨g7, 0, none⟩) [x] 1 1 s h c (Lib.hid rfl) (Lib.hid rfl) (Lib.hid rfl) n1b hs9 hl hQ hhb hr hdr HCR HHO HST _ (kV.out _ (Lib.hid FB.out.1)) (kD.out _ (Lib.hid FB.out.1)) FY FR FX).mono ?_
      rintro e wB ⟨rfl, hq⟩
      rw [show PrvE (.agg #[.slice none 0 0, .int .i64 0, .slice none 0 0]) (zer 32) 0 5 = .tuple #[.agg #[.slice none 0 0, .int .i64 0, .slice none 0 0], .agg (tcs (zer 32) 0), .int .i64 5] from rfl]
      have FB2 := hBx.out _ _ FB hq
      refine hK.out _ _ ?_ (fun hHeld => ?_)
      · exact hS.out _ FB2
      clear hK K
      try simp only [List.getElem_toArray, List.getElem_cons_zero, List.getElem_cons_succ, Act.put, List.setIfInBounds_toArray, List.set_cons_zero, List.set_cons_succ]
      refine wpT_take (i := 11) (oi := _) (v := ?_) rfl (by kernel_rfl) (by kernel_rfl) (by kernel_rfl) (by kernel_rfl) (fun _ _ _ h => h) (Or.inl ⟨by rfl, ?_⟩) (by assumption) ?_
      rotate_left; (intro wS hSw; (try dsimp only at hSw); go_simp <;> with_reducible rfl)
      try simp only [List.getElem_toArray, List.getElem_cons_zero, List.getElem_cons_succ, Act.put, List.setIfInBounds_toArray, List.set_cons_zero, List.set_cons_succ]
      refine wpT_take (i := 12) (oi := _) (v := ?_) rfl (by kernel_rfl) (by kernel_rfl) (by kernel_rfl) (by kernel_rfl) (fun _ _ _ h => h) (Or.inl ⟨by rfl, ?_⟩) (by assumption) ?_
      rotate_left; (intro wS hSw; (try dsimp only at hSw); go_simp <;> with_reducible rfl)
      try simp only [List.getElem_toArray, List.getElem_cons_zero, List.getElem_cons_succ, Act.put, List.setIfInBounds_toArray, List.set_cons_zero, List.set_cons_succ]
      refine wpT_take (i := 13) (oi := _) (v := ?_) rfl (by kernel_rfl) (by kernel_rfl) (by kernel_rfl) (by kernel_rfl) (fun _ _ _ h => h) (Or.inl ⟨by rfl, ?_⟩) (by assumption) ?_
      rotate_left; (intro wS hSw; (try dsimp only at hSw); go_simp <;> with_reducible rfl)
      try simp only [List.getElem_toArray, List.getElem_cons_zero, List.getElem_cons_succ, Act.put, List.setIfInBounds_toArray, List.set_cons_zero, List.set_cons_succ]
      refine wpT_take (i := 14) (oi := _) (v := ?_) rfl (by kernel_rfl) (by kernel_rfl) (by kernel_rfl) (by kernel_rfl) (fun _ _ _ h => h) (Or.inl ⟨by rfl, ?_⟩) (by assumption) ?_
      rotate_left; (intro wS hSw; (try dsimp only at hSw); go_simp <;> with_reducible rfl)
      try simp only [List.getElem_toArray, List.getElem_cons_zero, List.getElem_cons_succ, Act.put, List.setIfInBounds_toArray, List.set_cons_zero, List.set_cons_succ]
      clear hHeld
      have hG := G5_7_10_15 Y B A1 B1 g7 b15 wB FB2 (Lib.hid (FY.out.below hq)) (Lib.hid (FR.out.below hq)) (Lib.hid (FX.out.below hq)) (Lib.hid (FP.out.below hq)) (FPl)
      rw [hT, ha0] at hG
      (try simp only [List.getElem_toArray, List.getElem_cons_zero, List.getElem_cons_succ, Act.put, List.setIfInBounds_toArray, List.set_cons_zero, List.set_cons_succ] at hG)
      exact hG
    · skip
      go_simp
      have FB2 := hBx.out _ _ FB (below_box0 u (.cells #[.int .u8 0, .int .u8 0, .int .u8 0, .int .u8 0, .int .u8 0, .int .u8 0, .int .u8 0, .int .u8 0, .int .u8 0, .int .u8 0, .int .u8 0, .int .u8 0, .int .u8 0, .int .u8 0, .int .u8 0, .int .u8 0, .int .u8 0, .int .u8 0, .int .u8 0, .int .u8 0, .int .u8 0, .int .u8 0, .int .u8 0, .int .u8 0, .int .u8 0, .int .u8 0, .int .u8 0, .int .u8 0, .int .u8 0, .int .u8 0, .int .u8 0, .int .u8 0, .int .i64 0] 56))
      refine hK.out _ _ ?_ (fun hHeld => ?_)
      · exact hS.out _ FB2
      clear hK K hHeld
      try simp only [List.getElem_toArray, List.getElem_cons_zero, List.getElem_cons_succ, Act.put, List.setIfInBounds_toArray, List.set_cons_zero, List.set_cons_succ]
      have hG := G5_7_15_16 Y B A1 B1 g7 b15 u.heap.size (u.alloc (.cells #[.int .u8 0, .int .u8 0, .int .u8 0, .int .u8 0, .int .u8 0, .int .u8 0, .int .u8 0, .int .u8 0, .int .u8 0, .int .u8 0, .int .u8 0, .int .u8 0, .int .u8 0, .int .u8 0, .int .u8 0, .int .u8 0, .int .u8 0, .int .u8 0, .int .u8 0, .int .u8 0, .int .u8 0, .int .u8 0, .int .u8 0, .int .u8 0, .int .u8 0, .int .u8 0, .int .u8 0, .int .u8 0, .int .u8 0, .int .u8 0, .int .u8 0, .int .u8 0, .int .i64 0] 56)) FB2 (Lib.hid (FY.out.below (below_box0 u (.cells #[.int .u8 0, .int .u8 0, .int .u8 0, .int .u8 0, .int .u8 0, .int .u8 0, .int .u8 0, .int .u8 0, .int .u8 0, .int .u8 0, .int .u8 0, .int .u8 0, .int .u8 0, .int .u8 0, .int .u8 0, .int .u8 0, .int .u8 0, .int .u8 0, .int .u8 0, .int .u8 0, .int .u8 0, .int .u8 0, .int .u8 0, .int .u8 0, .int .u8 0, .int .u8 0, .int .u8 0, .int .u8 0, .int .u8 0, .int .u8 0, .int .u8 0, .int .u8 0, .int .i64 0] 56)))) (Lib.hid (FR.out.below (below_box0 u (.cells #[.int .u8 0, .int .u8 0, .int .u8 0, .int .u8 0, .int .u8 0, .int .u8 0, .int .u8 0, .int .u8 0, .int .u8 0, .int .u8 0, .int .u8 0, .int .u8 0, .int .u8 0, .int .u8 0, .int .u8 0, .int .u8 0, .int .u8 0, .int .u8 0, .int .u8 0, .int .u8 0, .int .u8 0, .int .u8 0, .int .u8 0, .int .u8 0, .int .u8 0, .int .u8 0, .int .u8 0, .int .u8 0, .int .u8 0, .int .u8 0, .int .u8 0, .int .u8 0, .int .i64 0] 56)))) (Lib.hid (FX.out.below (below_box0 u (.cells #[.int .u8 0, .int .u8 0, .int .u8 0, .int .u8 0, .int .u8 0, .int .u8 0, .int .u8 0, .int .u8 0, .int .u8 0, .int .u8 0, .int .u8 0, .int .u8 0, .int .u8 0, .int .u8 0, .int .u8 0, .int .u8 0, .int .u8 0, .int .u8 0, .int .u8 0, .int .u8 0, .int .u8 0, .int .u8 0, .int .u8 0, .int .u8 0, .int .u8 0, .int .u8 0, .int .u8 0, .int .u8 0, .int .u8 0, .int .u8 0, .int .u8 0, .int .u8 0, .int .i64 0] 56)))) (Lib.hid (FP.out.below (below_box0 u (.cells #[.int .u8 0, .int .u8 0, .int .u8 0, .int .u8 0, .int .u8 0, .int .u8 0, .int .u8 0, .int .u8 0, .int .u8 0, .int .u8 0, .int .u8 0, .int .u8 0, .int .u8 0, .int .u8 0, .int .u8 0, .int .u8 0, .int .u8 0, .int .u8 0, .int .u8 0, .int .u8 0, .int .u8 0, .int .u8 0, .int .u8 0, .int .u8 0, .int .u8 0, .int .u8 0, .int .u8 0, .int .u8 0, .int .u8 0, .int .u8 0, .int .u8 0, .int .u8 0, .int .i64 0] 56)))) (FPl) (Lib.hid (by rw [ztr]; exact DBlk.new u (zer 32) 0)) (Lib.hid (FB.out.2.2.size)) (Lib.hid (fun e => by have := FP.out.lt; omega))
      rw [hT, ha0] at hG
      (try simp only [List.getElem_toArray, List.getElem_cons_zero, List.getElem_cons_succ, Act.put, List.setIfInBounds_toArray, List.set_cons_zero, List.set_cons_succ] at hG)
      exact hG
  have G5_7_16 : ∀ (Y B A1 B1 : Option Addr) (g7 : Nat) (b16 : Nat) (u : World), (Hid (Below w0.heap.size w0 u ∧ Below w3.heap.size w3 u ∧ Below wA.heap.size wA u)) → (Hid (Sl u Y [ya, yb])) → (Hid (Rw u B (eqRows A1 B1 a b))) → (Hid (Sl u (some ⟨g7, 0, none⟩) [x])) → (Hid (DBlk u b16 (zer 32) 0)) → (Hid (wA.heap.size ≤ b16)) → T 9 #[true, true, true, true, true, true, true, true, true, true, false, false, false, false, false, false, true, false, false, false] (((a0.put (some 99) (relV Y 2 2 B 2 2)).put (some 101) (.slice (some ⟨g7, 0, none⟩) 1 1)).put (some 20) (.pointer (some ⟨b16, 0, none⟩))) u := by
    intro Y B A1 B1 g7 b16 u FB FY FR FX FD FDl
    have hHeld := hS.out _ FB
    rw [hT, ha0]
    try simp only [List.getElem_toArray, List.getElem_cons_zero, List.getElem_cons_succ, Act.put, List.setIfInBounds_toArray, List.set_cons_zero, List.set_cons_succ]
    refine wpT_two (i1 := 10) (i2 := 15) (by kernel_rfl) rfl rfl (fun K hK => ?_) (fun K hK => ?_)
    · skip
      go_simp
      refine (lprove_f P Q G Y [ya, yb] 2 2 B (eqRows A1 B1 a b) 2 2 (some ⟨g7, 0, none⟩) [x] 1 1 s h c (Lib.hid rfl) (Lib.hid rfl) (Lib.hid rfl) n1b hs9 hl hQ hhb hr hdr HCR HHO HST _ (kV.out _ (Lib.hid FB.out.1)) (kD.out _ (Lib.hid FB.out.1)) FY FR FX).mono ?_
      rintro e wB ⟨rfl, hq⟩
      rw [show PrvE (.agg #[.slice none 0 0, .int .i64 0, .slice none 0 0]) (zer 32) 0 5 = .tuple #[.agg #[.slice none 0 0, .int .i64 0, .slice none 0 0], .agg (tcs (zer 32) 0), .int .i64 5] from rfl]
      have FB2 := hBx.out _ _ FB hq
      refine hK.out _ _ ?_ (fun hHeld => ?_)
      · exact hS.out _ FB2
      clear hK K
      try simp only [List.getElem_toArray, List.getElem_cons_zero, List.getElem_cons_succ, Act.put, List.setIfInBounds_toArray, List.set_cons_zero, List.set_cons_succ]
      refine wpT_take (i := 11) (oi := _) (v := ?_) rfl (by kernel_rfl) (by kernel_rfl) (by kernel_rfl) (by kernel_rfl) (fun _ _ _ h => h) (Or.inl ⟨by rfl, ?_⟩) (by assumption) ?_
      rotate_left; (intro wS hSw; (try dsimp only at hSw); go_simp <;> with_reducible rfl)
      try simp only [List.getElem_toArray, List.getElem_cons_zero, List.getElem_cons_succ, Act.put, List.setIfInBounds_toArray, List.set_cons_zero, List.set_cons_succ]
      refine wpT_take (i := 12) (oi := _) (v := ?_) rfl (by kernel_rfl) (by kernel_rfl) (by kernel_rfl) (by kernel_rfl) (fun _ _ _ h => h) (Or.inl ⟨by rfl, ?_⟩) (by assumption) ?_
      rotate_left; (intro wS hSw; (try dsimp only at hSw); go_simp <;> with_reducible rfl)
      try simp only [List.getElem_toArray, List.getElem_cons_zero, List.getElem_cons_succ, Act.put, List.setIfInBounds_toArray, List.set_cons_zero, List.set_cons_succ]
      refine wpT_take (i := 13) (oi := _) (v := ?_) rfl (by kernel_rfl) (by kernel_rfl) (by kernel_rfl) (by kernel_rfl) (fun _ _ _ h => h) (Or.inl ⟨by rfl, ?_⟩) (by assumption) ?_
      rotate_left; (intro wS hSw; (try dsimp only at hSw); go_simp <;> with_reducible rfl)
      try simp only [List.getElem_toArray, List.getElem_cons_zero, List.getElem_cons_succ, Act.put, List.setIfInBounds_toArray, List.set_cons_zero, List.set_cons_succ]
      refine wpT_take (i := 14) (oi := _) (v := ?_) rfl (by kernel_rfl) (by kernel_rfl) (by kernel_rfl) (by kernel_rfl) (fun _ _ _ h => h) (Or.inl ⟨by rfl, ?_⟩) (by assumption) ?_
      rotate_left; (intro wS hSw; (try dsimp only at hSw); go_simp <;> with_reducible rfl)
      try simp only [List.getElem_toArray, List.getElem_cons_zero, List.getElem_cons_succ, Act.put, List.setIfInBounds_toArray, List.set_cons_zero, List.set_cons_succ]
      clear hHeld
      have hG := G5_7_10_16 Y B A1 B1 g7 b16 wB FB2 (Lib.hid (FY.out.below hq)) (Lib.hid (FR.out.below hq)) (Lib.hid (FX.out.below hq)) (Lib.hid (FD.out.below hq)) (FDl)
      rw [hT, ha0] at hG
      (try simp only [List.getElem_toArray, List.getElem_cons_zero, List.getElem_cons_succ, Act.put, List.setIfInBounds_toArray, List.set_cons_zero, List.set_cons_succ] at hG)
      exact hG
    · skip
      go_simp
      have FB2 := hBx.out _ _ FB (below_box0 u (.cells #[.slice none 0 0, .int .i64 0, .slice none 0 0] 28))
      refine hK.out _ _ ?_ (fun hHeld => ?_)
      · exact hS.out _ FB2
      clear hK K hHeld
      try simp only [List.getElem_toArray, List.getElem_cons_zero, List.getElem_cons_succ, Act.put, List.setIfInBounds_toArray, List.set_cons_zero, List.set_cons_succ]
      have hG := G5_7_15_16 Y B A1 B1 g7 u.heap.size b16 (u.alloc (.cells #[.slice none 0 0, .int .i64 0, .slice none 0 0] 28)) FB2 (Lib.hid (FY.out.below (below_box0 u (.cells #[.slice none 0 0, .int .i64 0, .slice none 0 0] 28)))) (Lib.hid (FR.out.below (below_box0 u (.cells #[.slice none 0 0, .int .i64 0, .slice none 0 0] 28)))) (Lib.hid (FX.out.below (below_box0 u (.cells #[.slice none 0 0, .int .i64 0, .slice none 0 0] 28)))) (Lib.hid (heap_alloc_new _ _)) (Lib.hid (FB.out.2.2.size)) (Lib.hid (FD.out.below (below_box0 u (.cells #[.slice none 0 0, .int .i64 0, .slice none 0 0] 28)))) (FDl) (Lib.hid (fun e => by have := FD.out.lt; omega))
      rw [hT, ha0] at hG
      (try simp only [List.getElem_toArray, List.getElem_cons_zero, List.getElem_cons_succ, Act.put, List.setIfInBounds_toArray, List.set_cons_zero, List.set_cons_succ] at hG)
      exact hG
  have G5_15_16 : ∀ (Y B A1 B1 : Option Addr) (b15 : Nat) (b16 : Nat) (u : World), (Hid (Below w0.heap.size w0 u ∧ Below w3.heap.size w3 u ∧ Below wA.heap.size wA u)) → (Hid (Sl u Y [ya, yb])) → (Hid (Rw u B (eqRows A1 B1 a b))) → (Hid (QBlk u b15 (.slice none 0 0) (.int .i64 0) (.slice none 0 0))) → (Hid (wA.heap.size ≤ b15)) → (Hid (DBlk u b16 (zer 32) 0)) → (Hid (wA.heap.size ≤ b16)) → (Hid (b15 ≠ b16)) → T 9 #[true, true, true, true, true, true, true, false, true, true, false, false, false, false, false, true, true, false, false, false] (((a0.put (some 99) (relV Y 2 2 B 2 2)).put (some 19) (.pointer (some ⟨b15, 0, none⟩))).put (some 20) (.pointer (some ⟨b16, 0, none⟩))) u := by
    intro Y B A1 B1 b15 b16 u FB FY FR FP FPl FD FDl FN
    have hHeld := hS.out _ FB
    rw [hT, ha0]
    try simp only [List.getElem_toArray, List.getElem_cons_zero, List.getElem_cons_succ, Act.put, List.setIfInBounds_toArray, List.set_cons_zero, List.set_cons_succ]
    refine wpT_one (i := 7) (by kernel_rfl) rfl (fun K hK => ?_)
    go_simp
    have FB2 := hBx.out _ _ FB (below_box0 u (.cells #[.int .i64 x] 3))
    refine hK.out _ _ ?_ (fun hHeld => ?_)
    · exact hS.out _ FB2
    clear hK K hHeld
    try simp only [List.getElem_toArray, List.getElem_cons_zero, List.getElem_cons_succ, Act.put, List.setIfInBounds_toArray, List.set_cons_zero, List.set_cons_succ]
    have hG := G5_7_15_16 Y B A1 B1 u.heap.size b15 b16 (u.alloc (.cells #[.int .i64 x] 3)) FB2 (Lib.hid (FY.out.below (below_box0 u (.cells #[.int .i64 x] 3)))) (Lib.hid (FR.out.below (below_box0 u (.cells #[.int .i64 x] 3)))) (Lib.hid (sl_of_cells (cells1 u 3 x))) (Lib.hid (FP.out.below (below_box0 u (.cells #[.int .i64 x] 3)))) (FPl) (Lib.hid (FD.out.below (below_box0 u (.cells #[.int .i64 x] 3)))) (FDl) (FN)
    rw [hT, ha0] at hG
    (try simp only [List.getElem_toArray, List.getElem_cons_zero, List.getElem_cons_succ, Act.put, List.setIfInBounds_toArray, List.set_cons_zero, List.set_cons_succ] at hG)
    exact hG
  have G7_15_16 : ∀ (g7 : Nat) (b15 : Nat) (b16 : Nat) (u : World), (Hid (Below w0.heap.size w0 u ∧ Below w3.heap.size w3 u ∧ Below wA.heap.size wA u)) → (Hid (Sl u (some ⟨g7, 0, none⟩) [x])) → (Hid (QBlk u b15 (.slice none 0 0) (.int .i64 0) (.slice none 0 0))) → (Hid (wA.heap.size ≤ b15)) → (Hid (DBlk u b16 (zer 32) 0)) → (Hid (wA.heap.size ≤ b16)) → (Hid (b15 ≠ b16)) → T 9 #[true, true, true, true, true, false, true, true, true, true, false, false, false, false, false, true, true, false, false, false] (((a0.put (some 101) (.slice (some ⟨g7, 0, none⟩) 1 1)).put (some 19) (.pointer (some ⟨b15, 0, none⟩))).put (some 20) (.pointer (some ⟨b16, 0, none⟩))) u := by
    intro g7 b15 b16 u FB FX FP FPl FD FDl FN
    have hHeld := hS.out _ FB
    rw [hT, ha0]
    try simp only [List.getElem_toArray, List.getElem_cons_zero, List.getElem_cons_succ, Act.put, List.setIfInBounds_toArray, List.set_cons_zero, List.set_cons_succ]
    refine wpT_one (i := 5) (by kernel_rfl) rfl (fun K hK => ?_)
    go_simp
    refine (rerelation_any a ya b yb _).mono ?_
    intro e wB hR
    obtain ⟨Y, B, A1, B1, rfl, hY, hB, hq⟩ := hR
    have FY := Lib.hid hY
    have FR := Lib.hid hB
    clear hY hB
    have FB2 := hBx.out _ _ FB hq
    refine hK.out _ _ ?_ (fun hHeld => ?_)
    · exact hS.out _ FB2
    clear hK K hHeld
    try simp only [List.getElem_toArray, List.getElem_cons_zero, List.getElem_cons_succ, Act.put, List.setIfInBounds_toArray, List.set_cons_zero, List.set_cons_succ]
    have hG := G5_7_15_16 Y B A1 B1 g7 b15 b16 wB FB2 FY FR (Lib.hid (FX.out.below hq)) (Lib.hid (FP.out.below hq)) (FPl) (Lib.hid (FD.out.below hq)) (FDl) (FN)
    rw [hT, ha0] at hG
    (try simp only [List.getElem_toArray, List.getElem_cons_zero, List.getElem_cons_succ, Act.put, List.setIfInBounds_toArray, List.set_cons_zero, List.set_cons_succ] at hG)
    exact hG
  have G5_7 : ∀ (Y B A1 B1 : Option Addr) (g7 : Nat) (u : World), (Hid (Below w0.heap.size w0 u ∧ Below w3.heap.size w3 u ∧ Below wA.heap.size wA u)) → (Hid (Sl u Y [ya, yb])) → (Hid (Rw u B (eqRows A1 B1 a b))) → (Hid (Sl u (some ⟨g7, 0, none⟩) [x])) → T 10 #[true, true, true, true, true, true, true, true, true, true, false, false, false, false, false, false, false, false, false, false] ((a0.put (some 99) (relV Y 2 2 B 2 2)).put (some 101) (.slice (some ⟨g7, 0, none⟩) 1 1)) u := by
    intro Y B A1 B1 g7 u FB FY FR FX
    have hHeld := hS.out _ FB
    rw [hT, ha0]
    try simp only [List.getElem_toArray, List.getElem_cons_zero, List.getElem_cons_succ, Act.put, List.setIfInBounds_toArray, List.set_cons_zero, List.set_cons_succ]
    refine wpT_three (i1 := 10) (i2 := 15) (i3 := 16) (by kernel_rfl) rfl rfl rfl (fun K hK => ?_) (fun K hK => ?_) (fun K hK => ?_)
    · skip
      go_simp
      refine (lprove_f P Q G Y [ya, yb] 2 2 B (eqRows A1 B1 a b) 2 2 (some ⟨g7, 0, none⟩) [x] 1 1 s h c (Lib.hid rfl) (Lib.hid rfl) (Lib.hid rfl) n1b hs9 hl hQ hhb hr hdr HCR HHO HST _ (kV.out _ (Lib.hid FB.out.1)) (kD.out _ (Lib.hid FB.out.1)) FY FR FX).mono ?_
      rintro e wB ⟨rfl, hq⟩
      rw [show PrvE (.agg #[.slice none 0 0, .int .i64 0, .slice none 0 0]) (zer 32) 0 5 = .tuple #[.agg #[.slice none 0 0, .int .i64 0, .slice none 0 0], .agg (tcs (zer 32) 0), .int .i64 5] from rfl]
      have FB2 := hBx.out _ _ FB hq
      refine hK.out _ _ ?_ (fun hHeld => ?_)
      · exact hS.out _ FB2
      clear hK K
      try simp only [List.getElem_toArray, List.getElem_cons_zero, List.getElem_cons_succ, Act.put, List.setIfInBounds_toArray, List.set_cons_zero, List.set_cons_succ]
      refine wpT_take (i := 11) (oi := _) (v := ?_) rfl (by kernel_rfl) (by kernel_rfl) (by kernel_rfl) (by kernel_rfl) (fun _ _ _ h => h) (Or.inl ⟨by rfl, ?_⟩) (by assumption) ?_
      rotate_left; (intro wS hSw; (try dsimp only at hSw); go_simp <;> with_reducible rfl)
      try simp only [List.getElem_toArray, List.getElem_cons_zero, List.getElem_cons_succ, Act.put, List.setIfInBounds_toArray, List.set_cons_zero, List.set_cons_succ]
      refine wpT_take (i := 12) (oi := _) (v := ?_) rfl (by kernel_rfl) (by kernel_rfl) (by kernel_rfl) (by kernel_rfl) (fun _ _ _ h => h) (Or.inl ⟨by rfl, ?_⟩) (by assumption) ?_
      rotate_left; (intro wS hSw; (try dsimp only at hSw); go_simp <;> with_reducible rfl)
      try simp only [List.getElem_toArray, List.getElem_cons_zero, List.getElem_cons_succ, Act.put, List.setIfInBounds_toArray, List.set_cons_zero, List.set_cons_succ]
      refine wpT_take (i := 13) (oi := _) (v := ?_) rfl (by kernel_rfl) (by kernel_rfl) (by kernel_rfl) (by kernel_rfl) (fun _ _ _ h => h) (Or.inl ⟨by rfl, ?_⟩) (by assumption) ?_
      rotate_left; (intro wS hSw; (try dsimp only at hSw); go_simp <;> with_reducible rfl)
      try simp only [List.getElem_toArray, List.getElem_cons_zero, List.getElem_cons_succ, Act.put, List.setIfInBounds_toArray, List.set_cons_zero, List.set_cons_succ]
      refine wpT_take (i := 14) (oi := _) (v := ?_) rfl (by kernel_rfl) (by kernel_rfl) (by kernel_rfl) (by kernel_rfl) (fun _ _ _ h => h) (Or.inl ⟨by rfl, ?_⟩) (by assumption) ?_
      rotate_left; (intro wS hSw; (try dsimp only at hSw); go_simp <;> with_reducible rfl)
      try simp only [List.getElem_toArray, List.getElem_cons_zero, List.getElem_cons_succ, Act.put, List.setIfInBounds_toArray, List.set_cons_zero, List.set_cons_succ]
      clear hHeld
      have hG := G5_7_10 Y B A1 B1 g7 wB FB2 (Lib.hid (FY.out.below hq)) (Lib.hid (FR.out.below hq)) (Lib.hid (FX.out.below hq))
      rw [hT, ha0] at hG
      (try simp only [List.getElem_toArray, List.getElem_cons_zero, List.getElem_cons_succ, Act.put, List.setIfInBounds_toArray, List.set_cons_zero, List.set_cons_succ] at hG)
      exact hG
    · skip
      go_simp
      have FB2 := hBx.out _ _ FB (below_box0 u (.cells #[.slice none 0 0, .int .i64 0, .slice none 0 0] 28))
      refine hK.out _ _ ?_ (fun hHeld => ?_)
      · exact hS.out _ FB2
      clear hK K hHeld
      try simp only [List.getElem_toArray, List.getElem_cons_zero, List.getElem_cons_succ, Act.put, List.setIfInBounds_toArray, List.set_cons_zero, List.set_cons_succ]
      have hG := G5_7_15 Y B A1 B1 g7 u.heap.size (u.alloc (.cells #[.slice none 0 0, .int .i64 0, .slice none 0 0] 28)) FB2 (Lib.hid (FY.out.below (below_box0 u (.cells #[.slice none 0 0, .int .i64 0, .slice none 0 0] 28)))) (Lib.hid (FR.out.below (below_box0 u (.cells #[.slice none 0 0, .int .i64 0, .slice none 0 0] 28)))) (Lib.hid (FX.out.below (below_box0 u (.cells #[.slice none 0 0, .int .i64 0, .slice none 0 0] 28)))) (Lib.hid (heap_alloc_new _ _)) (Lib.hid (FB.out.2.2.size))
      rw [hT, ha0] at hG
      (try simp only [List.getElem_toArray, List.getElem_cons_zero, List.getElem_cons_succ, Act.put, List.setIfInBounds_toArray, List.set_cons_zero, List.set_cons_succ] at hG)
      exact hG
    · skip
      go_simp
      have FB2 := hBx.out _ _ FB (below_box0 u (.cells #[.int .u8 0, .int .u8 0, .int .u8 0, .int .u8 0, .int .u8 0, .int .u8 0, .int .u8 0, .int .u8 0, .int .u8 0, .int .u8 0, .int .u8 0, .int .u8 0, .int .u8 0, .int .u8 0, .int .u8 0, .int .u8 0, .int .u8 0, .int .u8 0, .int .u8 0, .int .u8 0, .int .u8 0, .int .u8 0, .int .u8 0, .int .u8 0, .int .u8 0, .int .u8 0, .int .u8 0, .int .u8 0, .int .u8 0, .int .u8 0, .int .u8 0, .int .u8 0, .int .i64 0] 56))
      refine hK.out _ _ ?_ (fun hHeld => ?_)
      · exact hS.out _ FB2
      clear hK K hHeld
      try simp only [List.getElem_toArray, List.getElem_cons_zero, List.getElem_cons_succ, Act.put, List.setIfInBounds_toArray, List.set_cons_zero, List.set_cons_succ]
      have hG := G5_7_16 Y B A1 B1 g7 u.heap.size (u.alloc (.cells #[.int .u8 0, .int .u8 0, .int .u8 0, .int .u8 0, .int .u8 0, .int .u8 0, .int .u8 0, .int .u8 0, .int .u8 0, .int .u8 0, .int .u8 0, .int .u8 0, .int .u8 0, .int .u8 0, .int .u8 0, .int .u8 0, .int .u8 0, .int .u8 0, .int .u8 0, .int .u8 0, .int .u8 0, .int .u8 0, .int .u8 0, .int .u8 0, .int .u8 0, .int .u8 0, .int .u8 0, .int .u8 0, .int .u8 0, .int .u8 0, .int .u8 0, .int .u8 0, .int .i64 0] 56)) FB2 (Lib.hid (FY.out.below (below_box0 u (.cells #[.int .u8 0, .int .u8 0, .int .u8 0, .int .u8 0, .int .u8 0, .int .u8 0, .int .u8 0, .int .u8 0, .int .u8 0, .int .u8 0, .int .u8 0, .int .u8 0, .int .u8 0, .int .u8 0, .int .u8 0, .int .u8 0, .int .u8 0, .int .u8 0, .int .u8 0, .int .u8 0, .int .u8 0, .int .u8 0, .int .u8 0, .int .u8 0, .int .u8 0, .int .u8 0, .int .u8 0, .int .u8 0, .int .u8 0, .int .u8 0, .int .u8 0, .int .u8 0, .int .i64 0] 56)))) (Lib.hid (FR.out.below (below_box0 u (.cells #[.int .u8 0, .int .u8 0, .int .u8 0, .int .u8 0, .int .u8 0, .int .u8 0, .int .u8 0, .int .u8 0, .int .u8 0, .int .u8 0, .int .u8 0, .int .u8 0, .int .u8 0, .int .u8 0, .int .u8 0, .int .u8 0, .int .u8 0, .int .u8 0, .int .u8 0, .int .u8 0, .int .u8 0, .int .u8 0, .int .u8 0, .int .u8 0, .int .u8 0, .int .u8 0, .int .u8 0, .int .u8 0, .int .u8 0, .int .u8 0, .int .u8 0, .int .u8 0, .int .i64 0] 56)))) (Lib.hid (FX.out.below (below_box0 u (.cells #[.int .u8 0, .int .u8 0, .int .u8 0, .int .u8 0, .int .u8 0, .int .u8 0, .int .u8 0, .int .u8 0, .int .u8 0, .int .u8 0, .int .u8 0, .int .u8 0, .int .u8 0, .int .u8 0, .int .u8 0, .int .u8 0, .int .u8 0, .int .u8 0, .int .u8 0, .int .u8 0, .int .u8 0, .int .u8 0, .int .u8 0, .int .u8 0, .int .u8 0, .int .u8 0, .int .u8 0, .int .u8 0, .int .u8 0, .int .u8 0, .int .u8 0, .int .u8 0, .int .i64 0] 56)))) (Lib.hid (by rw [ztr]; exact DBlk.new u (zer 32) 0)) (Lib.hid (FB.out.2.2.size))
      rw [hT, ha0] at hG
      (try simp only [List.getElem_toArray, List.getElem_cons_zero, List.getElem_cons_succ, Act.put, List.setIfInBounds_toArray, List.set_cons_zero, List.set_cons_succ] at hG)
      exact hG
  have G5_15 : ∀ (Y B A1 B1 : Option Addr) (b15 : Nat) (u : World), (Hid (Below w0.heap.size w0 u ∧ Below w3.heap.size w3 u ∧ Below wA.heap.size wA u)) → (Hid (Sl u Y [ya, yb])) → (Hid (Rw u B (eqRows A1 B1 a b))) → (Hid (QBlk u b15 (.slice none 0 0) (.int .i64 0) (.slice none 0 0))) → (Hid (wA.heap.size ≤ b15)) → T 10 #[true, true, true, true, true, true, true, false, true, true, false, false, false, false, false, true, false, false, false, false] ((a0.put (some 99) (relV Y 2 2 B 2 2)).put (some 19) (.pointer (some ⟨b15, 0, none⟩))) u := by
    intro Y B A1 B1 b15 u FB FY FR FP FPl
    have hHeld := hS.out _ FB
    rw [hT, ha0]
    try simp only [List.getElem_toArray, List.getElem_cons_zero, List.getElem_cons_succ, Act.put, List.setIfInBounds_toArray, List.set_cons_zero, List.set_cons_succ]
    refine wpT_two (i1 := 7) (i2 := 16) (by kernel_rfl) rfl rfl (fun K hK => ?_) (fun K hK => ?_)
    · skip
      go_simp
      have FB2 := hBx.out _ _ FB (below_box0 u (.cells #[.int .i64 x] 3))
      refine hK.out _ _ ?_ (fun hHeld => ?_)
      · exact hS.out _ FB2
      clear hK K hHeld
      try simp only [List.getElem_toArray, List.getElem_cons_zero, List.getElem_cons_succ, Act.put, List.setIfInBounds_toArray, List.set_cons_zero, List.set_cons_succ]
      have hG := G5_7_15 Y B A1 B1 u.heap.size b15 (u.alloc (.cells #[.int .i64 x] 3)) FB2 (Lib.hid (FY.out.below (below_box0 u (.cells #[.int .i64 x] 3)))) (Lib.hid (FR.out.below (below_box0 u (.cells #[.int .i64 x] 3)))) (Lib.hid (sl_of_cells (cells1 u 3 x))) (Lib.hid (FP.out.below (below_box0 u (.cells #[.int .i64 x] 3)))) (FPl)
      rw [hT, ha0] at hG
      (try simp only [List.getElem_toArray, List.getElem_cons_zero, List.getElem_cons_succ, Act.put, List.setIfInBounds_toArray, List.set_cons_zero, List.set_cons_succ] at hG)
      exact hG
    · skip
      go_simp
      have FB2 := hBx.out _ _ FB (below_box0 u (.cells #[.int .u8 0, .int .u8 0, .int .u8 0, .int .u8 0, .int .u8 0, .int .u8 0, .int .u8 0, .int .u8 0, .int .u8 0, .int .u8 0, .int .u8 0, .int .u8 0, .int .u8 0, .int .u8 0, .int .u8 0, .int .u8 0, .int .u8 0, .int .u8 0, .int .u8 0, .int .u8 0, .int .u8 0, .int .u8 0, .int .u8 0, .int .u8 0, .int .u8 0, .int .u8 0, .int .u8 0, .int .u8 0, .int .u8 0, .int .u8 0, .int .u8 0, .int .u8 0, .int .i64 0] 56))
      refine hK.out _ _ ?_ (fun hHeld => ?_)
      · exact hS.out _ FB2
      clear hK K hHeld
      try simp only [List.getElem_toArray, List.getElem_cons_zero, List.getElem_cons_succ, Act.put, List.setIfInBounds_toArray, List.set_cons_zero, List.set_cons_succ]
      have hG := G5_15_16 Y B A1 B1 b15 u.heap.size (u.alloc (.cells #[.int .u8 0, .int .u8 0, .int .u8 0, .int .u8 0, .int .u8 0, .int .u8 0, .int .u8 0, .int .u8 0, .int .u8 0, .int .u8 0, .int .u8 0, .int .u8 0, .int .u8 0, .int .u8 0, .int .u8 0, .int .u8 0, .int .u8 0, .int .u8 0, .int .u8 0, .int .u8 0, .int .u8 0, .int .u8 0, .int .u8 0, .int .u8 0, .int .u8 0, .int .u8 0, .int .u8 0, .int .u8 0, .int .u8 0, .int .u8 0, .int .u8 0, .int .u8 0, .int .i64 0] 56)) FB2 (Lib.hid (FY.out.below (below_box0 u (.cells #[.int .u8 0, .int .u8 0, .int .u8 0, .int .u8 0, .int .u8 0, .int .u8 0, .int .u8 0, .int .u8 0, .int .u8 0, .int .u8 0, .int .u8 0, .int .u8 0, .int .u8 0, .int .u8 0, .int .u8 0, .int .u8 0, .int .u8 0, .int .u8 0, .int .u8 0, .int .u8 0, .int .u8 0, .int .u8 0, .int .u8 0, .int .u8 0, .int .u8 0, .int .u8 0, .int .u8 0, .int .u8 0, .int .u8 0, .int .u8 0, .int .u8 0, .int .u8 0, .int .i64 0] 56)))) (Lib.hid (FR.out.below (below_box0 u (.cells #[.int .u8 0, .int .u8 0, .int .u8 0, .int .u8 0, .int .u8 0, .int .u8 0, .int .u8 0, .int .u8 0, .int .u8 0, .int .u8 0, .int .u8 0, .int .u8 0, .int .u8 0, .int .u8 0, .int .u8 0, .int .u8 0, .int .u8 0, .int .u8 0, .int .u8 0, .int .u8 0, .int .u8 0, .int .u8 0, .int .u8 0, .int .u8 0, .int .u8 0, .int .u8 0, .int .u8 0, .int .u8 0, .int .u8 0, .int .u8 0, .int .u8 0, .int .u8 0, .int .i64 0] 56)))) (Lib.hid (FP.out.below (below_box0 u (.cells #[.int .u8 0, .int .u8 0, .int .u8 0, .int .u8 0, .int .u8 0, .int .u8 0, .int .u8 0, .int .u8 0, .int .u8 0, .int .u8 0, .int .u8 0, .int .u8 0, .int .u8 0, .int .u8 0, .int .u8 0, .int .u8 0, .int .u8 0, .int .u8 0, .int .u8 0, .int .u8 0, .int .u8 0, .int .u8 0, .int .u8 0, .int .u8 0, .int .u8 0, .int .u8 0, .int .u8 0, .int .u8 0, .int .u8 0, .int .u8 0, .int .u8 0, .int .u8 0, .int .i64 0] 56)))) (FPl) (Lib.hid (by rw [ztr]; exact DBlk.new u (zer 32) 0)) (Lib.hid (FB.out.2.2.size)) (Lib.hid (fun e => by have := FP.out.lt; omega))
      rw [hT, ha0] at hG
      (try simp only [List.getElem_toArray, List.getElem_cons_zero, List.getElem_cons_succ, Act.put, List.setIfInBounds_toArray, List.set_cons_zero, List.set_cons_succ] at hG)
      exact hG
  have G5_16 : ∀ (Y B A1 B1 : Option Addr) (b16 : Nat) (u : World), (Hid (Below w0.heap.size w0 u ∧ Below w3.heap.size w3 u ∧ Below wA.heap.size wA u)) → (Hid (Sl u Y [ya, yb])) → (Hid (Rw u B (eqRows A1 B1 a b))) → (Hid (DBlk u b16 (zer 32) 0)) → (Hid (wA.heap.size ≤ b16)) → T 10 #[true, true, true, true, true, true, true, false, true, true, false, false, false, false, false, false, true, false, false, false] ((a0.put (some 99) (relV Y 2 2 B 2 2)).put (some 20) (.pointer (some ⟨b16, 0, none⟩))) u := by
    intro Y B A1 B1 b16 u FB FY FR FD FDl
    have hHeld := hS.out _ FB
    rw [hT, ha0]
    try simp only [List.getElem_toArray, List.getElem_cons_zero, List.getElem_cons_succ, Act.put, List.setIfInBounds_toArray, List.set_cons_zero, List.set_cons_succ]
    refine wpT_two (i1 := 7) (i2 := 15) (by kernel_rfl) rfl rfl (fun K hK => ?_) (fun K hK => ?_)
    · skip
      go_simp
      have FB2 := hBx.out _ _ FB (below_box0 u (.cells #[.int .i64 x] 3))
      refine hK.out _ _ ?_ (fun hHeld => ?_)
      · exact hS.out _ FB2
      clear hK K hHeld
      try simp only [List.getElem_toArray, List.getElem_cons_zero, List.getElem_cons_succ, Act.put, List.setIfInBounds_toArray, List.set_cons_zero, List.set_cons_succ]
      have hG := G5_7_16 Y B A1 B1 u.heap.size b16 (u.alloc (.cells #[.int .i64 x] 3)) FB2 (Lib.hid (FY.out.below (below_box0 u (.cells #[.int .i64 x] 3)))) (Lib.hid (FR.out.below (below_box0 u (.cells #[.int .i64 x] 3)))) (Lib.hid (sl_of_cells (cells1 u 3 x))) (Lib.hid (FD.out.below (below_box0 u (.cells #[.int .i64 x] 3)))) (FDl)
      rw [hT, ha0] at hG
      (try simp only [List.getElem_toArray, List.getElem_cons_zero, List.getElem_cons_succ, Act.put, List.setIfInBounds_toArray, List.set_cons_zero, List.set_cons_succ] at hG)
      exact hG
    · skip
      go_simp
      have FB2 := hBx.out _ _ FB (below_box0 u (.cells #[.slice none 0 0, .int .i64 0, .slice none 0 0] 28))
      refine hK.out _ _ ?_ (fun hHeld => ?_)
      · exact hS.out _ FB2
      clear hK K hHeld
      try simp only [List.getElem_toArray, List.getElem_cons_zero, List.getElem_cons_succ, Act.put, List.setIfInBounds_toArray, List.set_cons_zero, List.set_cons_succ]
      have hG := G5_15_16 Y B A1 B1 u.heap.size b16 (u.alloc (.cells #[.slice none 0 0, .int .i64 0, .slice none 0 0] 28)) FB2 (Lib.hid (FY.out.below (below_box0 u (.cells #[.slice none 0 0, .int .i64 0, .slice none 0 0] 28)))) (Lib.hid (FR.out.below (below_box0 u (.cells #[.slice none 0 0, .int .i64 0, .slice none 0 0] 28)))) (Lib.hid (heap_alloc_new _ _)) (Lib.hid (FB.out.2.2.size)) (Lib.hid (FD.out.below (below_box0 u (.cells #[.slice none 0 0, .int .i64 0, .slice none 0 0] 28)))) (FDl) (Lib.hid (fun e => by have := FD.out.lt; omega))
      rw [hT, ha0] at hG
      (try simp only [List.getElem_toArray, List.getElem_cons_zero, List.getElem_cons_succ, Act.put, List.setIfInBounds_toArray, List.set_cons_zero, List.set_cons_succ] at hG)
      exact hG
  have G7_15 : ∀ (g7 : Nat) (b15 : Nat) (u : World), (Hid (Below w0.heap.size w0 u ∧ Below w3.heap.size w3 u ∧ Below wA.heap.size wA u)) → (Hid (Sl u (some ⟨g7, 0, none⟩) [x])) → (Hid (QBlk u b15 (.slice none 0 0) (.int .i64 0) (.slice none 0 0))) → (Hid (wA.heap.size ≤ b15)) → T 10 #[true, true, true, true, true, false, true, true, true, true, false, false, false, false, false, true, false, false, false, false] ((a0.put (some 101) (.slice (some ⟨g7, 0, none⟩) 1 1)).put (some 19) (.pointer (some ⟨b15, 0, none⟩))) u := by
    intro g7 b15 u FB FX FP FPl
    have hHeld := hS.out _ FB
    rw [hT, ha0]
    try simp only [List.getElem_toArray, List.getElem_cons_zero, List.getElem_cons_succ, Act.put, List.setIfInBounds_toArray, List.set_cons_zero, List.set_cons_succ]
    refine wpT_two (i1 := 5) (i2 := 16) (by kernel_rfl) rfl rfl (fun K hK => ?_) (fun K hK => ?_)
    · skip
      go_simp
      refine (rerelation_any a ya b yb _).mono ?_
      intro e wB hR
      obtain ⟨Y, B, A1, B1, rfl, hY, hB, hq⟩ := hR
      have FY := Lib.hid hY
      have FR := Lib.hid hB
      clear hY hB
      have FB2 := hBx.out _ _ FB hq
      refine hK.out _ _ ?_ (fun hHeld => ?_)
      · exact hS.out _ FB2
      clear hK K hHeld
      try simp only [List.getElem_toArray, List.getElem_cons_zero, List.getElem_cons_succ, Act.put, List.setIfInBounds_toArray, List.set_cons_zero, List.set_cons_succ]
      have hG := G5_7_15 Y B A1 B1 g7 b15 wB FB2 FY FR (Lib.hid (FX.out.below hq)) (Lib.hid (FP.out.below hq)) (FPl)
      rw [hT, ha0] at hG
      (try simp only [List.getElem_toArray, List.getElem_cons_zero, List.getElem_cons_succ, Act.put, List.setIfInBounds_toArray, List.set_cons_zero, List.set_cons_succ] at hG)
      exact hG
    · skip
      go_simp
      have FB2 := hBx.out _ _ FB (below_box0 u (.cells #[.int .u8 0, .int .u8 0, .int .u8 0, .int .u8 0, .int .u8 0, .int .u8 0, .int .u8 0, .int .u8 0, .int .u8 0, .int .u8 0, .int .u8 0, .int .u8 0, .int .u8 0, .int .u8 0, .int .u8 0, .int .u8 0, .int .u8 0, .int .u8 0, .int .u8 0, .int .u8 0, .int .u8 0, .int .u8 0, .int .u8 0, .int .u8 0, .int .u8 0, .int .u8 0, .int .u8 0, .int .u8 0, .int .u8 0, .int .u8 0, .int .u8 0, .int .u8 0, .int .i64 0] 56))
      refine hK.out _ _ ?_ (fun hHeld => ?_)
      · exact hS.out _ FB2
      clear hK K hHeld
      try simp only [List.getElem_toArray, List.getElem_cons_zero, List.getElem_cons_succ, Act.put, List.setIfInBounds_toArray, List.set_cons_zero, List.set_cons_succ]
      have hG := G7_15_16 g7 b15 u.heap.size (u.alloc (.cells #[.int .u8 0, .int .u8 0, .int .u8 0, .int .u8 0, .int .u8 0, .int .u8 0, .int .u8 0, .int .u8 0, .int .u8 0, .int .u8 0, .int .u8 0, .int .u8 0, .int .u8 0, .int .u8 0, .int .u8 0, .int .u8 0, .int .u8 0, .int .u8 0, .int .u8 0, .int .u8 0, .int .u8 0, .int .u8 0, .int .u8 0, .int .u8 0, .int .u8 0, .int .u8 0, .int .u8 0, .int .u8 0, .int .u8 0, .int .u8 0, .int .u8 0, .int .u8 0, .int .i64 0] 56)) FB2 (Lib.hid (FX.out.below (below_box0 u (.cells #[.int .u8 0, .int .u8 0, .int .u8 0, .int .u8 0, .int .u8 0, .int .u8 0, .int .u8 0, .int .u8 0, .int .u8 0, .int .u8 0, .int .u8 0, .int .u8 0, .int .u8 0, .int .u8 0, .int .u8 0, .int .u8 0, .int .u8 0, .int .u8 0, .int .u8 0, .int .u8 0, .int .u8 0, .int .u8 0, .int .u8 0, .int .u8 0, .int .u8 0, .int .u8 0, .int .u8 0, .int .u8 0, .int .u8 0, .int .u8 0, .int .u8 0, .int .u8 0, .int .i64 0] 56)))) (Lib.hid (FP.out.below (below_box0 u (.cells #[.int .u8 0, .int .u8 0, .int .u8 0, .int .u8 0, .int .u8 0, .int .u8 0, .int .u8 0, .int .u8 0, .int .u8 0, .int .u8 0, .int .u8 0, .int .u8 0, .int .u8 0, .int .u8 0, .int .u8 0, .int .u8 0, .int .u8 0, .int .u8 0, .int .u8 0, .int .u8 0, .int .u8 0, .int .u8 0, .int .u8 0, .int .u8 0, .int .u8 0, .int .u8 0, .int .u8 0, .int .u8 0, .int .u8 0, .int .u8 0, .int .u8 0, .int .u8 0, .int .i64 0] 56)))) (FPl) (Lib.hid (by rw [ztr]; exact DBlk.new u (zer 32) 0)) (Lib.hid (FB.out.2.2.size)) (Lib.hid (fun e => by have := FP.out.lt; omega))
      rw [hT, ha0] at hG
      (try simp only [List.getElem_toArray, List.getElem_cons_zero, List.getElem_cons_succ, Act.put, List.setIfInBounds_toArray, List.set_cons_zero, List.set_cons_succ] at hG)
      exact hG
  have G7_16 : ∀ (g7 : Nat) (b16 : Nat) (u : World), (Hid (Below w0.heap.size w0 u ∧ Below w3.heap.size w3 u ∧ Below wA.heap.size wA u)) → (Hid (Sl u (some ⟨g7, 0, none⟩) [x])) → (Hid (DBlk u b16 (zer 32) 0)) → (Hid (wA.heap.size ≤ b16)) → T 10 #[true, true, true, true, true, false, true, true, true, true, false, false, false, false, false, false, true, false, false, false] ((a0.put (some 101) (.slice (some ⟨g7, 0, none⟩) 1 1)).put (some 20) (.pointer (some ⟨b16, 0, none⟩))) u := by
    intro g7 b16 u FB FX FD FDl
    have hHeld := hS.out _ FB
    rw [hT, ha0]
    try simp only [List.getElem_toArray, List.getElem_cons_zero, List.getElem_cons_succ, Act.put, List.setIfInBounds_toArray, List.set_cons_zero, List.set_cons_succ]
    refine wpT_two (i1 := 5) (i2 := 15) (by kernel_rfl) rfl rfl (fun K hK => ?_) (fun K hK => ?_)
    · skip
      go_simp
      refine (rerelation_any a ya b yb _).mono ?_
      intro e wB hR
      obtain ⟨Y, B, A1, B1, rfl, hY, hB, hq⟩ := hR
      have FY := Lib.hid hY
      have FR := Lib.hid hB
      clear hY hB
      have FB2 := hBx.out _ _ FB hq
      refine hK.out _ _ ?_ (fun hHeld => ?_)
      · exact hS.out _ FB2
      clear hK K hHeld
      try simp only [List.getElem_toArray, List.getElem_cons_zero, List.getElem_cons_succ, Act.put, List.setIfInBounds_toArray, List.set_cons_zero, List.set_cons_succ]
      have hG := G5_7_16 Y B A1 B1 g7 b16 wB FB2 FY FR (Lib.hid (FX.out.below hq)) (Lib.hid (FD.out.below hq)) (FDl)
      rw [hT, ha0] at hG
      (try simp only [List.getElem_toArray, List.getElem_cons_zero, List.getElem_cons_succ, Act.put, List.setIfInBounds_toArray, List.set_cons_zero, List.set_cons_succ] at hG)
      exact hG
    · skip
      go_simp
      have FB2 := hBx.out _ _ FB (below_box0 u (.cells #[.slice none 0 0, .int .i64 0, .slice none 0 0] 28))
      refine hK.out _ _ ?_ (fun hHeld => ?_)
      · exact hS.out _ FB2
      clear hK K hHeld
      try simp only [List.getElem_toArray, List.getElem_cons_zero, List.getElem_cons_succ, Act.put, List.setIfInBounds_toArray, List.set_cons_zero, List.set_cons_succ]
      have hG := G7_15_16 g7 u.heap.size b16 (u.alloc (.cells #[.slice none 0 0, .int .i64 0, .slice none 0 0] 28)) FB2 (Lib.hid (FX.out.below (below_box0 u (.cells #[.slice none 0 0, .int .i64 0, .slice none 0 0] 28)))) (Lib.hid (heap_alloc_new _ _)) (Lib.hid (FB.out.2.2.size)) (Lib.hid (FD.out.below (below_box0 u (.cells #[.slice none 0 0, .int .i64 0, .slice none 0 0] 28)))) (FDl) (Lib.hid (fun e => by have := FD.out.lt; omega))
      rw [hT, ha0] at hG
      (try simp only [List.getElem_toArray, List.getElem_cons_zero, List.getElem_cons_succ, Act.put, List.setIfInBounds_toArray, List.set_cons_zero, List.set_cons_succ] at hG)
      exact hG
  have G15_16 : ∀ (b15 : Nat) (b16 : Nat) (u : World), (Hid (Below w0.heap.size w0 u ∧ Below w3.heap.size w3 u ∧ Below wA.heap.size wA u)) → (Hid (QBlk u b15 (.slice none 0 0) (.int .i64 0) (.slice none 0 0))) → (Hid (wA.heap.size ≤ b15)) → (Hid (DBlk u b16 (zer 32) 0)) → (Hid (wA.heap.size ≤ b16)) → (Hid (b15 ≠ b16)) → T 10 #[true, true, true, true, true, false, true, false, true, true, false, false, false, false, false, true, true, false, false, false] ((a0.put (some 19) (.pointer (some ⟨b15, 0, none⟩))).put (some 20) (.pointer (some ⟨b16, 0, none⟩))) u := by
    intro b15 b16 u FB FP FPl FD FDl FN
    have hHeld := hS.out _ FB
    rw [hT, ha0]
    try simp only [List.getElem_toArray, List.getElem_cons_zero, List.getElem_cons_succ, Act.put, List.setIfInBounds_toArray, List.set_cons_zero, List.set_cons_succ]
    refine wpT_two (i1 := 5) (i2 := 7) (by kernel_rfl) rfl rfl (fun K hK => ?_) (fun K hK => ?_)
    · skip
      go_simp
      refine (rerelation_any a ya b yb _).mono ?_
      intro e wB hR
      obtain ⟨Y, B, A1, B1, rfl, hY, hB, hq⟩ := hR
      have FY := Lib.hid hY
      have FR := Lib.hid hB
      clear hY hB
      have FB2 := hBx.out _ _ FB hq
      refine hK.out _ _ ?_ (fun hHeld => ?_)
      · exact hS.out _ FB2
      clear hK K hHeld
      try simp only [List.getElem_toArray, List.getElem_cons_zero, List.getElem_cons_succ, Act.put, List.setIfInBounds_toArray, List.set_cons_zero, List.set_cons_succ]
      have hG := G5_15_16 Y B A1 B1 b15 b16 wB FB2 FY FR (Lib.hid (FP.out.below hq)) (FPl) (Lib.hid (FD.out.below hq)) (FDl) (FN)
      rw [hT, ha0] at hG
      (try simp only [List.getElem_toArray, List.getElem_cons_zero, List.getElem_cons_succ, Act.put, List.setIfInBounds_toArray, List.set_cons_zero, List.set_cons_succ] at hG)
      exact hG
    · skip
      go_simp
      have FB2 := hBx.out _ _ FB (below_box0 u (.cells #[.int .i64 x] 3))
      refine hK.out _ _ ?_ (fun hHeld => ?_)
      · exact hS.out _ FB2
      clear hK K hHeld
      try simp only [List.getElem_toArray, List.getElem_cons_zero, List.getElem_cons_succ, Act.put, List.setIfInBounds_toArray, List.set_cons_zero, List.set_cons_succ]
      have hG := G7_15_16 u.heap.size b15 b16 (u.alloc (.cells #[.int .i64 x] 3)) FB2 (Lib.hid (sl_of_cells (cells1 u 3 x))) (Lib.hid (FP.out.below (below_box0 u (.cells #[.int .i64 x] 3)))) (FPl) (Lib.hid (FD.out.below (below_box0 u (.cells #[.int .i64 x] 3)))) (FDl) (FN)
      rw [hT, ha0] at hG
      (try simp only [List.getElem_toArray, List.getElem_cons_zero, List.getElem_cons_succ, Act.put, List.setIfInBounds_toArray, List.set_cons_zero, List.set_cons_succ] at hG)
      exact hG
  have G5 : ∀ (Y B A1 B1 : Option Addr) (u : World), (Hid (Below w0.heap.size w0 u ∧ Below w3.heap.size w3 u ∧ Below wA.heap.size wA u)) → (Hid (Sl u Y [ya, yb])) → (Hid (Rw u B (eqRows A1 B1 a b))) → T 11 #[true, true, true, true, true, true, true, false, true, true, false, false, false, false, false, false, false, false, false, false] (a0.put (some 99) (relV Y 2 2 B 2 2)) u := by
    intro Y B A1 B1 u FB FY FR
    have hHeld := hS.out _ FB
    rw [hT, ha0]
    try simp only [List.getElem_toArray, List.getElem_cons_zero, List.getElem_cons_succ, Act.put, List.setIfInBounds_toArray, List.set_cons_zero, List.set_cons_succ]
    refine wpT_three (i1 := 7) (i2 := 15) (i3 := 16) (by kernel_rfl) rfl rfl rfl (fun K hK => ?_) (fun K hK => ?_) (fun K hK => ?_)
    · skip
      go_simp
      have FB2 := hBx.out _ _ FB (below_box0 u (.cells #[.int .i64 x] 3))
      refine hK.out _ _ ?_ (fun hHeld => ?_)
      · exact hS.out _ FB2
      clear hK K hHeld
      try simp only [List.getElem_toArray, List.getElem_cons_zero, List.getElem_cons_succ, Act.put, List.setIfInBounds_toArray, List.set_cons_zero, List.set_cons_succ]
      have hG := G5_7 Y B A1 B1 u.heap.size (u.alloc (.cells #[.int .i64 x] 3)) FB2 (Lib.hid (FY.out.below (below_box0 u (.cells #[.int .i64 x] 3)))) (Lib.hid (FR.out.below (below_box0 u (.cells #[.int .i64 x] 3)))) (Lib.hid (sl_of_cells (cells1 u 3 x)))
      rw [hT, ha0] at hG
      (try simp only [List.getElem_toArray, List.getElem_cons_zero, List.getElem_cons_succ, Act.put, List.setIfInBounds_toArray, List.set_cons_zero, List.set_cons_succ] at hG)
      exact hG
    · skip
      go_simp
      have FB2 := hBx.out _ _ FB (below_box0 u (.cells #[.slice none 0 0, .int .i64 0, .slice none 0 0] 28))
      refine hK.out _ _ ?_ (fun hHeld => ?_)
      · exact hS.out _ FB2
      clear hK K hHeld
      try simp only [List.getElem_toArray, List.getElem_cons_zero, List.getElem_cons_succ, Act.put, List.setIfInBounds_toArray, List.set_cons_zero, List.set_cons_succ]
      have hG := G5_15 Y B A1 B1 u.heap.size (u.alloc (.cells #[.slice none 0 0, .int .i64 0, .slice none 0 0] 28)) FB2 (Lib.hid (FY.out.below (below_box0 u (.cells #[.slice none 0 0, .int .i64 0, .slice none 0 0] 28)))) (Lib.hid (FR.out.below (below_box0 u (.cells #[.slice none 0 0, .int .i64 0, .slice none 0 0] 28)))) (Lib.hid (heap_alloc_new _ _)) (Lib.hid (FB.out.2.2.size))
      rw [hT, ha0] at hG
      (try simp only [List.getElem_toArray, List.getElem_cons_zero, List.getElem_cons_succ, Act.put, List.setIfInBounds_toArray, List.set_cons_zero, List.set_cons_succ] at hG)
      exact hG
    · skip
      go_simp
      have FB2 := hBx.out _ _ FB (below_box0 u (.cells #[.int .u8 0, .int .u8 0, .int .u8 0, .int .u8 0, .int .u8 0, .int .u8 0, .int .u8 0, .int .u8 0, .int .u8 0, .int .u8 0, .int .u8 0, .int .u8 0, .int .u8 0, .int .u8 0, .int .u8 0, .int .u8 0, .int .u8 0, .int .u8 0, .int .u8 0, .int .u8 0, .int .u8 0, .int .u8 0, .int .u8 0, .int .u8 0, .int .u8 0, .int .u8 0, .int .u8 0, .int .u8 0, .int .u8 0, .int .u8 0, .int .u8 0, .int .u8 0, .int .i64 0] 56))
      refine hK.out _ _ ?_ (fun hHeld => ?_)
      · exact hS.out _ FB2
      clear hK K hHeld
      try simp only [List.getElem_toArray, List.getElem_cons_zero, List.getElem_cons_succ, Act.put, List.setIfInBounds_toArray, List.set_cons_zero, List.set_cons_succ]
      have hG := G5_16 Y B A1 B1 u.heap.size (u.alloc (.cells #[.int .u8 0, .int .u8 0, .int .u8 0, .int .u8 0, .int .u8 0, .int .u8 0, .int .u8 0, .int .u8 0, .int .u8 0, .int .u8 0, .int .u8 0, .int .u8 0, .int .u8 0, .int .u8 0, .int .u8 0, .int .u8 0, .int .u8 0, .int .u8 0, .int .u8 0, .int .u8 0, .int .u8 0, .int .u8 0, .int .u8 0, .int .u8 0, .int .u8 0, .int .u8 0, .int .u8 0, .int .u8 0, .int .u8 0, .int .u8 0, .int .u8 0, .int .u8 0, .int .i64 0] 56)) FB2 (Lib.hid (FY.out.below (below_box0 u (.cells #[.int .u8 0, .int .u8 0, .int .u8 0, .int .u8 0, .int .u8 0, .int .u8 0, .int .u8 0, .int .u8 0, .int .u8 0, .int .u8 0, .int .u8 0, .int .u8 0, .int .u8 0, .int .u8 0, .int .u8 0, .int .u8 0, .int .u8 0, .int .u8 0, .int .u8 0, .int .u8 0, .int .u8 0, .int .u8 0, .int .u8 0, .int .u8 0, .int .u8 0, .int .u8 0, .int .u8 0, .int .u8 0, .int .u8 0, .int .u8 0, .int .u8 0, .int .u8 0, .int .i64 0] 56)))) (Lib.hid (FR.out.below (below_box0 u (.cells #[.int .u8 0, .int .u8 0, .int .u8 0, .int .u8 0, .int .u8 0, .int .u8 0, .int .u8 0, .int .u8 0, .int .u8 0, .int .u8 0, .int .u8 0, .int .u8 0, .int .u8 0, .int .u8 0, .int .u8 0, .int .u8 0, .int .u8 0, .int .u8 0, .int .u8 0, .int .u8 0, .int .u8 0, .int .u8 0, .int .u8 0, .int .u8 0, .int .u8 0, .int .u8 0, .int .u8 0, .int .u8 0, .int .u8 0, .int .u8 0, .int .u8 0, .int .u8 0, .int .i64 0] 56)))) (Lib.hid (by rw [ztr]; exact DBlk.new u (zer 32) 0)) (Lib.hid (FB.out.2.2.size))
      rw [hT, ha0] at hG
      (try simp only [List.getElem_toArray, List.getElem_cons_zero, List.getElem_cons_succ, Act.put, List.setIfInBounds_toArray, List.set_cons_zero, List.set_cons_succ] at hG)
      exact hG
  have G7 : ∀ (g7 : Nat) (u : World), (Hid (Below w0.heap.size w0 u ∧ Below w3.heap.size w3 u ∧ Below wA.heap.size wA u)) → (Hid (Sl u (some ⟨g7, 0, none⟩) [x])) → T 11 #[true, true, true, true, true, false, true, true, true, true, false, false, false, false, false, false, false, false, false, false] (a0.put (some 101) (.slice (some ⟨g7, 0, none⟩) 1 1)) u := by
    intro g7 u FB FX
    have hHeld := hS.out _ FB
    rw [hT, ha0]
    try simp only [List.getElem_toArray, List.getElem_cons_zero, List.getElem_cons_succ, Act.put, List.setIfInBounds_toArray, List.set_cons_zero, List.set_cons_succ]
    refine wpT_three (i1 := 5) (i2 := 15) (i3 := 16) (by kernel_rfl) rfl rfl rfl (fun K hK => ?_) (fun K hK => ?_) (fun K hK => ?_)
    · skip
      go_simp
      refine (rerelation_any a ya b yb _).mono ?_
      intro e wB hR
      obtain ⟨Y, B, A1, B1, rfl, hY, hB, hq⟩ := hR
      have FY := Lib.hid hY
      have FR := Lib.hid hB
      clear hY hB
      have FB2 := hBx.out _ _ FB hq
      refine hK.out _ _ ?_ (fun hHeld => ?_)
      · exact hS.out _ FB2
      clear hK K hHeld
      try simp only [List.getElem_toArray, List.getElem_cons_zero, List.getElem_cons_succ, Act.put, List.setIfInBounds_toArray, List.set_cons_zero, List.set_cons_succ]
      have hG := G5_7 Y B A1 B1 g7 wB FB2 FY FR (Lib.hid (FX.out.below hq))
      rw [hT, ha0] at hG
      (try simp only [List.getElem_toArray, List.getElem_cons_zero, List.getElem_cons_succ, Act.put, List.setIfInBounds_toArray, List.set_cons_zero, List.set_cons_succ] at hG)
      exact hG
    · skip
      go_simp
      have FB2 := hBx.out _ _ FB (below_box0 u (.cells #[.slice none 0 0, .int .i64 0, .slice none 0 0] 28))
      refine hK.out _ _ ?_ (fun hHeld => ?_)
      · exact hS.out _ FB2
      clear hK K hHeld
      try simp only [List.getElem_toArray, List.getElem_cons_zero, List.getElem_cons_succ, Act.put, List.setIfInBounds_toArray, List.set_cons_zero, List.set_cons_succ]
      have hG := G7_15 g7 u.heap.size (u.alloc (.cells #[.slice none 0 0, .int .i64 0, .slice none 0 0] 28)) FB2 (Lib.hid (FX.out.below (below_box0 u (.cells #[.slice none 0 0, .int .i64 0, .slice none 0 0] 28)))) (Lib.hid (heap_alloc_new _ _)) (Lib.hid (FB.out.2.2.size))
      rw [hT, ha0] at hG
      (try simp only [List.getElem_toArray, List.getElem_cons_zero, List.getElem_cons_succ, Act.put, List.setIfInBounds_toArray, List.set_cons_zero, List.set_cons_succ] at hG)
      exact hG
    · skip
      go_simp
      have FB2 := hBx.out _ _ FB (below_box0 u (.cells #[.int .u8 0, .int .u8 0, .int .u8 0, .int .u8 0, .int .u8 0, .int .u8 0, .int .u8 0, .int .u8 0, .int .u8 0, .int .u8 0, .int .u8 0, .int .u8 0, .int .u8 0, .int .u8 0, .int .u8 0, .int .u8 0, .int .u8 0, .int .u8 0, .int .u8 0, .int .u8 0, .int .u8 0, .int .u8 0, .int .u8 0, .int .u8 0, .int .u8 0, .int .u8 0, .int .u8 0, .int .u8 0, .int .u8 0, .int .u8 0, .int .u8 0, .int .u8 0, .int .i64 0] 56))
      refine hK.out _ _ ?_ (fun hHeld => ?_)
      · exact hS.out _ FB2
      clear hK K hHeld
      try simp only [List.getElem_toArray, List.getElem_cons_zero, List.getElem_cons_succ, Act.put, List.setIfInBounds_toArray, List.set_cons_zero, List.set_cons_succ]
      have hG := G7_16 g7 u.heap.size (u.alloc (.cells #[.int .u8 0, .int .u8 0, .int .u8 0, .int .u8 0, .int .u8 0, .int .u8 0, .int .u8 0, .int .u8 0, .int .u8 0, .int .u8 0, .int .u8 0, .int .u8 0, .int .u8 0, .int .u8 0, .int .u8 0, .int .u8 0, .int .u8 0, .int .u8 0, .int .u8 0, .int .u8 0, .int .u8 0, .int .u8 0, .int .u8 0, .int .u8 0, .int .u8 0, .int .u8 0, .int .u8 0, .int .u8 0, .int .u8 0, .int .u8 0, .int .u8 0, .int .u8 0, .int .i64 0] 56)) FB2 (Lib.hid (FX.out.below (below_box0 u (.cells #[.int .u8 0, .int .u8 0, .int .u8 0, .int .u8 0, .int .u8 0, .int .u8 0, .int .u8 0, .int .u8 0, .int .u8 0, .int .u8 0, .int .u8 0, .int .u8 0, .int .u8 0, .int .u8 0, .int .u8 0, .int .u8 0, .int .u8 0, .int .u8 0, .int .u8 0, .int .u8 0, .int .u8 0, .int .u8 0, .int .u8 0, .int .u8 0, .int .u8 0, .int .u8 0, .int .u8 0, .int .u8 0, .int .u8 0, .int .u8 0, .int .u8 0, .int .u8 0, .int .i64 0] 56)))) (Lib.hid (by rw [ztr]; exact DBlk.new u (zer 32) 0)) (Lib.hid (FB.out.2.2.size))
      rw [hT, ha0] at hG
      (try simp only [List.getElem_toArray, List.getElem_cons_zero, List.getElem_cons_succ, Act.put, List.setIfInBounds_toArray, List.set_cons_zero, List.set_cons_succ] at hG)
      exact hG
  have G15 : ∀ (b15 : Nat) (u : World), (Hid (Below w0.heap.size w0 u ∧ Below w3.heap.size w3 u ∧ Below wA.heap.size wA u)) → (Hid (QBlk u b15 (.slice none 0 0) (.int .i64 0) (.slice none 0 0))) → (Hid (wA.heap.size ≤ b15)) → T 11 #[true, true, true, true, true, false, true, false, true, true, false, false, false, false, false, true, false, false, false, false] (a0.put (some 19) (.pointer (some ⟨b15, 0, none⟩))) u := by
    intro b15 u FB FP FPl
    have hHeld := hS.out _ FB
    rw [hT, ha0]
    try simp only [List.getElem_toArray, List.getElem_cons_zero, List.getElem_cons_succ, Act.put, List.setIfInBounds_toArray, List.set_cons_zero, List.set_cons_succ]
    refine wpT_three (i1 := 5) (i2 := 7) (i3 := 16) (by kernel_rfl) rfl rfl rfl (fun K hK => ?_) (fun K hK => ?_) (fun K hK => ?_)
    · skip
      go_simp
      refine (rerelation_any a ya b yb _).mono ?_
      intro e wB hR
      obtain ⟨Y, B, A1, B1, rfl, hY, hB, hq⟩ := hR
      have FY := Lib.hid hY
      have FR := Lib.hid hB
      clear hY hB
      have FB2 := hBx.out _ _ FB hq
      refine hK.out _ _ ?_ (fun hHeld => ?_)
      · exact hS.out _ FB2
      clear hK K hHeld
      try simp only [List.getElem_toArray, List.getElem_cons_zero, List.getElem_cons_succ, Act.put, List.setIfInBounds_toArray, List.set_cons_zero, List.set_cons_succ]
      have hG := G5_15 Y B A1 B1 b15 wB FB2 FY FR (Lib.hid (FP.out.below hq)) (FPl)
      rw [hT, ha0] at hG
      (try simp only [List.getElem_toArray, List.getElem_cons_zero, List.getElem_cons_succ, Act.put, List.setIfInBounds_toArray, List.set_cons_zero, List.set_cons_succ] at hG)
      exact hG
    · skip
      go_simp
      have FB2 := hBx.out _ _ FB (below_box0 u (.cells #[.int .i64 x] 3))
      refine hK.out _ _ ?_ (fun hHeld => ?_)
      · exact hS.out _ FB2
      clear hK K hHeld
      try simp only [List.getElem_toArray, List.getElem_cons_zero, List.getElem_cons_succ, Act.put, List.setIfInBounds_toArray, List.set_cons_zero, List.set_cons_succ]
      have hG := G7_15 u.heap.size b15 (u.alloc (.cells #[.int .i64 x] 3)) FB2 (Lib.hid (sl_of_cells (cells1 u 3 x))) (Lib.hid (FP.out.below (below_box0 u (.cells #[.int .i64 x] 3)))) (FPl)
      rw [hT, ha0] at hG
      (try simp only [List.getElem_toArray, List.getElem_cons_zero, List.getElem_cons_succ, Act.put, List.setIfInBounds_toArray, List.set_cons_zero, List.set_cons_succ] at hG)
      exact hG
    · skip
      go_simp
      have FB2 := hBx.out _ _ FB (below_box0 u (.cells #[.int .u8 0, .int .u8 0, .int .u8 0, .int .u8 0, .int .u8 0, .int .u8 0, .int .u8 0, .int .u8 0, .int .u8 0, .int .u8 0, .int .u8 0, .int .u8 0, .int .u8 0, .int .u8 0, .int .u8 0, .int .u8 0, .int .u8 0, .int .u8 0, .int .u8 0, .int .u8 0, .int .u8 0, .int .u8 0, .int .u8 0, .int .u8 0, .int .u8 0, .int .u8 0, .int .u8 0, .int .u8 0, .int .u8 0, .int .u8 0, .int .u8 0, .int .u8 0, .int .i64 0] 56))
      refine hK.out _ _ ?_ (fun hHeld => ?_)
      · exact hS.out _ FB2
      clear hK K hHeld
      try simp only [List.getElem_toArray, List.getElem_cons_zero, List.getElem_cons_succ, Act.put, List.setIfInBounds_toArray, List.set_cons_zero, List.set_cons_succ]
      have hG := G15_16 b15 u.heap.size (u.alloc (.cells #[.int .u8 0, .int .u8 0, .int .u8 0, .int .u8 0, .int .u8 0, .int .u8 0, .int .u8 0, .int .u8 0, .int .u8 0, .int .u8 0, .int .u8 0, .int .u8 0, .int .u8 0, .int .u8 0, .int .u8 0, .int .u8 0, .int .u8 0, .int .u8 0, .int .u8 0, .int .u8 0, .int .u8 0, .int .u8 0, .int .u8 0, .int .u8 0, .int .u8 0, .int .u8 0, .int .u8 0, .int .u8 0, .int .u8 0, .int .u8 0, .int .u8 0, .int .u8 0, .int .i64 0] 56)) FB2 (Lib.hid (FP.out.below (below_box0 u (.cells #[.int .u8 0, .int .u8 0, .int .u8 0, .int .u8 0, .int .u8 0, .int .u8 0, .int .u8 0, .int .u8 0, .int .u8 0, .int .u8 0, .int .u8 0, .int .u8 0, .int .u8 0, .int .u8 0, .int .u8 0, .int .u8 0, .int .u8 0, .int .u8 0, .int .u8 0, .int .u8 0, .int .u8 0, .int .u8 0, .int .u8 0, .int .u8 0, .int .u8 0, .int .u8 0, .int .u8 0, .int .u8 0, .int .u8 0, .int .u8 0, .int .u8 0, .int .u8 0, .int .i64 0] 56)))) (FPl) (Lib.hid (by rw [ztr]; exact DBlk.new u (zer 32) 0)) (Lib.hid (FB.out.2.2.size)) (Lib.hid (fun e => by have := FP.out.lt; omega))
      rw [hT, ha0] at hG
      (try simp only [List.getElem_toArray, List.getElem_cons_zero, List.getElem_cons_succ, Act.put, List.setIfInBounds_toArray, List.set_cons_zero, List.set_cons_succ] at hG)
      exact hG
  have G16 : ∀ (b16 : Nat) (u : World), (Hid (Below w0.heap.size w0 u ∧ Below w3.heap.size w3 u ∧ Below wA.heap.size wA u)) → (Hid (DBlk u b16 (zer 32) 0)) → (Hid (wA.heap.size ≤ b16)) → T 11 #[true, true, true, true, true, false, true, false, true, true, false, false, false, false, false, false, true, false, false, false] (a0.put (some 20) (.pointer (some ⟨b16, 0, none⟩))) u := by
    intro b16 u FB FD FDl
    have hHeld := hS.out _ FB
    rw [hT, ha0]
    try simp only [List.getElem_toArray, List.getElem_cons_zero, List.getElem_cons_succ, Act.put, List.setIfInBounds_toArray, List.set_cons_zero, List.set_cons_succ]
    refine wpT_three (i1 := 5) (i2 := 7) (i3 := 15) (by kernel_rfl) rfl rfl rfl (fun K hK => ?_) (fun K hK => ?_) (fun K hK => ?_)
    · skip
      go_simp
      refine (rerelation_any a ya b yb _).mono ?_
      intro e wB hR
      obtain ⟨Y, B, A1, B1, rfl, hY, hB, hq⟩ := hR
      have FY := Lib.hid hY
      have FR := Lib.hid hB
      clear hY hB
      have FB2 := hBx.out _ _ FB hq
      refine hK.out _ _ ?_ (fun hHeld => ?_)
      · exact hS.out _ FB2
      clear hK K hHeld
      try simp only [List.getElem_toArray, List.getElem_cons_zero, List.getElem_cons_succ, Act.put, List.setIfInBounds_toArray, List.set_cons_zero, List.set_cons_succ]
      have hG := G5_16 Y B A1 B1 b16 wB FB2 FY FR (Lib.hid (FD.out.below hq)) (FDl)
      rw [hT, ha0] at hG
      (try simp only [List.getElem_toArray, List.getElem_cons_zero, List.getElem_cons_succ, Act.put, List.setIfInBounds_toArray, List.set_cons_zero, List.set_cons_succ] at hG)
      exact hG
    · skip
      go_simp
      have FB2 := hBx.out _ _ FB (below_box0 u (.cells #[.int .i64 x] 3))
      refine hK.out _ _ ?_ (fun hHeld => ?_)
      · exact hS.out _ FB2
      clear hK K hHeld
      try simp only [List.getElem_toArray, List.getElem_cons_zero, List.getElem_cons_succ, Act.put, List.setIfInBounds_toArray, List.set_cons_zero, List.set_cons_succ]
      have hG := G7_16 u.heap.size b16 (u.alloc (.cells #[.int .i64 x] 3)) FB2 (Lib.hid (sl_of_cells (cells1 u 3 x))) (Lib.hid (FD.out.below (below_box0 u (.cells #[.int .i64 x] 3)))) (FDl)
      rw [hT, ha0] at hG
      (try simp only [List.getElem_toArray, List.getElem_cons_zero, List.getElem_cons_succ, Act.put, List.setIfInBounds_toArray, List.set_cons_zero, List.set_cons_succ] at hG)
      exact hG
    · skip
      go_simp
      have FB2 := hBx.out _ _ FB (below_box0 u (.cells #[.slice none 0 0, .int .i64 0, .slice none 0 0] 28))
      refine hK.out _ _ ?_ (fun hHeld => ?_)
      · exact hS.out _ FB2
      clear hK K hHeld
      try simp only [List.getElem_toArray, List.getElem_cons_zero, List.getElem_cons_succ, Act.put, List.setIfInBounds_toArray, List.set_cons_zero, List.set_cons_succ]
      have hG := G15_16 u.heap.size b16 (u.alloc (.cells #[.slice none 0 0, .int .i64 0, .slice none 0 0] 28)) FB2 (Lib.hid (heap_alloc_new _ _)) (Lib.hid (FB.out.2.2.size)) (Lib.hid (FD.out.below (below_box0 u (.cells #[.slice none 0 0, .int .i64 0, .slice none 0 0] 28)))) (FDl) (Lib.hid (fun e => by have := FD.out.lt; omega))
      rw [hT, ha0] at hG
      (try simp only [List.getElem_toArray, List.getElem_cons_zero, List.getElem_cons_succ, Act.put, List.setIfInBounds_toArray, List.set_cons_zero, List.set_cons_succ] at hG)
      exact hG
  have G0 : ∀  (u : World), (Hid (Below w0.heap.size w0 u ∧ Below w3.heap.size w3 u ∧ Below wA.heap.size wA u)) → T 12 #[true, true, true, true, true, false, true, false, true, true, false, false, false, false, false, false, false, false, false, false] a0 u := by
    intro  u FB
    have hHeld := hS.out _ FB
    rw [hT, ha0]
    try simp only [List.getElem_toArray, List.getElem_cons_zero, List.getElem_cons_succ, Act.put, List.setIfInBounds_toArray, List.set_cons_zero, List.set_cons_succ]
    refine wpT_four (i1 := 5) (i2 := 7) (i3 := 15) (i4 := 16) (by kernel_rfl) rfl rfl rfl rfl (fun K hK => ?_) (fun K hK => ?_) (fun K hK => ?_) (fun K hK => ?_)
    · skip
      go_simp
      refine (rerelation_any a ya b yb _).mono ?_
      intro e wB hR
      obtain ⟨Y, B, A1, B1, rfl, hY, hB, hq⟩ := hR
      have FY := Lib.hid hY
      have FR := Lib.hid hB
      clear hY hB
      have FB2 := hBx.out _ _ FB hq
      refine hK.out _ _ ?_ (fun hHeld => ?_)
      · exact hS.out _ FB2
      clear hK K hHeld
      try simp only [List.getElem_toArray, List.getElem_cons_zero, List.getElem_cons_succ, Act.put, List.setIfInBounds_toArray, List.set_cons_zero, List.set_cons_succ]
      have hG := G5 Y B A1 B1 wB FB2 FY FR
      rw [hT, ha0] at hG
      (try simp only [List.getElem_toArray, List.getElem_cons_zero, List.getElem_cons_succ, Act.put, List.setIfInBounds_toArray, List.set_cons_zero, List.set_cons_succ] at hG)
      exact hG
    · skip
      go_simp
      have FB2 := hBx.out _ _ FB (below_box0 u (.cells #[.int .i64 x] 3))
      refine hK.out _ _ ?_ (fun hHeld => ?_)
      · exact hS.out _ FB2
      clear hK K hHeld
      try simp only [List.getElem_toArray, List.getElem_cons_zero, List.getElem_cons_succ, Act.put, List.setIfInBounds_toArray, List.set_cons_zero, List.set_cons_succ]
      have hG := G7 u.heap.size (u.alloc (.cells #[.int .i64 x] 3)) FB2 (Lib.hid (sl_of_cells (cells1 u 3 x)))
      rw [hT, ha0] at hG
      (try simp only [List.getElem_toArray, List.getElem_cons_zero, List.getElem_cons_succ, Act.put, List.setIfInBounds_toArray, List.set_cons_zero, List.set_cons_succ] at hG)
      exact hG
    · skip
      go_simp
      have FB2 := hBx.out _ _ FB (below_box0 u (.cells #[.slice none 0 0, .int .i64 0, .slice none 0 0] 28))
      refine hK.out _ _ ?_ (fun hHeld => ?_)
      · exact hS.out _ FB2
      clear hK K hHeld
      try simp only [List.getElem_toArray, List.getElem_cons_zero, List.getElem_cons_succ, Act.put, List.setIfInBounds_toArray, List.set_cons_zero, List.set_cons_succ]
      have hG := G15 u.heap.size (u.alloc (.cells #[.slice none 0 0, .int .i64 0, .slice none 0 0] 28)) FB2 (Lib.hid (heap_alloc_new _ _)) (Lib.hid (FB.out.2.2.size))
      rw [hT, ha0] at hG
      (try simp only [List.getElem_toArray, List.getElem_cons_zero, List.getElem_cons_succ, Act.put, List.setIfInBounds_toArray, List.set_cons_zero, List.set_cons_succ] at hG)
      exact hG
    · skip
      go_simp
      have FB2 := hBx.out _ _ FB (below_box0 u (.cells #[.int .u8 0, .int .u8 0, .int .u8 0, .int .u8 0, .int .u8 0, .int .u8 0, .int .u8 0, .int .u8 0, .int .u8 0, .int .u8 0, .int .u8 0, .int .u8 0, .int .u8 0, .int .u8 0, .int .u8 0, .int .u8 0, .int .u8 0, .int .u8 0, .int .u8 0, .int .u8 0, .int .u8 0, .int .u8 0, .int .u8 0, .int .u8 0, .int .u8 0, .int .u8 0, .int .u8 0, .int .u8 0, .int .u8 0, .int .u8 0, .int .u8 0, .int .u8 0, .int .i64 0] 56))
      refine hK.out _ _ ?_ (fun hHeld => ?_)
      · exact hS.out _ FB2
      clear hK K hHeld
      try simp only [List.getElem_toArray, List.getElem_cons_zero, List.getElem_cons_succ, Act.put, List.setIfInBounds_toArray, List.set_cons_zero, List.set_cons_succ]
      have hG := G16 u.heap.size (u.alloc (.cells #[.int .u8 0, .int .u8 0, .int .u8 0, .int .u8 0, .int .u8 0, .int .u8 0, .int .u8 0, .int .u8 0, .int .u8 0, .int .u8 0, .int .u8 0, .int .u8 0, .int .u8 0, .int .u8 0, .int .u8 0, .int .u8 0, .int .u8 0, .int .u8 0, .int .u8 0, .int .u8 0, .int .u8 0, .int .u8 0, .int .u8 0, .int .u8 0, .int .u8 0, .int .u8 0, .int .u8 0, .int .u8 0, .int .u8 0, .int .u8 0, .int .u8 0, .int .u8 0, .int .i64 0] 56)) FB2 (Lib.hid (by rw [ztr]; exact DBlk.new u (zer 32) 0)) (Lib.hid (FB.out.2.2.size))
      rw [hT, ha0] at hG
      (try simp only [List.getElem_toArray, List.getElem_cons_zero, List.getElem_cons_succ, Act.put, List.setIfInBounds_toArray, List.set_cons_zero, List.set_cons_succ] at hG)
      exact hG
  exact G0 _ HBD
end Go.Proofs.YtdlhodbiaoafiaaGreatDoor
namespace Go.Proofs.YtdlhodbiaoafiaaGreatDoor
open Go.RowKit SpM
set_option linter.unusedVariables false
set_option linter.unusedSimpArgs false
set_option maxRecDepth 100000
theorem rspL_all' {Q n : Int} {ks xs : List Int} {m : Nat} (hQ : 1 ≤ Q) : (rspL Q n ks xs m).all (scB Q) = true := by
  rw [List.all_eq_true]
  intro x hx
  obtain ⟨i, _, rfl⟩ := List.mem_map.1 hx
  have h0 := Int.emod_nonneg (ks.getD i 0 + n * xs.getD i 0 % Q) (show Q ≠ 0 by omega)
  have h1 := Int.emod_lt_of_pos (ks.getD i 0 + n * xs.getD i 0 % Q) (show 0 < Q by omega)
  simp only [scB, Bool.and_eq_true, decide_eq_true_eq]
  exact ⟨h0, h1⟩
/-- an honest proof is accepted. -/
theorem honest {P Q G n : Int} {ys : List Int} {rows : List Row} {ks xs : List Int} {m : Nat} (hh : holdsB P Q G ys rows xs = true) (hn0 : 0 ≤ n) (hn1 : n < Q) (hm : rowN rows = m) (lk : ks.length = m) (hk : ks.all (scB Q) = true) (hok : ∀ i, i < rows.length → (rows.getD i noRow).xs.length = (rows.getD i noRow).n) :
    chkL P Q G n ys rows (rows.map fun r => prodF P 1 r.xs ks) (rspL Q n ks xs m) = true := by
  obtain ⟨m1, m2, m3, m4⟩ := holdsB_parts' hh
  obtain ⟨hp2, hp, hq3, hqp⟩ := validG_P (validR_parts m1).1
  have hz := zero_sim m1 hm hn0 hn1 lk (m2.trans hm) hk m3 m4 hok
  have hs : scB Q n = true := by simp [scB]; exact ⟨hn0, hn1⟩
  simp only [chkL, checkB, Bool.and_eq_true, decide_eq_true_eq]
  refine ⟨m1, by rw [List.length_map], by rw [rspL_length, hm], hs, rspL_all' (by omega), ?_⟩
  rw [hz]; simp
end Go.Proofs.YtdlhodbiaoafiaaGreatDoor
