/- Contracts and lemmas: LmB, LmC, LmD. -/
import Derived.Test.YtcmidgdhihmppaaGreatDoorCm2
namespace Go.Proofs.YtcmidgdhihmppaaGreatDoor
open Go.RowKit SpM
set_option linter.unusedVariables false
set_option linter.unusedSimpArgs false
set_option maxRecDepth 100000
set_option maxHeartbeats 25600000 in
theorem lm_pl (P Q G : Int) (Y : Option Addr) (ys : List Int) (yc : Nat) (B : Option Addr) (rows : List Row) (bn bc : Nat) (X : Option Addr) (xs : List Int) (xn xc : Nat) (K : Option Addr) (ks : List Int) (kn kc : Nat) (c : Int) (s o : ByteArray) (h : List Int) (dc : Int) (hyn : Hid (ys.length = bn)) (hbn : Hid (rows.length = bn)) (hxn : Hid (xs.length = xn)) (hkn : Hid (ks.length = kn)) (hl : Hid (h.length = 32)) (hhb : Hid (bytesB h = true)) (hQ : Q < 9223372036854775808) (hf : Hid (fewB bn bn rows = true)) (h1 : xn ≤ 30) (h2 : kn ≤ 30) (h3 : s.size ≤ 60) (h4 : o.size ≤ 60) (hhh : Hid (holdsB P Q G ys rows xs = true)) (h5 : kn = xn) (hks : Hid (ks.all (scB Q) = true)) (hcl : 0 ≤ c) (hch : c ≤ 4294967295) (hr : Hid (labB (bys s) = false)) (w : World) (hv : Hid (Vars w)) (hd : Hid (VarsD w)) (hY : Hid (Sl w Y ys)) (hB : Hid (Rw w B rows)) (hX : Hid (Sl w X xs)) (hK : Hid (Sl w K ks)) :
    Calls Tryz.prog 4 #[gv P Q G, relV Y bn yc B bn bc, .slice X xn xc, .slice K kn kc, .int .u32 c, .string s, .string o, .agg (tcs h dc)] w fun e' w' => e' = .returned (.bool true) ∧ Below w.heap.size w w' := by
  have d1 : decide ((30 : Int) < (xn : Int)) = false := by simp; omega
  have d2 : decide ((30 : Int) < (kn : Int)) = false := by simp; omega
  have d3 : decide ((60 : Int) < (s.size : Int)) = false := by simp; omega
  have d4 : decide ((60 : Int) < (o.size : Int)) = false := by simp; omega
  subst h5
  have d5 : ((kn : Int) != (kn : Int)) = false := by simp
  obtain ⟨m1, m2, m3, m4⟩ := holdsB_parts' hhh.out
  have HVG : Hid (validG P Q G = true) := Lib.hid (validR_parts m1).1
  obtain ⟨hp2, hp, hq3, hqp⟩ := validG_P HVG.out
  have HKL : Hid (rowN rows = kn) := Lib.hid (m2.symm.trans hxn.out)
  have HM3 := Lib.hid m3
  have hb8 : bn ≤ 8 := by have := (validR_parts m1).2.2.1; have := hyn.out; omega
  have hbp : 0 < bn := by have := (validR_parts m1).2.1; have := hyn.out; omega
  have hk1 : 1 ≤ kn := by rw [← HKL.out]; exact (validR_parts m1).2.2.2.2.2.1
  have hk12 : kn ≤ 12 := by rw [← HKL.out]; exact (validR_parts m1).2.2.2.2.2.2.1
  have HVR := Lib.hid m1
  have HOK : Hid (∀ i, i < rows.length → (rows.getD i noRow).xs.length = (rows.getD i noRow).n) := Lib.hid (fun i hi => (hB.out i hi).2.1)
  have HCKK : Hid (chkR P Q G ys rows ks [] = 0) := Lib.hid (chkR_ok' m1 (by rw [hkn.out, HKL.out]) hks.out rfl)
  have HCKX : Hid (chkR P Q G ys rows xs [] = 0) := Lib.hid (chkR_ok' m1 m2 m3 rfl)
  obtain ⟨okg, oky, okr⟩ := valid_ok m1 hB.out
  have HOKG := Lib.hid okg
  have HOKY := Lib.hid oky
  have HOKR := Lib.hid okr
  clear m1 m2 m3 m4 okg oky okr
  obtain ⟨n, hem⟩ : ∃ n, c % Q = n := ⟨_, rfl⟩
  have hn0 : 0 ≤ n := by rw [← hem]; exact Int.emod_nonneg _ (by omega)
  have hn1 : n < Q := by rw [← hem]; exact Int.emod_lt_of_pos _ (by omega)
  have htm : c.tmod Q = n := by rw [Int.tmod_eq_emod_of_nonneg (by omega), hem]
  have hwc : IntKind.i64.wrap c = c := IntWalk.i64_in _ (by omega)
  have hwn : IntKind.i64.wrap n = n := IntWalk.i64_in _ (by omega)
  have hQn : ¬ (Q = 0) := by omega
  have hQz : ((Q : Int) == 0) = false := by simp; omega
  have HCH : Hid (chkL P Q G n ys rows (rows.map fun r => prodF P 1 r.xs ks) (rspL Q n ks xs kn) = true) := Lib.hid (honest hhh.out hn0 hn1 HKL.out hkn.out hks.out HOK.out)
  obtain ⟨w0, hW⟩ : ∃ W, (((w.alloc (gObj P Q G)).alloc (relO Y bn yc B bn bc)).alloc (.cells (tcs h dc) 39)) = W := ⟨_, rfl⟩
  have HBw : Hid (Below w.heap.size w w0) := Lib.hid (by rw [← hW]; exact (((Below.refl _ _).alloc (Nat.le_refl _) _).alloc (by simp) _).alloc (by simp; omega) _)
  have hc : w0.cell? ⟨w.heap.size, 0, none⟩ = some (.int .i64 P) ∧ w0.cell? ⟨w.heap.size, 1, none⟩ = some (.int .i64 Q) ∧ w0.cell? ⟨w.heap.size, 2, none⟩ = some (.int .i64 G) ∧ w0.cell? ⟨w.heap.size + 1, 0, none⟩ = some (.slice Y bn yc) ∧ w0.cell? ⟨w.heap.size + 1, 1, none⟩ = some (.slice B bn bc) := by rw [← hW]; exact ⟨cell_below (cell_below (allocs_cell (by simp) (by rfl)) (below_box0 _ _)) (below_box0 _ _), cell_below (cell_below (allocs_cell (by simp) (by rfl)) (below_box0 _ _)) (below_box0 _ _), cell_below (cell_below (allocs_cell (by simp) (by rfl)) (below_box0 _ _)) (below_box0 _ _), cell_below (allocs_cell (by simp) (by rfl)) (below_box0 _ _), cell_below (allocs_cell (by simp) (by rfl)) (below_box0 _ _)⟩
  have kC := Lib.hid (show ∀ u : World, Hid (Below w0.heap.size w0 u) → u.cell? ⟨w.heap.size, 0, none⟩ = some (.int .i64 P) ∧ u.cell? ⟨w.heap.size, 1, none⟩ = some (.int .i64 Q) ∧ u.cell? ⟨w.heap.size, 2, none⟩ = some (.int .i64 G) ∧ u.cell? ⟨w.heap.size + 1, 0, none⟩ = some (.slice Y bn yc) ∧ u.cell? ⟨w.heap.size + 1, 1, none⟩ = some (.slice B bn bc) from fun u h => ⟨cell_below hc.1 h.out, cell_below hc.2.1 h.out, cell_below hc.2.2.1 h.out, cell_below hc.2.2.2.1 h.out, cell_below hc.2.2.2.2 h.out⟩)
  have kV := Lib.hid (show ∀ u : World, Hid (Below w0.heap.size w0 u) → Hid (Vars u) from fun u h => Lib.hid ((hv.out.below) (below_ext HBw.out h.out)))
  have kD := Lib.hid (show ∀ u : World, Hid (Below w0.heap.size w0 u) → Hid (VarsD u) from fun u h => Lib.hid ((hd.out.below) (below_ext HBw.out h.out)))
  have kY := Lib.hid (show ∀ u : World, Hid (Below w0.heap.size w0 u) → Hid (Sl u Y ys) from fun u h => Lib.hid ((hY.out.below) (below_ext HBw.out h.out)))
  have kB := Lib.hid (show ∀ u : World, Hid (Below w0.heap.size w0 u) → Hid (Rw u B rows) from fun u h => Lib.hid ((hB.out.below) (below_ext HBw.out h.out)))
  have kX := Lib.hid (show ∀ u : World, Hid (Below w0.heap.size w0 u) → Hid (Sl u X xs) from fun u h => Lib.hid ((hX.out.below) (below_ext HBw.out h.out)))
  have kK := Lib.hid (show ∀ u : World, Hid (Below w0.heap.size w0 u) → Hid (Sl u K ks) from fun u h => Lib.hid ((hK.out.below) (below_ext HBw.out h.out)))
  have HB_0 : Hid (Below w0.heap.size w0 w0) := Lib.hid (Below.refl _ _)
  have HW := Lib.hid hW
  clear hW hc hv hd hY hB hX hK
  have HT0 : Hid (DBlk w0 (w.heap.size + 2) h dc) := Lib.hid (by rw [← HW.out, show w.heap.size + 2 = ((w.alloc (gObj P Q G)).alloc (relO Y bn yc B bn bc)).heap.size by simp]; exact heap_alloc_new _ _)
  have kT := Lib.hid (show ∀ u : World, Hid (Below w0.heap.size w0 u) → Hid (DBlk u (w.heap.size + 2) h dc) from fun u hh => Lib.hid (HT0.out.below hh.out))
  go_enter Tryz.func4, Tryz.ntmps4
  go_upto_region 1 with (fail)
  rw [HW.out]
  obtain ⟨zc0, zc1, zc2, zc3, zc4⟩ := kC.out _ HB_0
  go_wp2_with fail
  refine (awake17 _ (kV.out _ HB_0)).mono ?_
  rintro e w1 ⟨rfl, hb0⟩
  have HB_1 := Lib.hid (below_ext HB_0.out hb0)
  clear zc0 zc1 zc2 zc3 zc4
  clear hb0
  obtain ⟨zc0, zc1, zc2, zc3, zc4⟩ := kC.out _ HB_1
  go_wp2_with fail
  refine (few_any Y bn yc B rows bn bc true hf hbn _ (kB.out _ HB_1)).mono ?_
  rintro e w2 ⟨rfl, hb0⟩
  have HB_2 := Lib.hid (below_ext HB_1.out hb0)
  clear zc0 zc1 zc2 zc3 zc4
  clear hb0
  obtain ⟨zc0, zc1, zc2, zc3, zc4⟩ := kC.out _ HB_2
  go_wp2_with fail
  refine (rholds_any P Q G Y ys bn yc B rows bn bc X xs kn xc true hhh hyn hbn hxn (by omega) hQ _ (kY.out _ HB_2) (kB.out _ HB_2) (kX.out _ HB_2)).mono ?_
  rintro e w3 ⟨rfl, hb0⟩
  have HB_3 := Lib.hid (below_ext HB_2.out hb0)
  clear zc0 zc1 zc2 zc3 zc4
  clear hb0
  obtain ⟨zc0, zc1, zc2, zc3, zc4⟩ := kC.out _ HB_3
  go_wp2_with fail
  refine (rscalars_any P Q G K ks kn kc true hks hkn (by omega) _ (kK.out _ HB_3)).mono ?_
  rintro e w4 ⟨rfl, hb0⟩
  have HB_4 := Lib.hid (below_ext HB_3.out hb0)
  clear zc0 zc1 zc2 zc3 zc4
  clear hb0
  obtain ⟨zc0, zc1, zc2, zc3, zc4⟩ := kC.out _ HB_4
  go_wp2_with fail
  refine (lcommit_ok P Q G Y ys bn yc B rows bn bc K ks kn kc HCKK hyn hbn hkn (by omega) hQ _ (kV.out _ HB_4) (kY.out _ HB_4) (kB.out _ HB_4) (kK.out _ HB_4)).mono ?_
  rintro e w5 ⟨v, rfl, ho, hb0⟩
  have HB_5 := Lib.hid (below_ext HB_4.out hb0)
  clear zc0 zc1 zc2 zc3 zc4
  clear hb0
  obtain ⟨zc0, zc1, zc2, zc3, zc4⟩ := kC.out _ HB_5
  clear hem htm hwc hwn hQn hQz
  have HB_w5_5 : Hid (Below w5.heap.size w5 w5) := Lib.hid (Below.refl _ _)
  obtain ⟨A3, c3, hv3, ha3, _⟩ := OwnL.sl ho
  rw [List.length_map, hbn.out] at hv3
  subst hv3
  have HA3 := Lib.hid ha3
  clear ho ha3
  have kA3 := Lib.hid (show ∀ u : World, Hid (Below w5.heap.size w5 u) → Hid (Sl u A3 (rows.map fun r => prodF P 1 r.xs ks)) from fun u h => Lib.hid (HA3.out.below h.out))
  go_wp2_with fail
  refine (lrespond_ok P Q G K ks kn kc n X xs xc HVG hkn hxn (by omega) (by omega) hks HM3 hn0 hn1 hQ _ (kV.out _ HB_5) (kK.out _ HB_5) (kX.out _ HB_5)).mono ?_
  rintro e w6 ⟨v4, rfl, ho, hb0⟩
  have HB_6 := Lib.hid (below_ext HB_5.out hb0)
  have HB_w5_6 := Lib.hid (below_ext HB_w5_5.out hb0)
  clear zc0 zc1 zc2 zc3 zc4
  clear hb0
  obtain ⟨zc0, zc1, zc2, zc3, zc4⟩ := kC.out _ HB_6
  have HB_w6_6 : Hid (Below w6.heap.size w6 w6) := Lib.hid (Below.refl _ _)
  obtain ⟨Z4, c4, hv4, hz4, _⟩ := OwnL.sl ho
  rw [rspL_length] at hv4
  subst hv4
  have HZ4 := Lib.hid hz4
  clear ho hz4
  have kZ4 := Lib.hid (show ∀ u : World, Hid (Below w6.heap.size w6 u) → Hid (Sl u Z4 (rspL Q n ks xs kn)) from fun u h => Lib.hid (HZ4.out.below h.out))
  have HRL : Hid ((rspL Q n ks xs kn).length = kn) := Lib.hid (rspL_length _ _ _ _ _)
  have HAL : Hid ((rows.map fun r => prodF P 1 r.xs ks).length = bn) := Lib.hid (by rw [List.length_map]; exact hbn.out)
  go_wp2_with fail
  refine (lcheck_w P Q G Y ys bn yc B rows bn bc A3 (rows.map fun r => prodF P 1 r.xs ks) bn c3 n Z4 (rspL Q n ks xs kn) kn c4 hyn hbn HAL HRL (by omega) (by omega) hQ true HCH _ (kV.out _ HB_6) (kY.out _ HB_6) (kB.out _ HB_6) (kA3.out _ HB_w5_6) (kZ4.out _ HB_w6_6)).mono ?_
  rintro e w7 ⟨rfl, hb0⟩
  have HB_7 := Lib.hid (below_ext HB_6.out hb0)
  have HB_w5_7 := Lib.hid (below_ext HB_w5_6.out hb0)
  have HB_w6_7 := Lib.hid (below_ext HB_w6_6.out hb0)
  clear zc0 zc1 zc2 zc3 zc4
  clear hb0
  obtain ⟨zc0, zc1, zc2, zc3, zc4⟩ := kC.out _ HB_7
  have HTk := kT.out _ HB_7
  go_wp2_with ((with_reducible show wpList _ _ _ (⟨some 110, _, _, _, _, _⟩ :: _) _ _); refine wpList_load_row rfl 39 _ rfl (w.heap.size + 2) rfl _ _ _ _ HTk.out Tryz.underlying39 rfl (dr_info hl.out) ?_)
  refine (lprove_l P Q G Y ys bn yc B rows bn bc X xs kn xc s h dc hyn hbn hxn (by omega) (by omega) hl hQ hr _ (kV.out _ HB_7) (kD.out _ HB_7) (kY.out _ HB_7) (kB.out _ HB_7) (kX.out _ HB_7)).mono ?_
  rintro e w8 ⟨rfl, hb0⟩
  have HB_8 := Lib.hid (below_ext HB_7.out hb0)
  have HB_w5_8 := Lib.hid (below_ext HB_w5_7.out hb0)
  have HB_w6_8 := Lib.hid (below_ext HB_w6_7.out hb0)
  clear zc0 zc1 zc2 zc3 zc4
  clear hb0 HTk
  rw [show PrvE (.agg #[.slice none 0 0, .int .i64 0, .slice none 0 0]) (zer 32) 0 1 = .tuple #[.agg #[.slice none 0 0, .int .i64 0, .slice none 0 0], .agg (tcs (zer 32) 0), .int .i64 1] from rfl]
  have HB_w8_8 : Hid (Below w8.heap.size w8 w8) := Lib.hid (Below.refl _ _)
  have HDa : Hid (DBlk ((w8.alloc (.cells #[.slice none 0 0, .int .i64 0, .slice none 0 0] 29)).alloc (.cells #[.int .u8 0, .int .u8 0, .int .u8 0, .int .u8 0, .int .u8 0, .int .u8 0, .int .u8 0, .int .u8 0, .int .u8 0, .int .u8 0, .int .u8 0, .int .u8 0, .int .u8 0, .int .u8 0, .int .u8 0, .int .u8 0, .int .u8 0, .int .u8 0, .int .u8 0, .int .u8 0, .int .u8 0, .int .u8 0, .int .u8 0, .int .u8 0, .int .u8 0, .int .u8 0, .int .u8 0, .int .u8 0, .int .u8 0, .int .u8 0, .int .u8 0, .int .u8 0, .int .i64 0] 39)) (w8.heap.size + 1) (zer 32) 0) := Lib.hid (by rw [ztr]; exact heap_alloc2_new _ _ _)
  have HQe : Hid (QBlk (((w8.alloc (.cells #[.slice none 0 0, .int .i64 0, .slice none 0 0] 29)).alloc (.cells #[.int .u8 0, .int .u8 0, .int .u8 0, .int .u8 0, .int .u8 0, .int .u8 0, .int .u8 0, .int .u8 0, .int .u8 0, .int .u8 0, .int .u8 0, .int .u8 0, .int .u8 0, .int .u8 0, .int .u8 0, .int .u8 0, .int .u8 0, .int .u8 0, .int .u8 0, .int .u8 0, .int .u8 0, .int .u8 0, .int .u8 0, .int .u8 0, .int .u8 0, .int .u8 0, .int .u8 0, .int .u8 0, .int .u8 0, .int .u8 0, .int .u8 0, .int .u8 0, .int .i64 0] 39)).setRow (w8.heap.size + 1) (tcs (zer 32) 0)) w8.heap.size (.slice none 0 0) (.int .i64 0) (.slice none 0 0)) := Lib.hid ((setRow_other _ _ _ _ (by omega)).trans (heap_alloc2_old _ _ _))
  have hq : Below w8.heap.size w8 (((w8.alloc (.cells #[.slice none 0 0, .int .i64 0, .slice none 0 0] 29)).alloc (.cells #[.int .u8 0, .int .u8 0, .int .u8 0, .int .u8 0, .int .u8 0, .int .u8 0, .int .u8 0, .int .u8 0, .int .u8 0, .int .u8 0, .int .u8 0, .int .u8 0, .int .u8 0, .int .u8 0, .int .u8 0, .int .u8 0, .int .u8 0, .int .u8 0, .int .u8 0, .int .u8 0, .int .u8 0, .int .u8 0, .int .u8 0, .int .u8 0, .int .u8 0, .int .u8 0, .int .u8 0, .int .u8 0, .int .u8 0, .int .u8 0, .int .u8 0, .int .u8 0, .int .i64 0] 39)).setRow (w8.heap.size + 1) (tcs (zer 32) 0)) := below_setRow' (below_two (Below.refl _ _)) (Nat.le_succ _)
  go_upto_region 11 with ((with_reducible show wpList _ _ _ (⟨none, _, _, _, _, _⟩ :: _) _ _); refine wpList_store_row rfl 39 _ _ rfl (w8.heap.size + 1) (tcs (zer 32) 0) rfl rfl _ _ HDa.out (dr_info rfl) (tcs_sz (h := zer 32) (c := 0) rfl rfl) (tcs_one _ _) ?_)
  clear HDa
  have HB_9 := Lib.hid (below_ext HB_8.out hq)
  have HB_w5_9 := Lib.hid (below_ext HB_w5_8.out hq)
  have HB_w6_9 := Lib.hid (below_ext HB_w6_8.out hq)
  have HB_w8_9 := Lib.hid (below_ext HB_w8_8.out hq)
  obtain ⟨w9, hw⟩ : ∃ x, (((w8.alloc (.cells #[.slice none 0 0, .int .i64 0, .slice none 0 0] 29)).alloc (.cells #[.int .u8 0, .int .u8 0, .int .u8 0, .int .u8 0, .int .u8 0, .int .u8 0, .int .u8 0, .int .u8 0, .int .u8 0, .int .u8 0, .int .u8 0, .int .u8 0, .int .u8 0, .int .u8 0, .int .u8 0, .int .u8 0, .int .u8 0, .int .u8 0, .int .u8 0, .int .u8 0, .int .u8 0, .int .u8 0, .int .u8 0, .int .u8 0, .int .u8 0, .int .u8 0, .int .u8 0, .int .u8 0, .int .u8 0, .int .u8 0, .int .u8 0, .int .u8 0, .int .i64 0] 39)).setRow (w8.heap.size + 1) (tcs (zer 32) 0)) = x := ⟨_, rfl⟩
  rw [hw] at HQe HB_9 HB_w5_9 HB_w6_9 HB_w8_9 ⊢
  clear hw hq
  have HB_w9_9 : Hid (Below w9.heap.size w9 w9) := Lib.hid (Below.refl _ _)
  have kS := Lib.hid (show ∀ u : World, Hid (Below w9.heap.size w9 u) → u.cell? ⟨w8.heap.size, 0, none⟩ = some (.slice none 0 0) ∧ u.cell? ⟨w8.heap.size, 1, none⟩ = some (.int .i64 0) ∧ u.cell? ⟨w8.heap.size, 2, none⟩ = some (.slice none 0 0) from fun u h => ⟨cell_below HQe.out.cells.1.1 h.out, cell_below HQe.out.cells.1.2.1 h.out, cell_below HQe.out.cells.1.2.2 h.out⟩)
  obtain ⟨zc0, zc1, zc2, zc3, zc4⟩ := kC.out _ HB_9
  obtain ⟨kS_0, kS_1, kS_2⟩ := kS.out _ HB_w9_9
  have hbF := below_ext HBw.out HB_9.out
  go_wp2
  go_ret
  exact ⟨rfl, hbF⟩
set_option maxHeartbeats 25600000 in
theorem lm_pd (P Q G : Int) (Y : Option Addr) (ys : List Int) (yc : Nat) (B : Option Addr) (rows : List Row) (bn bc : Nat) (X : Option Addr) (xs : List Int) (xn xc : Nat) (K : Option Addr) (ks : List Int) (kn kc : Nat) (c : Int) (s o : ByteArray) (h : List Int) (dc : Int) (hyn : Hid (ys.length = bn)) (hbn : Hid (rows.length = bn)) (hxn : Hid (xs.length = xn)) (hkn : Hid (ks.length = kn)) (hl : Hid (h.length = 32)) (hhb : Hid (bytesB h = true)) (hQ : Q < 9223372036854775808) (hf : Hid (fewB bn bn rows = true)) (h1 : xn ≤ 30) (h2 : kn ≤ 30) (h3 : s.size ≤ 60) (h4 : o.size ≤ 60) (hhh : Hid (holdsB P Q G ys rows xs = true)) (h5 : kn = xn) (hks : Hid (ks.all (scB Q) = true)) (hcl : 0 ≤ c) (hch : c ≤ 4294967295) (hr : Hid (labB (bys s) = true)) (hdr : Hid (drB dc = false)) (w : World) (hv : Hid (Vars w)) (hd : Hid (VarsD w)) (hY : Hid (Sl w Y ys)) (hB : Hid (Rw w B rows)) (hX : Hid (Sl w X xs)) (hK : Hid (Sl w K ks)) :
    Calls Tryz.prog 4 #[gv P Q G, relV Y bn yc B bn bc, .slice X xn xc, .slice K kn kc, .int .u32 c, .string s, .string o, .agg (tcs h dc)] w fun e' w' => e' = .returned (.bool true) ∧ Below w.heap.size w w' := by
  have d1 : decide ((30 : Int) < (xn : Int)) = false := by simp; omega
  have d2 : decide ((30 : Int) < (kn : Int)) = false := by simp; omega
  have d3 : decide ((60 : Int) < (s.size : Int)) = false := by simp; omega
  have d4 : decide ((60 : Int) < (o.size : Int)) = false := by simp; omega
  subst h5
  have d5 : ((kn : Int) != (kn : Int)) = false := by simp
  obtain ⟨m1, m2, m3, m4⟩ := holdsB_parts' hhh.out
  have HVG : Hid (validG P Q G = true) := Lib.hid (validR_parts m1).1
  obtain ⟨hp2, hp, hq3, hqp⟩ := validG_P HVG.out
  have HKL : Hid (rowN rows = kn) := Lib.hid (m2.symm.trans hxn.out)
  have HM3 := Lib.hid m3
  have hb8 : bn ≤ 8 := by have := (validR_parts m1).2.2.1; have := hyn.out; omega
  have hbp : 0 < bn := by have := (validR_parts m1).2.1; have := hyn.out; omega
  have hk1 : 1 ≤ kn := by rw [← HKL.out]; exact (validR_parts m1).2.2.2.2.2.1
  have hk12 : kn ≤ 12 := by rw [← HKL.out]; exact (validR_parts m1).2.2.2.2.2.2.1
  have HVR := Lib.hid m1
  have HOK : Hid (∀ i, i < rows.length → (rows.getD i noRow).xs.length = (rows.getD i noRow).n) := Lib.hid (fun i hi => (hB.out i hi).2.1)
  have HCKK : Hid (chkR P Q G ys rows ks [] = 0) := Lib.hid (chkR_ok' m1 (by rw [hkn.out, HKL.out]) hks.out rfl)
  have HCKX : Hid (chkR P Q G ys rows xs [] = 0) := Lib.hid (chkR_ok' m1 m2 m3 rfl)
  obtain ⟨okg, oky, okr⟩ := valid_ok m1 hB.out
  have HOKG := Lib.hid okg
  have HOKY := Lib.hid oky
  have HOKR := Lib.hid okr
  clear m1 m2 m3 m4 okg oky okr
  obtain ⟨n, hem⟩ : ∃ n, c % Q = n := ⟨_, rfl⟩
  have hn0 : 0 ≤ n := by rw [← hem]; exact Int.emod_nonneg _ (by omega)
  have hn1 : n < Q := by rw [← hem]; exact Int.emod_lt_of_pos _ (by omega)
  have htm : c.tmod Q = n := by rw [Int.tmod_eq_emod_of_nonneg (by omega), hem]
  have hwc : IntKind.i64.wrap c = c := IntWalk.i64_in _ (by omega)
  have hwn : IntKind.i64.wrap n = n := IntWalk.i64_in _ (by omega)
  have hQn : ¬ (Q = 0) := by omega
  have hQz : ((Q : Int) == 0) = false := by simp; omega
  have HCH : Hid (chkL P Q G n ys rows (rows.map fun r => prodF P 1 r.xs ks) (rspL Q n ks xs kn) = true) := Lib.hid (honest hhh.out hn0 hn1 HKL.out hkn.out hks.out HOK.out)
  obtain ⟨w0, hW⟩ : ∃ W, (((w.alloc (gObj P Q G)).alloc (relO Y bn yc B bn bc)).alloc (.cells (tcs h dc) 39)) = W := ⟨_, rfl⟩
  have HBw : Hid (Below w.heap.size w w0) := Lib.hid (by rw [← hW]; exact (((Below.refl _ _).alloc (Nat.le_refl _) _).alloc (by simp) _).alloc (by simp; omega) _)
  have hc : w0.cell? ⟨w.heap.size, 0, none⟩ = some (.int .i64 P) ∧ w0.cell? ⟨w.heap.size, 1, none⟩ = some (.int .i64 Q) ∧ w0.cell? ⟨w.heap.size, 2, none⟩ = some (.int .i64 G) ∧ w0.cell? ⟨w.heap.size + 1, 0, none⟩ = some (.slice Y bn yc) ∧ w0.cell? ⟨w.heap.size + 1, 1, none⟩ = some (.slice B bn bc) := by rw [← hW]; exact ⟨cell_below (cell_below (allocs_cell (by simp) (by rfl)) (below_box0 _ _)) (below_box0 _ _), cell_below (cell_below (allocs_cell (by simp) (by rfl)) (below_box0 _ _)) (below_box0 _ _), cell_below (cell_below (allocs_cell (by simp) (by rfl)) (below_box0 _ _)) (below_box0 _ _), cell_below (allocs_cell (by simp) (by rfl)) (below_box0 _ _), cell_below (allocs_cell (by simp) (by rfl)) (below_box0 _ _)⟩
  have kC := Lib.hid (show ∀ u : World, Hid (Below w0.heap.size w0 u) → u.cell? ⟨w.heap.size, 0, none⟩ = some (.int .i64 P) ∧ u.cell? ⟨w.heap.size, 1, none⟩ = some (.int .i64 Q) ∧ u.cell? ⟨w.heap.size, 2, none⟩ = some (.int .i64 G) ∧ u.cell? ⟨w.heap.size + 1, 0, none⟩ = some (.slice Y bn yc) ∧ u.cell? ⟨w.heap.size + 1, 1, none⟩ = some (.slice B bn bc) from fun u h => ⟨cell_below hc.1 h.out, cell_below hc.2.1 h.out, cell_below hc.2.2.1 h.out, cell_below hc.2.2.2.1 h.out, cell_below hc.2.2.2.2 h.out⟩)
  have kV := Lib.hid (show ∀ u : World, Hid (Below w0.heap.size w0 u) → Hid (Vars u) from fun u h => Lib.hid ((hv.out.below) (below_ext HBw.out h.out)))
  have kD := Lib.hid (show ∀ u : World, Hid (Below w0.heap.size w0 u) → Hid (VarsD u) from fun u h => Lib.hid ((hd.out.below) (below_ext HBw.out h.out)))
  have kY := Lib.hid (show ∀ u : World, Hid (Below w0.heap.size w0 u) → Hid (Sl u Y ys) from fun u h => Lib.hid ((hY.out.below) (below_ext HBw.out h.out)))
  have kB := Lib.hid (show ∀ u : World, Hid (Below w0.heap.size w0 u) → Hid (Rw u B rows) from fun u h => Lib.hid ((hB.out.below) (below_ext HBw.out h.out)))
  have kX := Lib.hid (show ∀ u : World, Hid (Below w0.heap.size w0 u) → Hid (Sl u X xs) from fun u h => Lib.hid ((hX.out.below) (below_ext HBw.out h.out)))
  have kK := Lib.hid (show ∀ u : World, Hid (Below w0.heap.size w0 u) → Hid (Sl u K ks) from fun u h => Lib.hid ((hK.out.below) (below_ext HBw.out h.out)))
  have HB_0 : Hid (Below w0.heap.size w0 w0) := Lib.hid (Below.refl _ _)
  have HW := Lib.hid hW
  clear hW hc hv hd hY hB hX hK
  have HT0 : Hid (DBlk w0 (w.heap.size + 2) h dc) := Lib.hid (by rw [← HW.out, show w.heap.size + 2 = ((w.alloc (gObj P Q G)).alloc (relO Y bn yc B bn bc)).heap.size by simp]; exact heap_alloc_new _ _)
  have kT := Lib.hid (show ∀ u : World, Hid (Below w0.heap.size w0 u) → Hid (DBlk u (w.heap.size + 2) h dc) from fun u hh => Lib.hid (HT0.out.below hh.out))
  go_enter Tryz.func4, Tryz.ntmps4
  go_upto_region 1 with (fail)
  rw [HW.out]
  obtain ⟨zc0, zc1, zc2, zc3, zc4⟩ := kC.out _ HB_0
  go_wp2_with fail
  refine (awake17 _ (kV.out _ HB_0)).mono ?_
  rintro e w1 ⟨rfl, hb0⟩
  have HB_1 := Lib.hid (below_ext HB_0.out hb0)
  clear zc0 zc1 zc2 zc3 zc4
  clear hb0
  obtain ⟨zc0, zc1, zc2, zc3, zc4⟩ := kC.out _ HB_1
  go_wp2_with fail
  refine (few_any Y bn yc B rows bn bc true hf hbn _ (kB.out _ HB_1)).mono ?_
  rintro e w2 ⟨rfl, hb0⟩
  have HB_2 := Lib.hid (below_ext HB_1.out hb0)
  clear zc0 zc1 zc2 zc3 zc4
  clear hb0
  obtain ⟨zc0, zc1, zc2, zc3, zc4⟩ := kC.out _ HB_2
  go_wp2_with fail
  refine (rholds_any P Q G Y ys bn yc B rows bn bc X xs kn xc true hhh hyn hbn hxn (by omega) hQ _ (kY.out _ HB_2) (kB.out _ HB_2) (kX.out _ HB_2)).mono ?_
  rintro e w3 ⟨rfl, hb0⟩
  have HB_3 := Lib.hid (below_ext HB_2.out hb0)
  clear zc0 zc1 zc2 zc3 zc4
  clear hb0
  obtain ⟨zc0, zc1, zc2, zc3, zc4⟩ := kC.out _ HB_3
  go_wp2_with fail
  refine (rscalars_any P Q G K ks kn kc true hks hkn (by omega) _ (kK.out _ HB_3)).mono ?_
  rintro e w4 ⟨rfl, hb0⟩
  have HB_4 := Lib.hid (below_ext HB_3.out hb0)
  clear zc0 zc1 zc2 zc3 zc4
  clear hb0
  obtain ⟨zc0, zc1, zc2, zc3, zc4⟩ := kC.out _ HB_4
  go_wp2_with fail
  refine (lcommit_ok P Q G Y ys bn yc B rows bn bc K ks kn kc HCKK hyn hbn hkn (by omega) hQ _ (kV.out _ HB_4) (kY.out _ HB_4) (kB.out _ HB_4) (kK.out _ HB_4)).mono ?_
  rintro e w5 ⟨v, rfl, ho, hb0⟩
  have HB_5 := Lib.hid (below_ext HB_4.out hb0)
  clear zc0 zc1 zc2 zc3 zc4
  clear hb0
  obtain ⟨zc0, zc1, zc2, zc3, zc4⟩ := kC.out _ HB_5
  clear hem htm hwc hwn hQn hQz
  have HB_w5_5 : Hid (Below w5.heap.size w5 w5) := Lib.hid (Below.refl _ _)
  obtain ⟨A3, c3, hv3, ha3, _⟩ := OwnL.sl ho
  rw [List.length_map, hbn.out] at hv3
  subst hv3
  have HA3 := Lib.hid ha3
  clear ho ha3
  have kA3 := Lib.hid (show ∀ u : World, Hid (Below w5.heap.size w5 u) → Hid (Sl u A3 (rows.map fun r => prodF P 1 r.xs ks)) from fun u h => Lib.hid (HA3.out.below h.out))
  go_wp2_with fail
  refine (lrespond_ok P Q G K ks kn kc n X xs xc HVG hkn hxn (by omega) (by omega) hks HM3 hn0 hn1 hQ _ (kV.out _ HB_5) (kK.out _ HB_5) (kX.out _ HB_5)).mono ?_
  rintro e w6 ⟨v4, rfl, ho, hb0⟩
  have HB_6 := Lib.hid (below_ext HB_5.out hb0)
  have HB_w5_6 := Lib.hid (below_ext HB_w5_5.out hb0)
  clear zc0 zc1 zc2 zc3 zc4
  clear hb0
  obtain ⟨zc0, zc1, zc2, zc3, zc4⟩ := kC.out _ HB_6
  have HB_w6_6 : Hid (Below w6.heap.size w6 w6) := Lib.hid (Below.refl _ _)
  obtain ⟨Z4, c4, hv4, hz4, _⟩ := OwnL.sl ho
  rw [rspL_length] at hv4
  subst hv4
  have HZ4 := Lib.hid hz4
  clear ho hz4
  have kZ4 := Lib.hid (show ∀ u : World, Hid (Below w6.heap.size w6 u) → Hid (Sl u Z4 (rspL Q n ks xs kn)) from fun u h => Lib.hid (HZ4.out.below h.out))
  have HRL : Hid ((rspL Q n ks xs kn).length = kn) := Lib.hid (rspL_length _ _ _ _ _)
  have HAL : Hid ((rows.map fun r => prodF P 1 r.xs ks).length = bn) := Lib.hid (by rw [List.length_map]; exact hbn.out)
  go_wp2_with fail
  refine (lcheck_w P Q G Y ys bn yc B rows bn bc A3 (rows.map fun r => prodF P 1 r.xs ks) bn c3 n Z4 (rspL Q n ks xs kn) kn c4 hyn hbn HAL HRL (by omega) (by omega) hQ true HCH _ (kV.out _ HB_6) (kY.out _ HB_6) (kB.out _ HB_6) (kA3.out _ HB_w5_6) (kZ4.out _ HB_w6_6)).mono ?_
  rintro e w7 ⟨rfl, hb0⟩
  have HB_7 := Lib.hid (below_ext HB_6.out hb0)
  have HB_w5_7 := Lib.hid (below_ext HB_w5_6.out hb0)
  have HB_w6_7 := Lib.hid (below_ext HB_w6_6.out hb0)
  clear zc0 zc1 zc2 zc3 zc4
  clear hb0
  obtain ⟨zc0, zc1, zc2, zc3, zc4⟩ := kC.out _ HB_7
  have HTk := kT.out _ HB_7
  go_wp2_with ((with_reducible show wpList _ _ _ (⟨some 110, _, _, _, _, _⟩ :: _) _ _); refine wpList_load_row rfl 39 _ rfl (w.heap.size + 2) rfl _ _ _ _ HTk.out Tryz.underlying39 rfl (dr_info hl.out) ?_)
  refine (lprove_d P Q G Y ys bn yc B rows bn bc X xs kn xc s h dc hyn hbn hxn (by omega) (by omega) hl hQ hr hdr _ (kV.out _ HB_7) (kD.out _ HB_7) (kY.out _ HB_7) (kB.out _ HB_7) (kX.out _ HB_7)).mono ?_
  rintro e w8 ⟨rfl, hb0⟩
  have HB_8 := Lib.hid (below_ext HB_7.out hb0)
  have HB_w5_8 := Lib.hid (below_ext HB_w5_7.out hb0)
  have HB_w6_8 := Lib.hid (below_ext HB_w6_7.out hb0)
  clear zc0 zc1 zc2 zc3 zc4
  clear hb0 HTk
  rw [show PrvE (.agg #[.slice none 0 0, .int .i64 0, .slice none 0 0]) (zer 32) 0 1 = .tuple #[.agg #[.slice none 0 0, .int .i64 0, .slice none 0 0], .agg (tcs (zer 32) 0), .int .i64 1] from rfl]
  have HB_w8_8 : Hid (Below w8.heap.size w8 w8) := Lib.hid (Below.refl _ _)
  have HDa : Hid (DBlk ((w8.alloc (.cells #[.slice none 0 0, .int .i64 0, .slice none 0 0] 29)).alloc (.cells #[.int .u8 0, .int .u8 0, .int .u8 0, .int .u8 0, .int .u8 0, .int .u8 0, .int .u8 0, .int .u8 0, .int .u8 0, .int .u8 0, .int .u8 0, .int .u8 0, .int .u8 0, .int .u8 0, .int .u8 0, .int .u8 0, .int .u8 0, .int .u8 0, .int .u8 0, .int .u8 0, .int .u8 0, .int .u8 0, .int .u8 0, .int .u8 0, .int .u8 0, .int .u8 0, .int .u8 0, .int .u8 0, .int .u8 0, .int .u8 0, .int .u8 0, .int .u8 0, .int .i64 0] 39)) (w8.heap.size + 1) (zer 32) 0) := Lib.hid (by rw [ztr]; exact heap_alloc2_new _ _ _)
  have HQe : Hid (QBlk (((w8.alloc (.cells #[.slice none 0 0, .int .i64 0, .slice none 0 0] 29)).alloc (.cells #[.int .u8 0, .int .u8 0, .int .u8 0, .int .u8 0, .int .u8 0, .int .u8 0, .int .u8 0, .int .u8 0, .int .u8 0, .int .u8 0, .int .u8 0, .int .u8 0, .int .u8 0, .int .u8 0, .int .u8 0, .int .u8 0, .int .u8 0, .int .u8 0, .int .u8 0, .int .u8 0, .int .u8 0, .int .u8 0, .int .u8 0, .int .u8 0, .int .u8 0, .int .u8 0, .int .u8 0, .int .u8 0, .int .u8 0, .int .u8 0, .int .u8 0, .int .u8 0, .int .i64 0] 39)).setRow (w8.heap.size + 1) (tcs (zer 32) 0)) w8.heap.size (.slice none 0 0) (.int .i64 0) (.slice none 0 0)) := Lib.hid ((setRow_other _ _ _ _ (by omega)).trans (heap_alloc2_old _ _ _))
  have hq : Below w8.heap.size w8 (((w8.alloc (.cells #[.slice none 0 0, .int .i64 0, .slice none 0 0] 29)).alloc (.cells #[.int .u8 0, .int .u8 0, .int .u8 0, .int .u8 0, .int .u8 0, .int .u8 0, .int .u8 0, .int .u8 0, .int .u8 0, .int .u8 0, .int .u8 0, .int .u8 0, .int .u8 0, .int .u8 0, .int .u8 0, .int .u8 0, .int .u8 0, .int .u8 0, .int .u8 0, .int .u8 0, .int .u8 0, .int .u8 0, .int .u8 0, .int .u8 0, .int .u8 0, .int .u8 0, .int .u8 0, .int .u8 0, .int .u8 0, .int .u8 0, .int .u8 0, .int .u8 0, .int .i64 0] 39)).setRow (w8.heap.size + 1) (tcs (zer 32) 0)) := below_setRow' (below_two (Below.refl _ _)) (Nat.le_succ _)
  go_upto_region 11 with ((with_reducible show wpList _ _ _ (⟨none, _, _, _, _, _⟩ :: _) _ _); refine wpList_store_row rfl 39 _ _ rfl (w8.heap.size + 1) (tcs (zer 32) 0) rfl rfl _ _ HDa.out (dr_info rfl) (tcs_sz (h := zer 32) (c := 0) rfl rfl) (tcs_one _ _) ?_)
  clear HDa
  have HB_9 := Lib.hid (below_ext HB_8.out hq)
  have HB_w5_9 := Lib.hid (below_ext HB_w5_8.out hq)
  have HB_w6_9 := Lib.hid (below_ext HB_w6_8.out hq)
  have HB_w8_9 := Lib.hid (below_ext HB_w8_8.out hq)
  obtain ⟨w9, hw⟩ : ∃ x, (((w8.alloc (.cells #[.slice none 0 0, .int .i64 0, .slice none 0 0] 29)).alloc (.cells #[.int .u8 0, .int .u8 0, .int .u8 0, .int .u8 0, .int .u8 0, .int .u8 0, .int .u8 0, .int .u8 0, .int .u8 0, .int .u8 0, .int .u8 0, .int .u8 0, .int .u8 0, .int .u8 0, .int .u8 0, .int .u8 0, .int .u8 0, .int .u8 0, .int .u8 0, .int .u8 0, .int .u8 0, .int .u8 0, .int .u8 0, .int .u8 0, .int .u8 0, .int .u8 0, .int .u8 0, .int .u8 0, .int .u8 0, .int .u8 0, .int .u8 0, .int .u8 0, .int .i64 0] 39)).setRow (w8.heap.size + 1) (tcs (zer 32) 0)) = x := ⟨_, rfl⟩
  rw [hw] at HQe HB_9 HB_w5_9 HB_w6_9 HB_w8_9 ⊢
  clear hw hq
  have HB_w9_9 : Hid (Below w9.heap.size w9 w9) := Lib.hid (Below.refl _ _)
  have kS := Lib.hid (show ∀ u : World, Hid (Below w9.heap.size w9 u) → u.cell? ⟨w8.heap.size, 0, none⟩ = some (.slice none 0 0) ∧ u.cell? ⟨w8.heap.size, 1, none⟩ = some (.int .i64 0) ∧ u.cell? ⟨w8.heap.size, 2, none⟩ = some (.slice none 0 0) from fun u h => ⟨cell_below HQe.out.cells.1.1 h.out, cell_below HQe.out.cells.1.2.1 h.out, cell_below HQe.out.cells.1.2.2 h.out⟩)
  obtain ⟨zc0, zc1, zc2, zc3, zc4⟩ := kC.out _ HB_9
  obtain ⟨kS_0, kS_1, kS_2⟩ := kS.out _ HB_w9_9
  have hbF := below_ext HBw.out HB_9.out
  go_wp2
  go_ret
  exact ⟨rfl, hbF⟩
set_option maxHeartbeats 25600000 in
theorem lm_pf (P Q G : Int) (Y : Option Addr) (ys : List Int) (yc : Nat) (B : Option Addr) (rows : List Row) (bn bc : Nat) (X : Option Addr) (xs : List Int) (xn xc : Nat) (K : Option Addr) (ks : List Int) (kn kc : Nat) (c : Int) (s o : ByteArray) (h : List Int) (dc : Int) (hyn : Hid (ys.length = bn)) (hbn : Hid (rows.length = bn)) (hxn : Hid (xs.length = xn)) (hkn : Hid (ks.length = kn)) (hl : Hid (h.length = 32)) (hhb : Hid (bytesB h = true)) (hQ : Q < 9223372036854775808) (hf : Hid (fewB bn bn rows = true)) (h1 : xn ≤ 30) (h2 : kn ≤ 30) (h3 : s.size ≤ 60) (h4 : o.size ≤ 60) (hhh : Hid (holdsB P Q G ys rows xs = true)) (h5 : kn = xn) (hks : Hid (ks.all (scB Q) = true)) (hcl : 0 ≤ c) (hch : c ≤ 4294967295) (hr : Hid (labB (bys s) = true)) (hdr : Hid (drB dc = true)) (HST : Hid ((stD h Q dc (rowN rows)).2 = true)) (w : World) (hv : Hid (Vars w)) (hd : Hid (VarsD w)) (hY : Hid (Sl w Y ys)) (hB : Hid (Rw w B rows)) (hX : Hid (Sl w X xs)) (hK : Hid (Sl w K ks)) :
    Calls Tryz.prog 4 #[gv P Q G, relV Y bn yc B bn bc, .slice X xn xc, .slice K kn kc, .int .u32 c, .string s, .string o, .agg (tcs h dc)] w fun e' w' => e' = .returned (.bool true) ∧ Below w.heap.size w w' := by
  have d1 : decide ((30 : Int) < (xn : Int)) = false := by simp; omega
  have d2 : decide ((30 : Int) < (kn : Int)) = false := by simp; omega
  have d3 : decide ((60 : Int) < (s.size : Int)) = false := by simp; omega
  have d4 : decide ((60 : Int) < (o.size : Int)) = false := by simp; omega
  subst h5
  have d5 : ((kn : Int) != (kn : Int)) = false := by simp
  obtain ⟨m1, m2, m3, m4⟩ := holdsB_parts' hhh.out
  have HVG : Hid (validG P Q G = true) := Lib.hid (validR_parts m1).1
  obtain ⟨hp2, hp, hq3, hqp⟩ := validG_P HVG.out
  have HKL : Hid (rowN rows = kn) := Lib.hid (m2.symm.trans hxn.out)
  have HM3 := Lib.hid m3
  have hb8 : bn ≤ 8 := by have := (validR_parts m1).2.2.1; have := hyn.out; omega
  have hbp : 0 < bn := by have := (validR_parts m1).2.1; have := hyn.out; omega
  have hk1 : 1 ≤ kn := by rw [← HKL.out]; exact (validR_parts m1).2.2.2.2.2.1
  have hk12 : kn ≤ 12 := by rw [← HKL.out]; exact (validR_parts m1).2.2.2.2.2.2.1
  have HVR := Lib.hid m1
  have HOK : Hid (∀ i, i < rows.length → (rows.getD i noRow).xs.length = (rows.getD i noRow).n) := Lib.hid (fun i hi => (hB.out i hi).2.1)
  have HCKK : Hid (chkR P Q G ys rows ks [] = 0) := Lib.hid (chkR_ok' m1 (by rw [hkn.out, HKL.out]) hks.out rfl)
  have HCKX : Hid (chkR P Q G ys rows xs [] = 0) := Lib.hid (chkR_ok' m1 m2 m3 rfl)
  obtain ⟨okg, oky, okr⟩ := valid_ok m1 hB.out
  have HOKG := Lib.hid okg
  have HOKY := Lib.hid oky
  have HOKR := Lib.hid okr
  clear m1 m2 m3 m4 okg oky okr
  obtain ⟨n, hem⟩ : ∃ n, c % Q = n := ⟨_, rfl⟩
  have hn0 : 0 ≤ n := by rw [← hem]; exact Int.emod_nonneg _ (by omega)
  have hn1 : n < Q := by rw [← hem]; exact Int.emod_lt_of_pos _ (by omega)
  have htm : c.tmod Q = n := by rw [Int.tmod_eq_emod_of_nonneg (by omega), hem]
  have hwc : IntKind.i64.wrap c = c := IntWalk.i64_in _ (by omega)
  have hwn : IntKind.i64.wrap n = n := IntWalk.i64_in _ (by omega)
  have hQn : ¬ (Q = 0) := by omega
  have hQz : ((Q : Int) == 0) = false := by simp; omega
  have HCH : Hid (chkL P Q G n ys rows (rows.map fun r => prodF P 1 r.xs ks) (rspL Q n ks xs kn) = true) := Lib.hid (honest hhh.out hn0 hn1 HKL.out hkn.out hks.out HOK.out)
  obtain ⟨w0, hW⟩ : ∃ W, (((w.alloc (gObj P Q G)).alloc (relO Y bn yc B bn bc)).alloc (.cells (tcs h dc) 39)) = W := ⟨_, rfl⟩
  have HBw : Hid (Below w.heap.size w w0) := Lib.hid (by rw [← hW]; exact (((Below.refl _ _).alloc (Nat.le_refl _) _).alloc (by simp) _).alloc (by simp; omega) _)
  have hc : w0.cell? ⟨w.heap.size, 0, none⟩ = some (.int .i64 P) ∧ w0.cell? ⟨w.heap.size, 1, none⟩ = some (.int .i64 Q) ∧ w0.cell? ⟨w.heap.size, 2, none⟩ = some (.int .i64 G) ∧ w0.cell? ⟨w.heap.size + 1, 0, none⟩ = some (.slice Y bn yc) ∧ w0.cell? ⟨w.heap.size + 1, 1, none⟩ = some (.slice B bn bc) := by rw [← hW]; exact ⟨cell_below (cell_below (allocs_cell (by simp) (by rfl)) (below_box0 _ _)) (below_box0 _ _), cell_below (cell_below (allocs_cell (by simp) (by rfl)) (below_box0 _ _)) (below_box0 _ _), cell_below (cell_below (allocs_cell (by simp) (by rfl)) (below_box0 _ _)) (below_box0 _ _), cell_below (allocs_cell (by simp) (by rfl)) (below_box0 _ _), cell_below (allocs_cell (by simp) (by rfl)) (below_box0 _ _)⟩
  have kC := Lib.hid (show ∀ u : World, Hid (Below w0.heap.size w0 u) → u.cell? ⟨w.heap.size, 0, none⟩ = some (.int .i64 P) ∧ u.cell? ⟨w.heap.size, 1, none⟩ = some (.int .i64 Q) ∧ u.cell? ⟨w.heap.size, 2, none⟩ = some (.int .i64 G) ∧ u.cell? ⟨w.heap.size + 1, 0, none⟩ = some (.slice Y bn yc) ∧ u.cell? ⟨w.heap.size + 1, 1, none⟩ = some (.slice B bn bc) from fun u h => ⟨cell_below hc.1 h.out, cell_below hc.2.1 h.out, cell_below hc.2.2.1 h.out, cell_below hc.2.2.2.1 h.out, cell_below hc.2.2.2.2 h.out⟩)
  have kV := Lib.hid (show ∀ u : World, Hid (Below w0.heap.size w0 u) → Hid (Vars u) from fun u h => Lib.hid ((hv.out.below) (below_ext HBw.out h.out)))
  have kD := Lib.hid (show ∀ u : World, Hid (Below w0.heap.size w0 u) → Hid (VarsD u) from fun u h => Lib.hid ((hd.out.below) (below_ext HBw.out h.out)))
  have kY := Lib.hid (show ∀ u : World, Hid (Below w0.heap.size w0 u) → Hid (Sl u Y ys) from fun u h => Lib.hid ((hY.out.below) (below_ext HBw.out h.out)))
  have kB := Lib.hid (show ∀ u : World, Hid (Below w0.heap.size w0 u) → Hid (Rw u B rows) from fun u h => Lib.hid ((hB.out.below) (below_ext HBw.out h.out)))
  have kX := Lib.hid (show ∀ u : World, Hid (Below w0.heap.size w0 u) → Hid (Sl u X xs) from fun u h => Lib.hid ((hX.out.below) (below_ext HBw.out h.out)))
  have kK := Lib.hid (show ∀ u : World, Hid (Below w0.heap.size w0 u) → Hid (Sl u K ks) from fun u h => Lib.hid ((hK.out.below) (below_ext HBw.out h.out)))
  have HB_0 : Hid (Below w0.heap.size w0 w0) := Lib.hid (Below.refl _ _)
  have HW := Lib.hid hW
  clear hW hc hv hd hY hB hX hK
  have HT0 : Hid (DBlk w0 (w.heap.size + 2) h dc) := Lib.hid (by rw [← HW.out, show w.heap.size + 2 = ((w.alloc (gObj P Q G)).alloc (relO Y bn yc B bn bc)).heap.size by simp]; exact heap_alloc_new _ _)
  have kT := Lib.hid (show ∀ u : World, Hid (Below w0.heap.size w0 u) → Hid (DBlk u (w.heap.size + 2) h dc) from fun u hh => Lib.hid (HT0.out.below hh.out))
  go_enter Tryz.func4, Tryz.ntmps4
  go_upto_region 1 with (fail)
  rw [HW.out]
  obtain ⟨zc0, zc1, zc2, zc3, zc4⟩ := kC.out _ HB_0
  go_wp2_with fail
  refine (awake17 _ (kV.out _ HB_0)).mono ?_
  rintro e w1 ⟨rfl, hb0⟩
  have HB_1 := Lib.hid (below_ext HB_0.out hb0)
  clear zc0 zc1 zc2 zc3 zc4
  clear hb0
  obtain ⟨zc0, zc1, zc2, zc3, zc4⟩ := kC.out _ HB_1
  go_wp2_with fail
  refine (few_any Y bn yc B rows bn bc true hf hbn _ (kB.out _ HB_1)).mono ?_
  rintro e w2 ⟨rfl, hb0⟩
  have HB_2 := Lib.hid (below_ext HB_1.out hb0)
  clear zc0 zc1 zc2 zc3 zc4
  clear hb0
  obtain ⟨zc0, zc1, zc2, zc3, zc4⟩ := kC.out _ HB_2
  go_wp2_with fail
  refine (rholds_any P Q G Y ys bn yc B rows bn bc X xs kn xc true hhh hyn hbn hxn (by omega) hQ _ (kY.out _ HB_2) (kB.out _ HB_2) (kX.out _ HB_2)).mono ?_
  rintro e w3 ⟨rfl, hb0⟩
  have HB_3 := Lib.hid (below_ext HB_2.out hb0)
  clear zc0 zc1 zc2 zc3 zc4
  clear hb0
  obtain ⟨zc0, zc1, zc2, zc3, zc4⟩ := kC.out _ HB_3
  go_wp2_with fail
  refine (rscalars_any P Q G K ks kn kc true hks hkn (by omega) _ (kK.out _ HB_3)).mono ?_
  rintro e w4 ⟨rfl, hb0⟩
  have HB_4 := Lib.hid (below_ext HB_3.out hb0)
  clear zc0 zc1 zc2 zc3 zc4
  clear hb0
  obtain ⟨zc0, zc1, zc2, zc3, zc4⟩ := kC.out _ HB_4
  go_wp2_with fail
  refine (lcommit_ok P Q G Y ys bn yc B rows bn bc K ks kn kc HCKK hyn hbn hkn (by omega) hQ _ (kV.out _ HB_4) (kY.out _ HB_4) (kB.out _ HB_4) (kK.out _ HB_4)).mono ?_
  rintro e w5 ⟨v, rfl, ho, hb0⟩
  have HB_5 := Lib.hid (below_ext HB_4.out hb0)
  clear zc0 zc1 zc2 zc3 zc4
  clear hb0
  obtain ⟨zc0, zc1, zc2, zc3, zc4⟩ := kC.out _ HB_5
  clear hem htm hwc hwn hQn hQz
  have HB_w5_5 : Hid (Below w5.heap.size w5 w5) := Lib.hid (Below.refl _ _)
  obtain ⟨A3, c3, hv3, ha3, _⟩ := OwnL.sl ho
  rw [List.length_map, hbn.out] at hv3
  subst hv3
  have HA3 := Lib.hid ha3
  clear ho ha3
  have kA3 := Lib.hid (show ∀ u : World, Hid (Below w5.heap.size w5 u) → Hid (Sl u A3 (rows.map fun r => prodF P 1 r.xs ks)) from fun u h => Lib.hid (HA3.out.below h.out))
  go_wp2_with fail
  refine (lrespond_ok P Q G K ks kn kc n X xs xc HVG hkn hxn (by omega) (by omega) hks HM3 hn0 hn1 hQ _ (kV.out _ HB_5) (kK.out _ HB_5) (kX.out _ HB_5)).mono ?_
  rintro e w6 ⟨v4, rfl, ho, hb0⟩
  have HB_6 := Lib.hid (below_ext HB_5.out hb0)
  have HB_w5_6 := Lib.hid (below_ext HB_w5_5.out hb0)
  clear zc0 zc1 zc2 zc3 zc4
  clear hb0
  obtain ⟨zc0, zc1, zc2, zc3, zc4⟩ := kC.out _ HB_6
  have HB_w6_6 : Hid (Below w6.heap.size w6 w6) := Lib.hid (Below.refl _ _)
  obtain ⟨Z4, c4, hv4, hz4, _⟩ := OwnL.sl ho
  rw [rspL_length] at hv4
  subst hv4
  have HZ4 := Lib.hid hz4
  clear ho hz4
  have kZ4 := Lib.hid (show ∀ u : World, Hid (Below w6.heap.size w6 u) → Hid (Sl u Z4 (rspL Q n ks xs kn)) from fun u h => Lib.hid (HZ4.out.below h.out))
  have HRL : Hid ((rspL Q n ks xs kn).length = kn) := Lib.hid (rspL_length _ _ _ _ _)
  have HAL : Hid ((rows.map fun r => prodF P 1 r.xs ks).length = bn) := Lib.hid (by rw [List.length_map]; exact hbn.out)
  go_wp2_with fail
  refine (lcheck_w P Q G Y ys bn yc B rows bn bc A3 (rows.map fun r => prodF P 1 r.xs ks) bn c3 n Z4 (rspL Q n ks xs kn) kn c4 hyn hbn HAL HRL (by omega) (by omega) hQ true HCH _ (kV.out _ HB_6) (kY.out _ HB_6) (kB.out _ HB_6) (kA3.out _ HB_w5_6) (kZ4.out _ HB_w6_6)).mono ?_
  rintro e w7 ⟨rfl, hb0⟩
  have HB_7 := Lib.hid (below_ext HB_6.out hb0)
  have HB_w5_7 := Lib.hid (below_ext HB_w5_6.out hb0)
  have HB_w6_7 := Lib.hid (below_ext HB_w6_6.out hb0)
  clear zc0 zc1 zc2 zc3 zc4
  clear hb0
  obtain ⟨zc0, zc1, zc2, zc3, zc4⟩ := kC.out _ HB_7
  have HTk := kT.out _ HB_7
  go_wp2_with ((with_reducible show wpList _ _ _ (⟨some 110, _, _, _, _, _⟩ :: _) _ _); refine wpList_load_row rfl 39 _ rfl (w.heap.size + 2) rfl _ _ _ _ HTk.out Tryz.underlying39 rfl (dr_info hl.out) ?_)
  refine (lprove_f P Q G Y ys bn yc B rows bn bc X xs kn xc s h dc hyn hbn hxn (by omega) (by omega) hl hQ hhb hr hdr HCKX hhh HST _ (kV.out _ HB_7) (kD.out _ HB_7) (kY.out _ HB_7) (kB.out _ HB_7) (kX.out _ HB_7)).mono ?_
  rintro e w8 ⟨rfl, hb0⟩
  have HB_8 := Lib.hid (below_ext HB_7.out hb0)
  have HB_w5_8 := Lib.hid (below_ext HB_w5_7.out hb0)
  have HB_w6_8 := Lib.hid (below_ext HB_w6_7.out hb0)
  clear zc0 zc1 zc2 zc3 zc4
  clear hb0 HTk
  rw [show PrvE (.agg #[.slice none 0 0, .int .i64 0, .slice none 0 0]) (zer 32) 0 5 = .tuple #[.agg #[.slice none 0 0, .int .i64 0, .slice none 0 0], .agg (tcs (zer 32) 0), .int .i64 5] from rfl]
  have HB_w8_8 : Hid (Below w8.heap.size w8 w8) := Lib.hid (Below.refl _ _)
  have HDa : Hid (DBlk ((w8.alloc (.cells #[.slice none 0 0, .int .i64 0, .slice none 0 0] 29)).alloc (.cells #[.int .u8 0, .int .u8 0, .int .u8 0, .int .u8 0, .int .u8 0, .int .u8 0, .int .u8 0, .int .u8 0, .int .u8 0, .int .u8 0, .int .u8 0, .int .u8 0, .int .u8 0, .int .u8 0, .int .u8 0, .int .u8 0, .int .u8 0, .int .u8 0, .int .u8 0, .int .u8 0, .int .u8 0, .int .u8 0, .int .u8 0, .int .u8 0, .int .u8 0, .int .u8 0, .int .u8 0, .int .u8 0, .int .u8 0, .int .u8 0, .int .u8 0, .int .u8 0, .int .i64 0] 39)) (w8.heap.size + 1) (zer 32) 0) := Lib.hid (by rw [ztr]; exact heap_alloc2_new _ _ _)
  have HQe : Hid (QBlk (((w8.alloc (.cells #[.slice none 0 0, .int .i64 0, .slice none 0 0] 29)).alloc (.cells #[.int .u8 0, .int .u8 0, .int .u8 0, .int .u8 0, .int .u8 0, .int .u8 0, .int .u8 0, .int .u8 0, .int .u8 0, .int .u8 0, .int .u8 0, .int .u8 0, .int .u8 0, .int .u8 0, .int .u8 0, .int .u8 0, .int .u8 0, .int .u8 0, .int .u8 0, .int .u8 0, .int .u8 0, .int .u8 0, .int .u8 0, .int .u8 0, .int .u8 0, .int .u8 0, .int .u8 0, .int .u8 0, .int .u8 0, .int .u8 0, .int .u8 0, .int .u8 0, .int .i64 0] 39)).setRow (w8.heap.size + 1) (tcs (zer 32) 0)) w8.heap.size (.slice none 0 0) (.int .i64 0) (.slice none 0 0)) := Lib.hid ((setRow_other _ _ _ _ (by omega)).trans (heap_alloc2_old _ _ _))
  have hq : Below w8.heap.size w8 (((w8.alloc (.cells #[.slice none 0 0, .int .i64 0, .slice none 0 0] 29)).alloc (.cells #[.int .u8 0, .int .u8 0, .int .u8 0, .int .u8 0, .int .u8 0, .int .u8 0, .int .u8 0, .int .u8 0, .int .u8 0, .int .u8 0, .int .u8 0, .int .u8 0, .int .u8 0, .int .u8 0, .int .u8 0, .int .u8 0, .int .u8 0, .int .u8 0, .int .u8 0, .int .u8 0, .int .u8 0, .int .u8 0, .int .u8 0, .int .u8 0, .int .u8 0, .int .u8 0, .int .u8 0, .int .u8 0, .int .u8 0, .int .u8 0, .int .u8 0, .int .u8 0, .int .i64 0] 39)).setRow (w8.heap.size + 1) (tcs (zer 32) 0)) := below_setRow' (below_two (Below.refl _ _)) (Nat.le_succ _)
  go_upto_region 11 with ((with_reducible show wpList _ _ _ (⟨none, _, _, _, _, _⟩ :: _) _ _); refine wpList_store_row rfl 39 _ _ rfl (w8.heap.size + 1) (tcs (zer 32) 0) rfl rfl _ _ HDa.out (dr_info rfl) (tcs_sz (h := zer 32) (c := 0) rfl rfl) (tcs_one _ _) ?_)
  clear HDa
  have HB_9 := Lib.hid (below_ext HB_8.out hq)
  have HB_w5_9 := Lib.hid (below_ext HB_w5_8.out hq)
  have HB_w6_9 := Lib.hid (below_ext HB_w6_8.out hq)
  have HB_w8_9 := Lib.hid (below_ext HB_w8_8.out hq)
  obtain ⟨w9, hw⟩ : ∃ x, (((w8.alloc (.cells #[.slice none 0 0, .int .i64 0, .slice none 0 0] 29)).alloc (.cells #[.int .u8 0, .int .u8 0, .int .u8 0, .int .u8 0, .int .u8 0, .int .u8 0, .int .u8 0, .int .u8 0, .int .u8 0, .int .u8 0, .int .u8 0, .int .u8 0, .int .u8 0, .int .u8 0, .int .u8 0, .int .u8 0, .int .u8 0, .int .u8 0, .int .u8 0, .int .u8 0, .int .u8 0, .int .u8 0, .int .u8 0, .int .u8 0, .int .u8 0, .int .u8 0, .int .u8 0, .int .u8 0, .int .u8 0, .int .u8 0, .int .u8 0, .int .u8 0, .int .i64 0] 39)).setRow (w8.heap.size + 1) (tcs (zer 32) 0)) = x := ⟨_, rfl⟩
  rw [hw] at HQe HB_9 HB_w5_9 HB_w6_9 HB_w8_9 ⊢
  clear hw hq
  have HB_w9_9 : Hid (Below w9.heap.size w9 w9) := Lib.hid (Below.refl _ _)
  have kS := Lib.hid (show ∀ u : World, Hid (Below w9.heap.size w9 u) → u.cell? ⟨w8.heap.size, 0, none⟩ = some (.slice none 0 0) ∧ u.cell? ⟨w8.heap.size, 1, none⟩ = some (.int .i64 0) ∧ u.cell? ⟨w8.heap.size, 2, none⟩ = some (.slice none 0 0) from fun u h => ⟨cell_below HQe.out.cells.1.1 h.out, cell_below HQe.out.cells.1.2.1 h.out, cell_below HQe.out.cells.1.2.2 h.out⟩)
  obtain ⟨zc0, zc1, zc2, zc3, zc4⟩ := kC.out _ HB_9
  obtain ⟨kS_0, kS_1, kS_2⟩ := kS.out _ HB_w9_9
  have hbF := below_ext HBw.out HB_9.out
  go_wp2
  go_ret
  exact ⟨rfl, hbF⟩
end Go.Proofs.YtcmidgdhihmppaaGreatDoor
namespace Go.Proofs.YtcmidgdhihmppaaGreatDoor
open Go.RowKit SpM
set_option linter.unusedVariables false
set_option linter.unusedSimpArgs false
set_option maxRecDepth 100000
set_option maxHeartbeats 25600000 in
theorem lm_of (P Q G : Int) (Y : Option Addr) (ys : List Int) (yc : Nat) (B : Option Addr) (rows : List Row) (bn bc : Nat) (X : Option Addr) (xs : List Int) (xn xc : Nat) (K : Option Addr) (ks : List Int) (kn kc : Nat) (c : Int) (s o : ByteArray) (h : List Int) (dc : Int) (hyn : Hid (ys.length = bn)) (hbn : Hid (rows.length = bn)) (hxn : Hid (xs.length = xn)) (hkn : Hid (ks.length = kn)) (hl : Hid (h.length = 32)) (hhb : Hid (bytesB h = true)) (hQ : Q < 9223372036854775808) (hf : Hid (fewB bn bn rows = true)) (h1 : xn ≤ 30) (h2 : kn ≤ 30) (h3 : s.size ≤ 60) (h4 : o.size ≤ 60) (hhh : Hid (holdsB P Q G ys rows xs = true)) (h5 : kn = xn) (hks : Hid (ks.all (scB Q) = true)) (hcl : 0 ≤ c) (hch : c ≤ 4294967295) (hr : Hid (labB (bys s) = true)) (hdr : Hid (drB dc = true)) (HST : Hid ((stD h Q dc (rowN rows)).2 = false)) (c2 : Int) (hc2 : Hid ((stD h Q dc (rowN rows)).1 = c2)) (ks2 : List Int) (hks2 : Hid (lstD h Q dc (rowN rows) = ks2)) (hlo : Hid (labB (bys o) = false)) (w : World) (hv : Hid (Vars w)) (hd : Hid (VarsD w)) (hY : Hid (Sl w Y ys)) (hB : Hid (Rw w B rows)) (hX : Hid (Sl w X xs)) (hK : Hid (Sl w K ks)) :
    Calls Tryz.prog 4 #[gv P Q G, relV Y bn yc B bn bc, .slice X xn xc, .slice K kn kc, .int .u32 c, .string s, .string o, .agg (tcs h dc)] w fun e' w' => e' = .returned (.bool true) ∧ Below w.heap.size w w' := by
  have d1 : decide ((30 : Int) < (xn : Int)) = false := by simp; omega
  have d2 : decide ((30 : Int) < (kn : Int)) = false := by simp; omega
  have d3 : decide ((60 : Int) < (s.size : Int)) = false := by simp; omega
  have d4 : decide ((60 : Int) < (o.size : Int)) = false := by simp; omega
  subst h5
  have d5 : ((kn : Int) != (kn : Int)) = false := by simp
  obtain ⟨m1, m2, m3, m4⟩ := holdsB_parts' hhh.out
  have HVG : Hid (validG P Q G = true) := Lib.hid (validR_parts m1).1
  obtain ⟨hp2, hp, hq3, hqp⟩ := validG_P HVG.out
  have HKL : Hid (rowN rows = kn) := Lib.hid (m2.symm.trans hxn.out)
  have HM3 := Lib.hid m3
  have hb8 : bn ≤ 8 := by have := (validR_parts m1).2.2.1; have := hyn.out; omega
  have hbp : 0 < bn := by have := (validR_parts m1).2.1; have := hyn.out; omega
  have hk1 : 1 ≤ kn := by rw [← HKL.out]; exact (validR_parts m1).2.2.2.2.2.1
  have hk12 : kn ≤ 12 := by rw [← HKL.out]; exact (validR_parts m1).2.2.2.2.2.2.1
  have HVR := Lib.hid m1
  have HOK : Hid (∀ i, i < rows.length → (rows.getD i noRow).xs.length = (rows.getD i noRow).n) := Lib.hid (fun i hi => (hB.out i hi).2.1)
  have HCKK : Hid (chkR P Q G ys rows ks [] = 0) := Lib.hid (chkR_ok' m1 (by rw [hkn.out, HKL.out]) hks.out rfl)
  have HCKX : Hid (chkR P Q G ys rows xs [] = 0) := Lib.hid (chkR_ok' m1 m2 m3 rfl)
  obtain ⟨okg, oky, okr⟩ := valid_ok m1 hB.out
  have HOKG := Lib.hid okg
  have HOKY := Lib.hid oky
  have HOKR := Lib.hid okr
  clear m1 m2 m3 m4 okg oky okr
  obtain ⟨n, hem⟩ : ∃ n, c % Q = n := ⟨_, rfl⟩
  have hn0 : 0 ≤ n := by rw [← hem]; exact Int.emod_nonneg _ (by omega)
  have hn1 : n < Q := by rw [← hem]; exact Int.emod_lt_of_pos _ (by omega)
  have htm : c.tmod Q = n := by rw [Int.tmod_eq_emod_of_nonneg (by omega), hem]
  have hwc : IntKind.i64.wrap c = c := IntWalk.i64_in _ (by omega)
  have hwn : IntKind.i64.wrap n = n := IntWalk.i64_in _ (by omega)
  have hQn : ¬ (Q = 0) := by omega
  have hQz : ((Q : Int) == 0) = false := by simp; omega
  have HCH : Hid (chkL P Q G n ys rows (rows.map fun r => prodF P 1 r.xs ks) (rspL Q n ks xs kn) = true) := Lib.hid (honest hhh.out hn0 hn1 HKL.out hkn.out hks.out HOK.out)
  obtain ⟨w0, hW⟩ : ∃ W, (((w.alloc (gObj P Q G)).alloc (relO Y bn yc B bn bc)).alloc (.cells (tcs h dc) 39)) = W := ⟨_, rfl⟩
  have HBw : Hid (Below w.heap.size w w0) := Lib.hid (by rw [← hW]; exact (((Below.refl _ _).alloc (Nat.le_refl _) _).alloc (by simp) _).alloc (by simp; omega) _)
  have hc : w0.cell? ⟨w.heap.size, 0, none⟩ = some (.int .i64 P) ∧ w0.cell? ⟨w.heap.size, 1, none⟩ = some (.int .i64 Q) ∧ w0.cell? ⟨w.heap.size, 2, none⟩ = some (.int .i64 G) ∧ w0.cell? ⟨w.heap.size + 1, 0, none⟩ = some (.slice Y bn yc) ∧ w0.cell? ⟨w.heap.size + 1, 1, none⟩ = some (.slice B bn bc) := by rw [← hW]; exact ⟨cell_below (cell_below (allocs_cell (by simp) (by rfl)) (below_box0 _ _)) (below_box0 _ _), cell_below (cell_below (allocs_cell (by simp) (by rfl)) (below_box0 _ _)) (below_box0 _ _), cell_below (cell_below (allocs_cell (by simp) (by rfl)) (below_box0 _ _)) (below_box0 _ _), cell_below (allocs_cell (by simp) (by rfl)) (below_box0 _ _), cell_below (allocs_cell (by simp) (by rfl)) (below_box0 _ _)⟩
  have kC := Lib.hid (show ∀ u : World, Hid (Below w0.heap.size w0 u) → u.cell? ⟨w.heap.size, 0, none⟩ = some (.int .i64 P) ∧ u.cell? ⟨w.heap.size, 1, none⟩ = some (.int .i64 Q) ∧ u.cell? ⟨w.heap.size, 2, none⟩ = some (.int .i64 G) ∧ u.cell? ⟨w.heap.size + 1, 0, none⟩ = some (.slice Y bn yc) ∧ u.cell? ⟨w.heap.size + 1, 1, none⟩ = some (.slice B bn bc) from fun u h => ⟨cell_below hc.1 h.out, cell_below hc.2.1 h.out, cell_below hc.2.2.1 h.out, cell_below hc.2.2.2.1 h.out, cell_below hc.2.2.2.2 h.out⟩)
  have kV := Lib.hid (show ∀ u : World, Hid (Below w0.heap.size w0 u) → Hid (Vars u) from fun u h => Lib.hid ((hv.out.below) (below_ext HBw.out h.out)))
  have kD := Lib.hid (show ∀ u : World, Hid (Below w0.heap.size w0 u) → Hid (VarsD u) from fun u h => Lib.hid ((hd.out.below) (below_ext HBw.out h.out)))
  have kY := Lib.hid (show ∀ u : World, Hid (Below w0.heap.size w0 u) → Hid (Sl u Y ys) from fun u h => Lib.hid ((hY.out.below) (below_ext HBw.out h.out)))
  have kB := Lib.hid (show ∀ u : World, Hid (Below w0.heap.size w0 u) → Hid (Rw u B rows) from fun u h => Lib.hid ((hB.out.below) (below_ext HBw.out h.out)))
  have kX := Lib.hid (show ∀ u : World, Hid (Below w0.heap.size w0 u) → Hid (Sl u X xs) from fun u h => Lib.hid ((hX.out.below) (below_ext HBw.out h.out)))
  have kK := Lib.hid (show ∀ u : World, Hid (Below w0.heap.size w0 u) → Hid (Sl u K ks) from fun u h => Lib.hid ((hK.out.below) (below_ext HBw.out h.out)))
  have HB_0 : Hid (Below w0.heap.size w0 w0) := Lib.hid (Below.refl _ _)
  have HW := Lib.hid hW
  clear hW hc hv hd hY hB hX hK
  have HT0 : Hid (DBlk w0 (w.heap.size + 2) h dc) := Lib.hid (by rw [← HW.out, show w.heap.size + 2 = ((w.alloc (gObj P Q G)).alloc (relO Y bn yc B bn bc)).heap.size by simp]; exact heap_alloc_new _ _)
  have kT := Lib.hid (show ∀ u : World, Hid (Below w0.heap.size w0 u) → Hid (DBlk u (w.heap.size + 2) h dc) from fun u hh => Lib.hid (HT0.out.below hh.out))
  go_enter Tryz.func4, Tryz.ntmps4
  go_upto_region 1 with (fail)
  rw [HW.out]
  obtain ⟨zc0, zc1, zc2, zc3, zc4⟩ := kC.out _ HB_0
  go_wp2_with fail
  refine (awake17 _ (kV.out _ HB_0)).mono ?_
  rintro e w1 ⟨rfl, hb0⟩
  have HB_1 := Lib.hid (below_ext HB_0.out hb0)
  clear zc0 zc1 zc2 zc3 zc4
  clear hb0
  obtain ⟨zc0, zc1, zc2, zc3, zc4⟩ := kC.out _ HB_1
  go_wp2_with fail
  refine (few_any Y bn yc B rows bn bc true hf hbn _ (kB.out _ HB_1)).mono ?_
  rintro e w2 ⟨rfl, hb0⟩
  have HB_2 := Lib.hid (below_ext HB_1.out hb0)
  clear zc0 zc1 zc2 zc3 zc4
  clear hb0
  obtain ⟨zc0, zc1, zc2, zc3, zc4⟩ := kC.out _ HB_2
  go_wp2_with fail
  refine (rholds_any P Q G Y ys bn yc B rows bn bc X xs kn xc true hhh hyn hbn hxn (by omega) hQ _ (kY.out _ HB_2) (kB.out _ HB_2) (kX.out _ HB_2)).mono ?_
  rintro e w3 ⟨rfl, hb0⟩
  have HB_3 := Lib.hid (below_ext HB_2.out hb0)
  clear zc0 zc1 zc2 zc3 zc4
  clear hb0
  obtain ⟨zc0, zc1, zc2, zc3, zc4⟩ := kC.out _ HB_3
  go_wp2_with fail
  refine (rscalars_any P Q G K ks kn kc true hks hkn (by omega) _ (kK.out _ HB_3)).mono ?_
  rintro e w4 ⟨rfl, hb0⟩
  have HB_4 := Lib.hid (below_ext HB_3.out hb0)
  clear zc0 zc1 zc2 zc3 zc4
  clear hb0
  obtain ⟨zc0, zc1, zc2, zc3, zc4⟩ := kC.out _ HB_4
  go_wp2_with fail
  refine (lcommit_ok P Q G Y ys bn yc B rows bn bc K ks kn kc HCKK hyn hbn hkn (by omega) hQ _ (kV.out _ HB_4) (kY.out _ HB_4) (kB.out _ HB_4) (kK.out _ HB_4)).mono ?_
  rintro e w5 ⟨v, rfl, ho, hb0⟩
  have HB_5 := Lib.hid (below_ext HB_4.out hb0)
  clear zc0 zc1 zc2 zc3 zc4
  clear hb0
  obtain ⟨zc0, zc1, zc2, zc3, zc4⟩ := kC.out _ HB_5
  clear hem htm hwc hwn hQn hQz
  have HB_w5_5 : Hid (Below w5.heap.size w5 w5) := Lib.hid (Below.refl _ _)
  obtain ⟨A3, c3, hv3, ha3, _⟩ := OwnL.sl ho
  rw [List.length_map, hbn.out] at hv3
  subst hv3
  have HA3 := Lib.hid ha3
  clear ho ha3
  have kA3 := Lib.hid (show ∀ u : World, Hid (Below w5.heap.size w5 u) → Hid (Sl u A3 (rows.map fun r => prodF P 1 r.xs ks)) from fun u h => Lib.hid (HA3.out.below h.out))
  go_wp2_with fail
  refine (lrespond_ok P Q G K ks kn kc n X xs xc HVG hkn hxn (by omega) (by omega) hks HM3 hn0 hn1 hQ _ (kV.out _ HB_5) (kK.out _ HB_5) (kX.out _ HB_5)).mono ?_
  rintro e w6 ⟨v4, rfl, ho, hb0⟩
  have HB_6 := Lib.hid (below_ext HB_5.out hb0)
  have HB_w5_6 := Lib.hid (below_ext HB_w5_5.out hb0)
  clear zc0 zc1 zc2 zc3 zc4
  clear hb0
  obtain ⟨zc0, zc1, zc2, zc3, zc4⟩ := kC.out _ HB_6
  have HB_w6_6 : Hid (Below w6.heap.size w6 w6) := Lib.hid (Below.refl _ _)
  obtain ⟨Z4, c4, hv4, hz4, _⟩ := OwnL.sl ho
  rw [rspL_length] at hv4
  subst hv4
  have HZ4 := Lib.hid hz4
  clear ho hz4
  have kZ4 := Lib.hid (show ∀ u : World, Hid (Below w6.heap.size w6 u) → Hid (Sl u Z4 (rspL Q n ks xs kn)) from fun u h => Lib.hid (HZ4.out.below h.out))
  have HRL : Hid ((rspL Q n ks xs kn).length = kn) := Lib.hid (rspL_length _ _ _ _ _)
  have HAL : Hid ((rows.map fun r => prodF P 1 r.xs ks).length = bn) := Lib.hid (by rw [List.length_map]; exact hbn.out)
  go_wp2_with fail
  refine (lcheck_w P Q G Y ys bn yc B rows bn bc A3 (rows.map fun r => prodF P 1 r.xs ks) bn c3 n Z4 (rspL Q n ks xs kn) kn c4 hyn hbn HAL HRL (by omega) (by omega) hQ true HCH _ (kV.out _ HB_6) (kY.out _ HB_6) (kB.out _ HB_6) (kA3.out _ HB_w5_6) (kZ4.out _ HB_w6_6)).mono ?_
  rintro e w7 ⟨rfl, hb0⟩
  have HB_7 := Lib.hid (below_ext HB_6.out hb0)
  have HB_w5_7 := Lib.hid (below_ext HB_w5_6.out hb0)
  have HB_w6_7 := Lib.hid (below_ext HB_w6_6.out hb0)
  clear zc0 zc1 zc2 zc3 zc4
  clear hb0
  obtain ⟨zc0, zc1, zc2, zc3, zc4⟩ := kC.out _ HB_7
  have HK2 : Hid (ks2.length = kn) := Lib.hid (by rw [← hks2.out, lstD_len]; exact HKL.out)
  have HKC2 : Hid (ks2.all (scB Q) = true) := Lib.hid (by rw [← hks2.out]; exact lstD_sc (by omega) _)
  have HTk := kT.out _ HB_7
  go_wp2_with ((with_reducible show wpList _ _ _ (⟨some 110, _, _, _, _, _⟩ :: _) _ _); refine wpList_load_row rfl 39 _ rfl (w.heap.size + 2) rfl _ _ _ _ HTk.out Tryz.underlying39 rfl (dr_info hl.out) ?_)
  refine (lprove_o P Q G Y ys bn yc B rows bn bc X xs kn xc s h dc hyn hbn hxn (by omega) (by omega) hl hQ hhb hr hdr HCKX hhh HST c2 hc2 ks2 hks2 _ (kV.out _ HB_7) (kD.out _ HB_7) (kY.out _ HB_7) (kB.out _ HB_7) (kX.out _ HB_7)).mono ?_
  intro e w8 hP
  obtain ⟨A5, ca5, Z5, cz5, V, HVV, rfl, hA5, hZ5, hb0⟩ := hP
  rw [HKL.out] at hZ5
  rw [HKL.out]
  have HA5 := Lib.hid hA5
  have HZ5 := Lib.hid hZ5
  clear hA5 hZ5
  have HB_8 := Lib.hid (below_ext HB_7.out hb0)
  have HB_w5_8 := Lib.hid (below_ext HB_w5_7.out hb0)
  have HB_w6_8 := Lib.hid (below_ext HB_w6_7.out hb0)
  clear zc0 zc1 zc2 zc3 zc4
  clear hb0 HTk
  rw [show PrvE (.agg #[.slice A5 bn ca5, .int .i64 V, .slice Z5 kn cz5]) h c2 0 = .tuple #[.agg #[.slice A5 bn ca5, .int .i64 V, .slice Z5 kn cz5], .agg (tcs h c2), .int .i64 0] from rfl]
  have HB_w8_8 : Hid (Below w8.heap.size w8 w8) := Lib.hid (Below.refl _ _)
  have HDa : Hid (DBlk ((w8.alloc (.cells #[.slice A5 bn ca5, .int .i64 V, .slice Z5 kn cz5] 29)).alloc (.cells #[.int .u8 0, .int .u8 0, .int .u8 0, .int .u8 0, .int .u8 0, .int .u8 0, .int .u8 0, .int .u8 0, .int .u8 0, .int .u8 0, .int .u8 0, .int .u8 0, .int .u8 0, .int .u8 0, .int .u8 0, .int .u8 0, .int .u8 0, .int .u8 0, .int .u8 0, .int .u8 0, .int .u8 0, .int .u8 0, .int .u8 0, .int .u8 0, .int .u8 0, .int .u8 0, .int .u8 0, .int .u8 0, .int .u8 0, .int .u8 0, .int .u8 0, .int .u8 0, .int .i64 0] 39)) (w8.heap.size + 1) (zer 32) 0) := Lib.hid (by rw [ztr]; exact heap_alloc2_new _ _ _)
  have HQe : Hid (QBlk (((w8.alloc (.cells #[.slice A5 bn ca5, .int .i64 V, .slice Z5 kn cz5] 29)).alloc (.cells #[.int .u8 0, .int .u8 0, .int .u8 0, .int .u8 0, .int .u8 0, .int .u8 0, .int .u8 0, .int .u8 0, .int .u8 0, .int .u8 0, .int .u8 0, .int .u8 0, .int .u8 0, .int .u8 0, .int .u8 0, .int .u8 0, .int .u8 0, .int .u8 0, .int .u8 0, .int .u8 0, .int .u8 0, .int .u8 0, .int .u8 0, .int .u8 0, .int .u8 0, .int .u8 0, .int .u8 0, .int .u8 0, .int .u8 0, .int .u8 0, .int .u8 0, .int .u8 0, .int .i64 0] 39)).setRow (w8.heap.size + 1) (tcs h c2)) w8.heap.size (.slice A5 bn ca5) (.int .i64 V) (.slice Z5 kn cz5)) := Lib.hid ((setRow_other _ _ _ _ (by omega)).trans (heap_alloc2_old _ _ _))
  have hq : Below w8.heap.size w8 (((w8.alloc (.cells #[.slice A5 bn ca5, .int .i64 V, .slice Z5 kn cz5] 29)).alloc (.cells #[.int .u8 0, .int .u8 0, .int .u8 0, .int .u8 0, .int .u8 0, .int .u8 0, .int .u8 0, .int .u8 0, .int .u8 0, .int .u8 0, .int .u8 0, .int .u8 0, .int .u8 0, .int .u8 0, .int .u8 0, .int .u8 0, .int .u8 0, .int .u8 0, .int .u8 0, .int .u8 0, .int .u8 0, .int .u8 0, .int .u8 0, .int .u8 0, .int .u8 0, .int .u8 0, .int .u8 0, .int .u8 0, .int .u8 0, .int .u8 0, .int .u8 0, .int .u8 0, .int .i64 0] 39)).setRow (w8.heap.size + 1) (tcs h c2)) := below_setRow' (below_two (Below.refl _ _)) (Nat.le_succ _)
  go_upto_region 11 with ((with_reducible show wpList _ _ _ (⟨none, _, _, _, _, _⟩ :: _) _ _); refine wpList_store_row rfl 39 _ _ rfl (w8.heap.size + 1) (tcs h c2) rfl rfl _ _ HDa.out (dr_info hl.out) (tcs_sz (h := zer 32) (c := 0) rfl hl.out) (tcs_one _ _) ?_)
  clear HDa
  have HB_9 := Lib.hid (below_ext HB_8.out hq)
  have HB_w5_9 := Lib.hid (below_ext HB_w5_8.out hq)
  have HB_w6_9 := Lib.hid (below_ext HB_w6_8.out hq)
  have HB_w8_9 := Lib.hid (below_ext HB_w8_8.out hq)
  obtain ⟨w9, hw⟩ : ∃ x, (((w8.alloc (.cells #[.slice A5 bn ca5, .int .i64 V, .slice Z5 kn cz5] 29)).alloc (.cells #[.int .u8 0, .int .u8 0, .int .u8 0, .int .u8 0, .int .u8 0, .int .u8 0, .int .u8 0, .int .u8 0, .int .u8 0, .int .u8 0, .int .u8 0, .int .u8 0, .int .u8 0, .int .u8 0, .int .u8 0, .int .u8 0, .int .u8 0, .int .u8 0, .int .u8 0, .int .u8 0, .int .u8 0, .int .u8 0, .int .u8 0, .int .u8 0, .int .u8 0, .int .u8 0, .int .u8 0, .int .u8 0, .int .u8 0, .int .u8 0, .int .u8 0, .int .u8 0, .int .i64 0] 39)).setRow (w8.heap.size + 1) (tcs h c2)) = x := ⟨_, rfl⟩
  rw [hw] at HQe HB_9 HB_w5_9 HB_w6_9 HB_w8_9 ⊢
  clear hw hq
  have HB_w9_9 : Hid (Below w9.heap.size w9 w9) := Lib.hid (Below.refl _ _)
  have kS := Lib.hid (show ∀ u : World, Hid (Below w9.heap.size w9 u) → u.cell? ⟨w8.heap.size, 0, none⟩ = some (.slice A5 bn ca5) ∧ u.cell? ⟨w8.heap.size, 1, none⟩ = some (.int .i64 V) ∧ u.cell? ⟨w8.heap.size, 2, none⟩ = some (.slice Z5 kn cz5) from fun u h => ⟨cell_below HQe.out.cells.1.1 h.out, cell_below HQe.out.cells.1.2.1 h.out, cell_below HQe.out.cells.1.2.2 h.out⟩)
  obtain ⟨zc0, zc1, zc2, zc3, zc4⟩ := kC.out _ HB_9
  obtain ⟨kS_0, kS_1, kS_2⟩ := kS.out _ HB_w9_9
  have kA5 := Lib.hid (show ∀ u : World, Hid (Below w8.heap.size w8 u) → Hid (Sl u A5 (rows.map fun r => prodF P 1 r.xs ks2)) from fun u h => Lib.hid (HA5.out.below h.out))
  have kZ5 := Lib.hid (show ∀ u : World, Hid (Below w8.heap.size w8 u) → Hid (Sl u Z5 (rspL Q V ks2 xs kn)) from fun u h => Lib.hid (HZ5.out.below h.out))
  have HRL5 : Hid ((rspL Q V ks2 xs kn).length = kn) := Lib.hid (rspL_length _ _ _ _ _)
  have HAL5 : Hid ((rows.map fun r => prodF P 1 r.xs ks2).length = bn) := Lib.hid (by rw [List.length_map]; exact hbn.out)
  have hV := chalV_lo (P := P) (Q := Q) (G := G) (by omega) (bys s) ys rows (rows.map fun r => prodF P 1 r.xs ks2)
  rw [HVV.1] at hV
  obtain ⟨hV0, hV1⟩ := hV
  have HCH5 : Hid (chkL P Q G V ys rows (rows.map fun r => prodF P 1 r.xs ks2) (rspL Q V ks2 xs kn) = true) := Lib.hid (honest hhh.out hV0 hV1 HKL.out HK2.out HKC2.out HOK.out)
  have HOKA : Hid (okL (rows.map fun r => prodF P 1 r.xs ks2)) := Lib.hid (by
    refine ⟨by rw [HAL5.out]; omega, fun x hx => ?_⟩
    obtain ⟨r, _, rfl⟩ := List.mem_map.1 hx
    have := prodF_in hp2 r.xs ks2 1 (by omega) (by omega)
    omega)
  have HVS : Kp (verL P Q G V (bys s) ys rows (rows.map fun r => prodF P 1 r.xs ks2) (rspL Q V ks2 xs kn) = true) := ⟨by rw [verL, HCH5.out, hr.out, HVV.1]; simp⟩
  have eBB : ((bn : Int) != (bn : Int)) = false := by simp
  obtain ⟨al, hal⟩ : ∃ al, (rows.map fun r => prodF P 1 r.xs ks2) = al := ⟨_, rfl⟩
  obtain ⟨zl, hzl⟩ : ∃ zl, rspL Q V ks2 xs kn = zl := ⟨_, rfl⟩
  rw [hal, hzl] at HVS HCH5
  rw [hal] at HAL5 HOKA HVV kA5
  rw [hzl] at HRL5 kZ5
  clear hal hzl
  go_wp2_with fail
  refine (lver_any P Q G Y ys bn yc B rows bn bc A5 al bn ca5 V Z5 zl kn cz5 hyn hbn HAL5 HRL5 (by omega) (by omega) hQ s (by omega) true HVS _ (kV.out _ HB_9) (kD.out _ HB_9) (kY.out _ HB_9) (kB.out _ HB_9) (kA5.out _ HB_w8_9) (kZ5.out _ HB_w8_9)).mono ?_
  rintro e w10 ⟨rfl, hb0⟩
  have HB_10 := Lib.hid (below_ext HB_9.out hb0)
  have HB_w5_10 := Lib.hid (below_ext HB_w5_9.out hb0)
  have HB_w6_10 := Lib.hid (below_ext HB_w6_9.out hb0)
  have HB_w8_10 := Lib.hid (below_ext HB_w8_9.out hb0)
  have HB_w9_10 := Lib.hid (below_ext HB_w9_9.out hb0)
  clear zc0 zc1 zc2 zc3 zc4 kS_0 kS_1 kS_2
  clear hb0
  obtain ⟨zc0, zc1, zc2, zc3, zc4⟩ := kC.out _ HB_10
  obtain ⟨kS_0, kS_1, kS_2⟩ := kS.out _ HB_w9_10
  go_wp2_with fail
  refine (rlabel_any o (by omega) false hlo _).mono ?_
  rintro e wz ⟨rfl, rfl⟩
  have HVO : Kp (verL P Q G V (bys o) ys rows al zl = false) := ⟨by rw [verL, HCH5.out, hlo.out]; rfl⟩
  go_wp2_with fail
  refine (lver_any P Q G Y ys bn yc B rows bn bc A5 al bn ca5 V Z5 zl kn cz5 hyn hbn HAL5 HRL5 (by omega) (by omega) hQ o (by omega) false HVO _ (kV.out _ HB_10) (kD.out _ HB_10) (kY.out _ HB_10) (kB.out _ HB_10) (kA5.out _ HB_w8_10) (kZ5.out _ HB_w8_10)).mono ?_
  rintro e w11 ⟨rfl, hb0⟩
  have HB_11 := Lib.hid (below_ext HB_10.out hb0)
  have HB_w5_11 := Lib.hid (below_ext HB_w5_10.out hb0)
  have HB_w6_11 := Lib.hid (below_ext HB_w6_10.out hb0)
  have HB_w8_11 := Lib.hid (below_ext HB_w8_10.out hb0)
  have HB_w9_11 := Lib.hid (below_ext HB_w9_10.out hb0)
  clear zc0 zc1 zc2 zc3 zc4 kS_0 kS_1 kS_2
  clear hb0
  obtain ⟨zc0, zc1, zc2, zc3, zc4⟩ := kC.out _ HB_11
  obtain ⟨kS_0, kS_1, kS_2⟩ := kS.out _ HB_w9_11
  have hbF := below_ext HBw.out HB_11.out
  go_wp2
  go_ret
  exact ⟨rfl, hbF⟩
set_option maxHeartbeats 25600000 in
theorem lm_ot (P Q G : Int) (Y : Option Addr) (ys : List Int) (yc : Nat) (B : Option Addr) (rows : List Row) (bn bc : Nat) (X : Option Addr) (xs : List Int) (xn xc : Nat) (K : Option Addr) (ks : List Int) (kn kc : Nat) (c : Int) (s o : ByteArray) (h : List Int) (dc : Int) (hyn : Hid (ys.length = bn)) (hbn : Hid (rows.length = bn)) (hxn : Hid (xs.length = xn)) (hkn : Hid (ks.length = kn)) (hl : Hid (h.length = 32)) (hhb : Hid (bytesB h = true)) (hQ : Q < 9223372036854775808) (hf : Hid (fewB bn bn rows = true)) (h1 : xn ≤ 30) (h2 : kn ≤ 30) (h3 : s.size ≤ 60) (h4 : o.size ≤ 60) (hhh : Hid (holdsB P Q G ys rows xs = true)) (h5 : kn = xn) (hks : Hid (ks.all (scB Q) = true)) (hcl : 0 ≤ c) (hch : c ≤ 4294967295) (hr : Hid (labB (bys s) = true)) (hdr : Hid (drB dc = true)) (HST : Hid ((stD h Q dc (rowN rows)).2 = false)) (c2 : Int) (hc2 : Hid ((stD h Q dc (rowN rows)).1 = c2)) (ks2 : List Int) (hks2 : Hid (lstD h Q dc (rowN rows) = ks2)) (hlo : Hid (labB (bys o) = true)) (w : World) (hv : Hid (Vars w)) (hd : Hid (VarsD w)) (hY : Hid (Sl w Y ys)) (hB : Hid (Rw w B rows)) (hX : Hid (Sl w X xs)) (hK : Hid (Sl w K ks)) :
    Calls Tryz.prog 4 #[gv P Q G, relV Y bn yc B bn bc, .slice X xn xc, .slice K kn kc, .int .u32 c, .string s, .string o, .agg (tcs h dc)] w fun e' w' => e' = .returned (.bool true) ∧ Below w.heap.size w w' := by
  have d1 : decide ((30 : Int) < (xn : Int)) = false := by simp; omega
  have d2 : decide ((30 : Int) < (kn : Int)) = false := by simp; omega
  have d3 : decide ((60 : Int) < (s.size : Int)) = false := by simp; omega
  have d4 : decide ((60 : Int) < (o.size : Int)) = false := by simp; omega
  subst h5
  have d5 : ((kn : Int) != (kn : Int)) = false := by simp
  obtain ⟨m1, m2, m3, m4⟩ := holdsB_parts' hhh.out
  have HVG : Hid (validG P Q G = true) := Lib.hid (validR_parts m1).1
  obtain ⟨hp2, hp, hq3, hqp⟩ := validG_P HVG.out
  have HKL : Hid (rowN rows = kn) := Lib.hid (m2.symm.trans hxn.out)
  have HM3 := Lib.hid m3
  have hb8 : bn ≤ 8 := by have := (validR_parts m1).2.2.1; have := hyn.out; omega
  have hbp : 0 < bn := by have := (validR_parts m1).2.1; have := hyn.out; omega
  have hk1 : 1 ≤ kn := by rw [← HKL.out]; exact (validR_parts m1).2.2.2.2.2.1
  have hk12 : kn ≤ 12 := by rw [← HKL.out]; exact (validR_parts m1).2.2.2.2.2.2.1
  have HVR := Lib.hid m1
  have HOK : Hid (∀ i, i < rows.length → (rows.getD i noRow).xs.length = (rows.getD i noRow).n) := Lib.hid (fun i hi => (hB.out i hi).2.1)
  have HCKK : Hid (chkR P Q G ys rows ks [] = 0) := Lib.hid (chkR_ok' m1 (by rw [hkn.out, HKL.out]) hks.out rfl)
  have HCKX : Hid (chkR P Q G ys rows xs [] = 0) := Lib.hid (chkR_ok' m1 m2 m3 rfl)
  obtain ⟨okg, oky, okr⟩ := valid_ok m1 hB.out
  have HOKG := Lib.hid okg
  have HOKY := Lib.hid oky
  have HOKR := Lib.hid okr
  clear m1 m2 m3 m4 okg oky okr
  obtain ⟨n, hem⟩ : ∃ n, c % Q = n := ⟨_, rfl⟩
  have hn0 : 0 ≤ n := by rw [← hem]; exact Int.emod_nonneg _ (by omega)
  have hn1 : n < Q := by rw [← hem]; exact Int.emod_lt_of_pos _ (by omega)
  have htm : c.tmod Q = n := by rw [Int.tmod_eq_emod_of_nonneg (by omega), hem]
  have hwc : IntKind.i64.wrap c = c := IntWalk.i64_in _ (by omega)
  have hwn : IntKind.i64.wrap n = n := IntWalk.i64_in _ (by omega)
  have hQn : ¬ (Q = 0) := by omega
  have hQz : ((Q : Int) == 0) = false := by simp; omega
  have HCH : Hid (chkL P Q G n ys rows (rows.map fun r => prodF P 1 r.xs ks) (rspL Q n ks xs kn) = true) := Lib.hid (honest hhh.out hn0 hn1 HKL.out hkn.out hks.out HOK.out)
  obtain ⟨w0, hW⟩ : ∃ W, (((w.alloc (gObj P Q G)).alloc (relO Y bn yc B bn bc)).alloc (.cells (tcs h dc) 39)) = W := ⟨_, rfl⟩
  have HBw : Hid (Below w.heap.size w w0) := Lib.hid (by rw [← hW]; exact (((Below.refl _ _).alloc (Nat.le_refl _) _).alloc (by simp) _).alloc (by simp; omega) _)
  have hc : w0.cell? ⟨w.heap.size, 0, none⟩ = some (.int .i64 P) ∧ w0.cell? ⟨w.heap.size, 1, none⟩ = some (.int .i64 Q) ∧ w0.cell? ⟨w.heap.size, 2, none⟩ = some (.int .i64 G) ∧ w0.cell? ⟨w.heap.size + 1, 0, none⟩ = some (.slice Y bn yc) ∧ w0.cell? ⟨w.heap.size + 1, 1, none⟩ = some (.slice B bn bc) := by rw [← hW]; exact ⟨cell_below (cell_below (allocs_cell (by simp) (by rfl)) (below_box0 _ _)) (below_box0 _ _), cell_below (cell_below (allocs_cell (by simp) (by rfl)) (below_box0 _ _)) (below_box0 _ _), cell_below (cell_below (allocs_cell (by simp) (by rfl)) (below_box0 _ _)) (below_box0 _ _), cell_below (allocs_cell (by simp) (by rfl)) (below_box0 _ _), cell_below (allocs_cell (by simp) (by rfl)) (below_box0 _ _)⟩
  have kC := Lib.hid (show ∀ u : World, Hid (Below w0.heap.size w0 u) → u.cell? ⟨w.heap.size, 0, none⟩ = some (.int .i64 P) ∧ u.cell? ⟨w.heap.size, 1, none⟩ = some (.int .i64 Q) ∧ u.cell? ⟨w.heap.size, 2, none⟩ = some (.int .i64 G) ∧ u.cell? ⟨w.heap.size + 1, 0, none⟩ = some (.slice Y bn yc) ∧ u.cell? ⟨w.heap.size + 1, 1, none⟩ = some (.slice B bn bc) from fun u h => ⟨cell_below hc.1 h.out, cell_below hc.2.1 h.out, cell_below hc.2.2.1 h.out, cell_below hc.2.2.2.1 h.out, cell_below hc.2.2.2.2 h.out⟩)
  have kV := Lib.hid (show ∀ u : World, Hid (Below w0.heap.size w0 u) → Hid (Vars u) from fun u h => Lib.hid ((hv.out.below) (below_ext HBw.out h.out)))
  have kD := Lib.hid (show ∀ u : World, Hid (Below w0.heap.size w0 u) → Hid (VarsD u) from fun u h => Lib.hid ((hd.out.below) (below_ext HBw.out h.out)))
  have kY := Lib.hid (show ∀ u : World, Hid (Below w0.heap.size w0 u) → Hid (Sl u Y ys) from fun u h => Lib.hid ((hY.out.below) (below_ext HBw.out h.out)))
  have kB := Lib.hid (show ∀ u : World, Hid (Below w0.heap.size w0 u) → Hid (Rw u B rows) from fun u h => Lib.hid ((hB.out.below) (below_ext HBw.out h.out)))
  have kX := Lib.hid (show ∀ u : World, Hid (Below w0.heap.size w0 u) → Hid (Sl u X xs) from fun u h => Lib.hid ((hX.out.below) (below_ext HBw.out h.out)))
  have kK := Lib.hid (show ∀ u : World, Hid (Below w0.heap.size w0 u) → Hid (Sl u K ks) from fun u h => Lib.hid ((hK.out.below) (below_ext HBw.out h.out)))
  have HB_0 : Hid (Below w0.heap.size w0 w0) := Lib.hid (Below.refl _ _)
  have HW := Lib.hid hW
  clear hW hc hv hd hY hB hX hK
  have HT0 : Hid (DBlk w0 (w.heap.size + 2) h dc) := Lib.hid (by rw [← HW.out, show w.heap.size + 2 = ((w.alloc (gObj P Q G)).alloc (relO Y bn yc B bn bc)).heap.size by simp]; exact heap_alloc_new _ _)
  have kT := Lib.hid (show ∀ u : World, Hid (Below w0.heap.size w0 u) → Hid (DBlk u (w.heap.size + 2) h dc) from fun u hh => Lib.hid (HT0.out.below hh.out))
  go_enter Tryz.func4, Tryz.ntmps4
  go_upto_region 1 with (fail)
  rw [HW.out]
  obtain ⟨zc0, zc1, zc2, zc3, zc4⟩ := kC.out _ HB_0
  go_wp2_with fail
  refine (awake17 _ (kV.out _ HB_0)).mono ?_
  rintro e w1 ⟨rfl, hb0⟩
  have HB_1 := Lib.hid (below_ext HB_0.out hb0)
  clear zc0 zc1 zc2 zc3 zc4
  clear hb0
  obtain ⟨zc0, zc1, zc2, zc3, zc4⟩ := kC.out _ HB_1
  go_wp2_with fail
  refine (few_any Y bn yc B rows bn bc true hf hbn _ (kB.out _ HB_1)).mono ?_
  rintro e w2 ⟨rfl, hb0⟩
  have HB_2 := Lib.hid (below_ext HB_1.out hb0)
  clear zc0 zc1 zc2 zc3 zc4
  clear hb0
  obtain ⟨zc0, zc1, zc2, zc3, zc4⟩ := kC.out _ HB_2
  go_wp2_with fail
  refine (rholds_any P Q G Y ys bn yc B rows bn bc X xs kn xc true hhh hyn hbn hxn (by omega) hQ _ (kY.out _ HB_2) (kB.out _ HB_2) (kX.out _ HB_2)).mono ?_
  rintro e w3 ⟨rfl, hb0⟩
  have HB_3 := Lib.hid (below_ext HB_2.out hb0)
  clear zc0 zc1 zc2 zc3 zc4
  clear hb0
  obtain ⟨zc0, zc1, zc2, zc3, zc4⟩ := kC.out _ HB_3
  go_wp2_with fail
  refine (rscalars_any P Q G K ks kn kc true hks hkn (by omega) _ (kK.out _ HB_3)).mono ?_
  rintro e w4 ⟨rfl, hb0⟩
  have HB_4 := Lib.hid (below_ext HB_3.out hb0)
  clear zc0 zc1 zc2 zc3 zc4
  clear hb0
  obtain ⟨zc0, zc1, zc2, zc3, zc4⟩ := kC.out _ HB_4
  go_wp2_with fail
  refine (lcommit_ok P Q G Y ys bn yc B rows bn bc K ks kn kc HCKK hyn hbn hkn (by omega) hQ _ (kV.out _ HB_4) (kY.out _ HB_4) (kB.out _ HB_4) (kK.out _ HB_4)).mono ?_
  rintro e w5 ⟨v, rfl, ho, hb0⟩
  have HB_5 := Lib.hid (below_ext HB_4.out hb0)
  clear zc0 zc1 zc2 zc3 zc4
  clear hb0
  obtain ⟨zc0, zc1, zc2, zc3, zc4⟩ := kC.out _ HB_5
  clear hem htm hwc hwn hQn hQz
  have HB_w5_5 : Hid (Below w5.heap.size w5 w5) := Lib.hid (Below.refl _ _)
  obtain ⟨A3, c3, hv3, ha3, _⟩ := OwnL.sl ho
  rw [List.length_map, hbn.out] at hv3
  subst hv3
  have HA3 := Lib.hid ha3
  clear ho ha3
  have kA3 := Lib.hid (show ∀ u : World, Hid (Below w5.heap.size w5 u) → Hid (Sl u A3 (rows.map fun r => prodF P 1 r.xs ks)) from fun u h => Lib.hid (HA3.out.below h.out))
  go_wp2_with fail
  refine (lrespond_ok P Q G K ks kn kc n X xs xc HVG hkn hxn (by omega) (by omega) hks HM3 hn0 hn1 hQ _ (kV.out _ HB_5) (kK.out _ HB_5) (kX.out _ HB_5)).mono ?_
  rintro e w6 ⟨v4, rfl, ho, hb0⟩
  have HB_6 := Lib.hid (below_ext HB_5.out hb0)
  have HB_w5_6 := Lib.hid (below_ext HB_w5_5.out hb0)
  clear zc0 zc1 zc2 zc3 zc4
  clear hb0
  obtain ⟨zc0, zc1, zc2, zc3, zc4⟩ := kC.out _ HB_6
  have HB_w6_6 : Hid (Below w6.heap.size w6 w6) := Lib.hid (Below.refl _ _)
  obtain ⟨Z4, c4, hv4, hz4, _⟩ := OwnL.sl ho
  rw [rspL_length] at hv4
  subst hv4
  have HZ4 := Lib.hid hz4
  clear ho hz4
  have kZ4 := Lib.hid (show ∀ u : World, Hid (Below w6.heap.size w6 u) → Hid (Sl u Z4 (rspL Q n ks xs kn)) from fun u h => Lib.hid (HZ4.out.below h.out))
  have HRL : Hid ((rspL Q n ks xs kn).length = kn) := Lib.hid (rspL_length _ _ _ _ _)
  have HAL : Hid ((rows.map fun r => prodF P 1 r.xs ks).length = bn) := Lib.hid (by rw [List.length_map]; exact hbn.out)
  go_wp2_with fail
  refine (lcheck_w P Q G Y ys bn yc B rows bn bc A3 (rows.map fun r => prodF P 1 r.xs ks) bn c3 n Z4 (rspL Q n ks xs kn) kn c4 hyn hbn HAL HRL (by omega) (by omega) hQ true HCH _ (kV.out _ HB_6) (kY.out _ HB_6) (kB.out _ HB_6) (kA3.out _ HB_w5_6) (kZ4.out _ HB_w6_6)).mono ?_
  rintro e w7 ⟨rfl, hb0⟩
  have HB_7 := Lib.hid (below_ext HB_6.out hb0)
  have HB_w5_7 := Lib.hid (below_ext HB_w5_6.out hb0)
  have HB_w6_7 := Lib.hid (below_ext HB_w6_6.out hb0)
  clear zc0 zc1 zc2 zc3 zc4
  clear hb0
  obtain ⟨zc0, zc1, zc2, zc3, zc4⟩ := kC.out _ HB_7
  have HK2 : Hid (ks2.length = kn) := Lib.hid (by rw [← hks2.out, lstD_len]; exact HKL.out)
  have HKC2 : Hid (ks2.all (scB Q) = true) := Lib.hid (by rw [← hks2.out]; exact lstD_sc (by omega) _)
  have HTk := kT.out _ HB_7
  go_wp2_with ((with_reducible show wpList _ _ _ (⟨some 110, _, _, _, _, _⟩ :: _) _ _); refine wpList_load_row rfl 39 _ rfl (w.heap.size + 2) rfl _ _ _ _ HTk.out Tryz.underlying39 rfl (dr_info hl.out) ?_)
  refine (lprove_o P Q G Y ys bn yc B rows bn bc X xs kn xc s h dc hyn hbn hxn (by omega) (by omega) hl hQ hhb hr hdr HCKX hhh HST c2 hc2 ks2 hks2 _ (kV.out _ HB_7) (kD.out _ HB_7) (kY.out _ HB_7) (kB.out _ HB_7) (kX.out _ HB_7)).mono ?_
  intro e w8 hP
  obtain ⟨A5, ca5, Z5, cz5, V, HVV, rfl, hA5, hZ5, hb0⟩ := hP
  rw [HKL.out] at hZ5
  rw [HKL.out]
  have HA5 := Lib.hid hA5
  have HZ5 := Lib.hid hZ5
  clear hA5 hZ5
  have HB_8 := Lib.hid (below_ext HB_7.out hb0)
  have HB_w5_8 := Lib.hid (below_ext HB_w5_7.out hb0)
  have HB_w6_8 := Lib.hid (below_ext HB_w6_7.out hb0)
  clear zc0 zc1 zc2 zc3 zc4
  clear hb0 HTk
  rw [show PrvE (.agg #[.slice A5 bn ca5, .int .i64 V, .slice Z5 kn cz5]) h c2 0 = .tuple #[.agg #[.slice A5 bn ca5, .int .i64 V, .slice Z5 kn cz5], .agg (tcs h c2), .int .i64 0] from rfl]
  have HB_w8_8 : Hid (Below w8.heap.size w8 w8) := Lib.hid (Below.refl _ _)
  have HDa : Hid (DBlk ((w8.alloc (.cells #[.slice A5 bn ca5, .int .i64 V, .slice Z5 kn cz5] 29)).alloc (.cells #[.int .u8 0, .int .u8 0, .int .u8 0, .int .u8 0, .int .u8 0, .int .u8 0, .int .u8 0, .int .u8 0, .int .u8 0, .int .u8 0, .int .u8 0, .int .u8 0, .int .u8 0, .int .u8 0, .int .u8 0, .int .u8 0, .int .u8 0, .int .u8 0, .int .u8 0, .int .u8 0, .int .u8 0, .int .u8 0, .int .u8 0, .int .u8 0, .int .u8 0, .int .u8 0, .int .u8 0, .int .u8 0, .int .u8 0, .int .u8 0, .int .u8 0, .int .u8 0, .int .i64 0] 39)) (w8.heap.size + 1) (zer 32) 0) := Lib.hid (by rw [ztr]; exact heap_alloc2_new _ _ _)
  have HQe : Hid (QBlk (((w8.alloc (.cells #[.slice A5 bn ca5, .int .i64 V, .slice Z5 kn cz5] 29)).alloc (.cells #[.int .u8 0, .int .u8 0, .int .u8 0, .int .u8 0, .int .u8 0, .int .u8 0, .int .u8 0, .int .u8 0, .int .u8 0, .int .u8 0, .int .u8 0, .int .u8 0, .int .u8 0, .int .u8 0, .int .u8 0, .int .u8 0, .int .u8 0, .int .u8 0, .int .u8 0, .int .u8 0, .int .u8 0, .int .u8 0, .int .u8 0, .int .u8 0, .int .u8 0, .int .u8 0, .int .u8 0, .int .u8 0, .int .u8 0, .int .u8 0, .int .u8 0, .int .u8 0, .int .i64 0] 39)).setRow (w8.heap.size + 1) (tcs h c2)) w8.heap.size (.slice A5 bn ca5) (.int .i64 V) (.slice Z5 kn cz5)) := Lib.hid ((setRow_other _ _ _ _ (by omega)).trans (heap_alloc2_old _ _ _))
  have hq : Below w8.heap.size w8 (((w8.alloc (.cells #[.slice A5 bn ca5, .int .i64 V, .slice Z5 kn cz5] 29)).alloc (.cells #[.int .u8 0, .int .u8 0, .int .u8 0, .int .u8 0, .int .u8 0, .int .u8 0, .int .u8 0, .int .u8 0, .int .u8 0, .int .u8 0, .int .u8 0, .int .u8 0, .int .u8 0, .int .u8 0, .int .u8 0, .int .u8 0, .int .u8 0, .int .u8 0, .int .u8 0, .int .u8 0, .int .u8 0, .int .u8 0, .int .u8 0, .int .u8 0, .int .u8 0, .int .u8 0, .int .u8 0, .int .u8 0, .int .u8 0, .int .u8 0, .int .u8 0, .int .u8 0, .int .i64 0] 39)).setRow (w8.heap.size + 1) (tcs h c2)) := below_setRow' (below_two (Below.refl _ _)) (Nat.le_succ _)
  go_upto_region 11 with ((with_reducible show wpList _ _ _ (⟨none, _, _, _, _, _⟩ :: _) _ _); refine wpList_store_row rfl 39 _ _ rfl (w8.heap.size + 1) (tcs h c2) rfl rfl _ _ HDa.out (dr_info hl.out) (tcs_sz (h := zer 32) (c := 0) rfl hl.out) (tcs_one _ _) ?_)
  clear HDa
  have HB_9 := Lib.hid (below_ext HB_8.out hq)
  have HB_w5_9 := Lib.hid (below_ext HB_w5_8.out hq)
  have HB_w6_9 := Lib.hid (below_ext HB_w6_8.out hq)
  have HB_w8_9 := Lib.hid (below_ext HB_w8_8.out hq)
  obtain ⟨w9, hw⟩ : ∃ x, (((w8.alloc (.cells #[.slice A5 bn ca5, .int .i64 V, .slice Z5 kn cz5] 29)).alloc (.cells #[.int .u8 0, .int .u8 0, .int .u8 0, .int .u8 0, .int .u8 0, .int .u8 0, .int .u8 0, .int .u8 0, .int .u8 0, .int .u8 0, .int .u8 0, .int .u8 0, .int .u8 0, .int .u8 0, .int .u8 0, .int .u8 0, .int .u8 0, .int .u8 0, .int .u8 0, .int .u8 0, .int .u8 0, .int .u8 0, .int .u8 0, .int .u8 0, .int .u8 0, .int .u8 0, .int .u8 0, .int .u8 0, .int .u8 0, .int .u8 0, .int .u8 0, .int .u8 0, .int .i64 0] 39)).setRow (w8.heap.size + 1) (tcs h c2)) = x := ⟨_, rfl⟩
  rw [hw] at HQe HB_9 HB_w5_9 HB_w6_9 HB_w8_9 ⊢
  clear hw hq
  have HB_w9_9 : Hid (Below w9.heap.size w9 w9) := Lib.hid (Below.refl _ _)
  have kS := Lib.hid (show ∀ u : World, Hid (Below w9.heap.size w9 u) → u.cell? ⟨w8.heap.size, 0, none⟩ = some (.slice A5 bn ca5) ∧ u.cell? ⟨w8.heap.size, 1, none⟩ = some (.int .i64 V) ∧ u.cell? ⟨w8.heap.size, 2, none⟩ = some (.slice Z5 kn cz5) from fun u h => ⟨cell_below HQe.out.cells.1.1 h.out, cell_below HQe.out.cells.1.2.1 h.out, cell_below HQe.out.cells.1.2.2 h.out⟩)
  obtain ⟨zc0, zc1, zc2, zc3, zc4⟩ := kC.out _ HB_9
  obtain ⟨kS_0, kS_1, kS_2⟩ := kS.out _ HB_w9_9
  have kA5 := Lib.hid (show ∀ u : World, Hid (Below w8.heap.size w8 u) → Hid (Sl u A5 (rows.map fun r => prodF P 1 r.xs ks2)) from fun u h => Lib.hid (HA5.out.below h.out))
  have kZ5 := Lib.hid (show ∀ u : World, Hid (Below w8.heap.size w8 u) → Hid (Sl u Z5 (rspL Q V ks2 xs kn)) from fun u h => Lib.hid (HZ5.out.below h.out))
  have HRL5 : Hid ((rspL Q V ks2 xs kn).length = kn) := Lib.hid (rspL_length _ _ _ _ _)
  have HAL5 : Hid ((rows.map fun r => prodF P 1 r.xs ks2).length = bn) := Lib.hid (by rw [List.length_map]; exact hbn.out)
  have hV := chalV_lo (P := P) (Q := Q) (G := G) (by omega) (bys s) ys rows (rows.map fun r => prodF P 1 r.xs ks2)
  rw [HVV.1] at hV
  obtain ⟨hV0, hV1⟩ := hV
  have HCH5 : Hid (chkL P Q G V ys rows (rows.map fun r => prodF P 1 r.xs ks2) (rspL Q V ks2 xs kn) = true) := Lib.hid (honest hhh.out hV0 hV1 HKL.out HK2.out HKC2.out HOK.out)
  have HOKA : Hid (okL (rows.map fun r => prodF P 1 r.xs ks2)) := Lib.hid (by
    refine ⟨by rw [HAL5.out]; omega, fun x hx => ?_⟩
    obtain ⟨r, _, rfl⟩ := List.mem_map.1 hx
    have := prodF_in hp2 r.xs ks2 1 (by omega) (by omega)
    omega)
  have HVS : Kp (verL P Q G V (bys s) ys rows (rows.map fun r => prodF P 1 r.xs ks2) (rspL Q V ks2 xs kn) = true) := ⟨by rw [verL, HCH5.out, hr.out, HVV.1]; simp⟩
  have eBB : ((bn : Int) != (bn : Int)) = false := by simp
  obtain ⟨al, hal⟩ : ∃ al, (rows.map fun r => prodF P 1 r.xs ks2) = al := ⟨_, rfl⟩
  obtain ⟨zl, hzl⟩ : ∃ zl, rspL Q V ks2 xs kn = zl := ⟨_, rfl⟩
  rw [hal, hzl] at HVS HCH5
  rw [hal] at HAL5 HOKA HVV kA5
  rw [hzl] at HRL5 kZ5
  clear hal hzl
  go_wp2_with fail
  refine (lver_any P Q G Y ys bn yc B rows bn bc A5 al bn ca5 V Z5 zl kn cz5 hyn hbn HAL5 HRL5 (by omega) (by omega) hQ s (by omega) true HVS _ (kV.out _ HB_9) (kD.out _ HB_9) (kY.out _ HB_9) (kB.out _ HB_9) (kA5.out _ HB_w8_9) (kZ5.out _ HB_w8_9)).mono ?_
  rintro e w10 ⟨rfl, hb0⟩
  have HB_10 := Lib.hid (below_ext HB_9.out hb0)
  have HB_w5_10 := Lib.hid (below_ext HB_w5_9.out hb0)
  have HB_w6_10 := Lib.hid (below_ext HB_w6_9.out hb0)
  have HB_w8_10 := Lib.hid (below_ext HB_w8_9.out hb0)
  have HB_w9_10 := Lib.hid (below_ext HB_w9_9.out hb0)
  clear zc0 zc1 zc2 zc3 zc4 kS_0 kS_1 kS_2
  clear hb0
  obtain ⟨zc0, zc1, zc2, zc3, zc4⟩ := kC.out _ HB_10
  obtain ⟨kS_0, kS_1, kS_2⟩ := kS.out _ HB_w9_10
  go_wp2_with fail
  refine (rlabel_any o (by omega) true hlo _).mono ?_
  rintro e wz ⟨rfl, rfl⟩
  obtain ⟨Vo, hVo⟩ : ∃ V, chalV P Q G (bys o) ys rows al = V := ⟨_, rfl⟩
  have HVVO : Kp (chalV P Q G (bys o) ys rows al = Vo) := ⟨hVo⟩
  obtain ⟨vb, hvb⟩ : ∃ b, (Vo == V) = b := ⟨_, rfl⟩
  have HVO : Kp (verL P Q G V (bys o) ys rows al zl = vb) := ⟨by rw [verL, HCH5.out, hlo.out, hVo, hvb]; simp⟩
  clear hVo
  have evv : (vb == vb) = true := by simp
  go_wp2_with fail
  clear zc0 zc1 zc2 zc3 zc4 kS_0 kS_1 kS_2
  have hS := Lib.hid (show ∀ u1 u2 : World, Hid (Below w0.heap.size w0 u1) → Hid (Below w8.heap.size w8 u1) → Hid (Below w9.heap.size w9 u1) → Below u1.heap.size u1 u2 → (u2.cell? ⟨w.heap.size, 0, none⟩ = some (.int .i64 P) ∧ u2.cell? ⟨w.heap.size, 1, none⟩ = some (.int .i64 Q) ∧ u2.cell? ⟨w.heap.size, 2, none⟩ = some (.int .i64 G) ∧ u2.cell? ⟨w.heap.size + 1, 0, none⟩ = some (.slice Y bn yc) ∧ u2.cell? ⟨w.heap.size + 1, 1, none⟩ = some (.slice B bn bc) ∧ u2.cell? ⟨w8.heap.size, 0, none⟩ = some (.slice A5 bn ca5) ∧ u2.cell? ⟨w8.heap.size, 1, none⟩ = some (.int .i64 V) ∧ u2.cell? ⟨w8.heap.size, 2, none⟩ = some (.slice Z5 kn cz5) ∧ Hid (Below w0.heap.size w0 u2) ∧ Hid (Below w8.heap.size w8 u2) ∧ Hid (Below w9.heap.size w9 u2)) from fun u1 u2 h1 h2 h4 h3 => by
    have g1 := Lib.hid (below_ext h1.out h3)
    have g2 := Lib.hid (below_ext h2.out h3)
    have g4 := Lib.hid (below_ext h4.out h3)
    obtain ⟨y0, y1, y2, y3, y4⟩ := kC.out _ g1
    obtain ⟨t0, t1, t2⟩ := kS.out _ g4
    exact ⟨y0, y1, y2, y3, y4, t0, t1, t2, g1, g2, g4⟩)
  go_region_held3 (fun w' => w'.cell? ⟨w.heap.size, 0, none⟩ = some (.int .i64 P) ∧ w'.cell? ⟨w.heap.size, 1, none⟩ = some (.int .i64 Q) ∧ w'.cell? ⟨w.heap.size, 2, none⟩ = some (.int .i64 G) ∧ w'.cell? ⟨w.heap.size + 1, 0, none⟩ = some (.slice Y bn yc) ∧ w'.cell? ⟨w.heap.size + 1, 1, none⟩ = some (.slice B bn bc) ∧ w'.cell? ⟨w8.heap.size, 0, none⟩ = some (.slice A5 bn ca5) ∧ w'.cell? ⟨w8.heap.size, 1, none⟩ = some (.int .i64 V) ∧ w'.cell? ⟨w8.heap.size, 2, none⟩ = some (.slice Z5 kn cz5) ∧ Hid (Below w0.heap.size w0 w') ∧ Hid (Below w8.heap.size w8 w') ∧ Hid (Below w9.heap.size w9 w'))
    (first | exact hS.out _ _ HB_10 HB_w8_10 HB_w9_10 ((Below.refl _ _).drew) | (go_split_ands; exact hS.out _ _ (by assumption) (by assumption) (by assumption) hbA) | go_keep)
    ((first
      | (go_at_call 13; (with_reducible refine (lver_any P Q G Y ys bn yc B rows bn bc A5 al bn ca5 V Z5 zl kn cz5 hyn hbn HAL5 HRL5 (by omega) (by omega) hQ o (by omega) vb HVO _ ?_ ?_ ?_ ?_ ?_ ?_).mono ?_); (go_split_ands; exact kV.out _ (by assumption)); (go_split_ands; exact kD.out _ (by assumption)); (go_split_ands; exact kY.out _ (by assumption)); (go_split_ands; exact kB.out _ (by assumption)); (go_split_ands; exact kA5.out _ (by assumption)); (go_split_ands; exact kZ5.out _ (by assumption)); rintro e wA ⟨rfl, hbA⟩)
      | (go_at_call 21; (with_reducible refine (rchal17_ok P Q G Y ys bn yc B rows bn bc A5 al bn ca5 o (by omega) hlo hyn hbn HAL5 (by omega) HOKG HOKY HOKA HOKR (by omega) (by omega) Vo HVVO _ ?_ ?_ ?_).mono ?_); (go_split_ands; exact kY.out _ (by assumption)); (go_split_ands; exact kB.out _ (by assumption)); (go_split_ands; exact kA5.out _ (by assumption)); rintro e wA ⟨rfl, hbA⟩)
      | (go_at_call 21; (with_reducible refine (rchal17_ok P Q G Y ys bn yc B rows bn bc A5 al bn ca5 s (by omega) hr hyn hbn HAL5 (by omega) HOKG HOKY HOKA HOKR (by omega) (by omega) V HVV _ ?_ ?_ ?_).mono ?_); (go_split_ands; exact kY.out _ (by assumption)); (go_split_ands; exact kB.out _ (by assumption)); (go_split_ands; exact kA5.out _ (by assumption)); rintro e wA ⟨rfl, hbA⟩)))
  rename_i hHeld
  obtain ⟨x0, x1, x2, x3, x4, x5, x6, x7, HBF, HBF2, HBF4⟩ := hHeld
  have hbF := below_ext HBw.out HBF.out
  clear x0 x1 x2 x3 x4 x5 x6 x7 hS
  go_wp2
  go_ret
  exact ⟨rfl, hbF⟩
end Go.Proofs.YtcmidgdhihmppaaGreatDoor
namespace Go.Proofs.YtcmidgdhihmppaaGreatDoor
open Go.RowKit SpM
set_option linter.unusedVariables false
set_option linter.unusedSimpArgs false
set_option maxRecDepth 100000
/-- THE LAW: true for every input. -/
theorem lm_true (P Q G : Int) (Y : Option Addr) (ys : List Int) (yn yc : Nat) (B : Option Addr) (rows : List Row) (bn bc : Nat) (X : Option Addr) (xs : List Int) (xn xc : Nat) (K : Option Addr) (ks : List Int) (kn kc : Nat) (c : Int) (s o : ByteArray) (h : List Int) (dc : Int) (hyn : Hid (ys.length = yn)) (hbn : Hid (rows.length = bn)) (hxn : Hid (xs.length = xn)) (hkn : Hid (ks.length = kn)) (hl : Hid (h.length = 32)) (hhb : Hid (bytesB h = true)) (hQ : Q < 9223372036854775808) (hcl : 0 ≤ c) (hch : c ≤ 4294967295) (w : World) (hv : Hid (Vars w)) (hd : Hid (VarsD w)) (hY : Hid (Sl w Y ys)) (hB : Hid (Rw w B rows)) (hX : Hid (Sl w X xs)) (hK : Hid (Sl w K ks)) :
    Calls Tryz.prog 4 #[gv P Q G, relV Y yn yc B bn bc, .slice X xn xc, .slice K kn kc, .int .u32 c, .string s, .string o, .agg (tcs h dc)] w fun e' w' => e' = .returned (.bool true) ∧ Below w.heap.size w w' := by
  cases hf : fewB yn bn rows with
  | false => exact lm_few P Q G Y ys yn yc B rows bn bc X xs xn xc K ks kn kc c s o h dc hyn hbn hxn hkn hl hhb hQ (Lib.hid hf) w hv hd hY hB hX hK
  | true =>
    by_cases h1 : 30 < xn
    · exact lm_x P Q G Y ys yn yc B rows bn bc X xs xn xc K ks kn kc c s o h dc hyn hbn hxn hkn hl hhb hQ (Lib.hid hf) h1 w hv hd hY hB hX hK
    · by_cases h2 : 30 < kn
      · exact lm_k P Q G Y ys yn yc B rows bn bc X xs xn xc K ks kn kc c s o h dc hyn hbn hxn hkn hl hhb hQ (Lib.hid hf) (by omega) h2 w hv hd hY hB hX hK
      · by_cases h3 : 60 < s.size
        · exact lm_s P Q G Y ys yn yc B rows bn bc X xs xn xc K ks kn kc c s o h dc hyn hbn hxn hkn hl hhb hQ (Lib.hid hf) (by omega) (by omega) h3 w hv hd hY hB hX hK
        · by_cases h4 : 60 < o.size
          · exact lm_o P Q G Y ys yn yc B rows bn bc X xs xn xc K ks kn kc c s o h dc hyn hbn hxn hkn hl hhb hQ (Lib.hid hf) (by omega) (by omega) (by omega) h4 w hv hd hY hB hX hK
          · have h1 : xn ≤ 30 := by omega
            have h2 : kn ≤ 30 := by omega
            have h3 : s.size ≤ 60 := by omega
            have h4 : o.size ≤ 60 := by omega
            cases hh : holdsB P Q G ys rows xs with
            | false => exact lm_h P Q G Y ys yn yc B rows bn bc X xs xn xc K ks kn kc c s o h dc hyn hbn hxn hkn hl hhb hQ (Lib.hid hf) h1 h2 h3 h4 (Lib.hid hh) w hv hd hY hB hX hK
            | true =>
              by_cases h5 : kn = xn
              · cases hks : ks.all (scB Q) with
                | false => exact lm_c P Q G Y ys yn yc B rows bn bc X xs xn xc K ks kn kc c s o h dc hyn hbn hxn hkn hl hhb hQ (Lib.hid hf) h1 h2 h3 h4 (Lib.hid hh) h5 (Lib.hid hks) w hv hd hY hB hX hK
                | true =>
                  obtain rfl : bn = yn := by rw [← hbn.out, ← hyn.out]; exact (validR_parts (holdsB_parts' hh).1).2.2.2.1
                  cases hr : labB (bys s) with
                  | false => exact lm_pl P Q G Y ys yc B rows bn bc X xs xn xc K ks kn kc c s o h dc hyn hbn hxn hkn hl hhb hQ (Lib.hid hf) h1 h2 h3 h4 (Lib.hid hh) h5 (Lib.hid hks) hcl hch (Lib.hid hr) w hv hd hY hB hX hK
                  | true =>
                    cases hdr : drB dc with
                    | false => exact lm_pd P Q G Y ys yc B rows bn bc X xs xn xc K ks kn kc c s o h dc hyn hbn hxn hkn hl hhb hQ (Lib.hid hf) h1 h2 h3 h4 (Lib.hid hh) h5 (Lib.hid hks) hcl hch (Lib.hid hr) (Lib.hid hdr) w hv hd hY hB hX hK
                    | true =>
                      cases hst : (stD h Q dc (rowN rows)).2 with
                      | true => exact lm_pf P Q G Y ys yc B rows bn bc X xs xn xc K ks kn kc c s o h dc hyn hbn hxn hkn hl hhb hQ (Lib.hid hf) h1 h2 h3 h4 (Lib.hid hh) h5 (Lib.hid hks) hcl hch (Lib.hid hr) (Lib.hid hdr) (Lib.hid hst) w hv hd hY hB hX hK
                      | false =>
                        cases hlo : labB (bys o) with
                        | false => exact lm_of P Q G Y ys yc B rows bn bc X xs xn xc K ks kn kc c s o h dc hyn hbn hxn hkn hl hhb hQ (Lib.hid hf) h1 h2 h3 h4 (Lib.hid hh) h5 (Lib.hid hks) hcl hch (Lib.hid hr) (Lib.hid hdr) (Lib.hid hst) _ (Lib.hid rfl) _ (Lib.hid rfl) (Lib.hid hlo) w hv hd hY hB hX hK
                        | true => exact lm_ot P Q G Y ys yc B rows bn bc X xs xn xc K ks kn kc c s o h dc hyn hbn hxn hkn hl hhb hQ (Lib.hid hf) h1 h2 h3 h4 (Lib.hid hh) h5 (Lib.hid hks) hcl hch (Lib.hid hr) (Lib.hid hdr) (Lib.hid hst) _ (Lib.hid rfl) _ (Lib.hid rfl) (Lib.hid hlo) w hv hd hY hB hX hK
              · exact lm_n P Q G Y ys yn yc B rows bn bc X xs xn xc K ks kn kc c s o h dc hyn hbn hxn hkn hl hhb hQ (Lib.hid hf) h1 h2 h3 h4 (Lib.hid hh) h5 w hv hd hY hB hX hK
end Go.Proofs.YtcmidgdhihmppaaGreatDoor
