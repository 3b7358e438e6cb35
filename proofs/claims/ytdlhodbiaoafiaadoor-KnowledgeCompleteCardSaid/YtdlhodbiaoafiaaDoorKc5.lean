/- Contracts and lemmas: Kpv, KnH, KcW, KcL. -/
import Derived.Deep.RegionHeld3
import Derived.Test.YtdlhodbiaoafiaaDoorKc4
namespace Go.Proofs.YtdlhodbiaoafiaaDoor
open Go.RowKit SpM
set_option linter.unusedVariables false
set_option linter.unusedSimpArgs false
set_option maxRecDepth 100000
set_option maxHeartbeats 6400000 in
theorem kp_l (P Q G b x : Int) (s : ByteArray) (h : List Int) (c : Int) (hs : s.size ≤ 1000) (hl : Hid (h.length = 32)) (hhb : Hid (bytesB h = true)) (HVG : Hid (validG P Q G = true)) (hob : Hid (okB P Q b = true)) (hex : Hid (expB Q x = true)) (hr : Hid (labB (bys s) = false)) (w : World) (hv : Hid (Vars w)) (hd : Hid (VarsD w)) :
    Calls Tryd.prog 42 #[gv P Q G, .int .i64 b, .int .i64 x, .string s, .agg (tcs h c)] w fun e w' => e = .returned (PrvE (.agg #[.slice none 0 0, .int .i64 0, .slice none 0 0]) (zer 32) 0 1) ∧ Below w.heap.size w w' := by
  obtain ⟨hp2, hp, hq3, hqp⟩ := validG_P HVG.out
  have xl := expB_lo hex.out
  have xu := expB_hi hex.out
  obtain ⟨W, hW⟩ : ∃ W, ((((w.alloc (gObj P Q G)).alloc (.cells (tcs h c) 74)).alloc (.cells #[.slice none 0 0, .int .i64 0, .slice none 0 0] 32)).alloc (.cells #[.int .u8 0, .int .u8 0, .int .u8 0, .int .u8 0, .int .u8 0, .int .u8 0, .int .u8 0, .int .u8 0, .int .u8 0, .int .u8 0, .int .u8 0, .int .u8 0, .int .u8 0, .int .u8 0, .int .u8 0, .int .u8 0, .int .u8 0, .int .u8 0, .int .u8 0, .int .u8 0, .int .u8 0, .int .u8 0, .int .u8 0, .int .u8 0, .int .u8 0, .int .u8 0, .int .u8 0, .int .u8 0, .int .u8 0, .int .u8 0, .int .u8 0, .int .u8 0, .int .i64 0] 74)) = W := ⟨_, rfl⟩
  have HI0 : Hid (PvK w P Q G h c W) := Lib.hid (by rw [← hW]; exact PvK.start w P Q G h c)
  have HV := Lib.hid (hv.out.below HI0.out.b)
  have HDV := Lib.hid (hd.out.below HI0.out.b)
  have HW := Lib.hid hW
  clear hW hv hd
  go_enter Tryd.func42, Tryd.ntmps42
  go_upto_region 1 with (fail)
  rw [HW.out]
  clear HW
  go_wp2_with fail
  refine (tnew_bad s hs hr _).mono ?_
  rintro e w1 ⟨rfl, hb1⟩
  have HI1 := Lib.hid (HI0.out.below hb1)
  have HB1 : Hid (Below W.heap.size W w1) := Lib.hid hb1
  clear hb1
  rw [show TrE (zer 32) 0 1 = .tuple #[.agg (tcs (zer 32) 0), .int .i64 1] from rfl]
  go_upto_region 2 with ((with_reducible show wpList _ _ _ (⟨none, _, _, _, _, _⟩ :: _) _ _); refine wpList_store_row rfl 125 _ _ rfl w1.heap.size (tcs (zer 32) 0) rfl rfl _ _ (heap_alloc_new _ _) (tr_info rfl) (tcs_sz (h := zer 32) (c := 0) rfl rfl) (tcs_one _ _) ?_)
  rw [World.setRow_alloc_new]
  try simp only [Act.put]
  have HI2 := Lib.hid (HI1.out.below (below_box0 w1 (.cells (tcs (zer 32) 0) 125)))
  have HB2 : Hid (Below W.heap.size W (w1.alloc (.cells (tcs (zer 32) 0) 125))) := Lib.hid (below_ext HB1.out (below_box0 w1 (.cells (tcs (zer 32) 0) 125)))
  obtain ⟨w2, hw2⟩ : ∃ u, w1.alloc (.cells (tcs (zer 32) 0) 125) = u := ⟨_, rfl⟩
  rw [hw2] at HI2 HB2 ⊢
  clear hw2
  obtain ⟨g0, g1, g2⟩ := HI2.out.g
  go_wp2_with fail
  refine (valid_any P Q G true HVG (by omega) _ (Lib.hid (HV.out.below HB2.out))).mono ?_
  rintro e w3 ⟨rfl, hb3⟩
  have HI3 := Lib.hid (HI2.out.below hb3)
  have HB3 : Hid (Below W.heap.size W w3) := Lib.hid (below_ext HB2.out hb3)
  clear hb3 g0 g1 g2
  have HIz := HI3
  obtain ⟨hq, hdd, hd1, hbF⟩ := HIz.out.fail
  have HDz := Lib.hid hd1
  have HPz := Lib.hid HIz.out.p
  have HQF := Lib.hid hq
  have HDF := Lib.hid hdd
  have HBF := Lib.hid hbF
  clear hq hdd hd1 hbF
  obtain ⟨⟨p0, p1, p2⟩, pf0, pf1, pf2⟩ := HPz.out.cells
  go_wp2_with (first
    | ((with_reducible show wpList _ _ _ (⟨some 42, _, _, _, _, _⟩ :: _) _ _); refine wpList_built rfl 74 _ rfl _ builtD ?_)
    | ((with_reducible show wpList _ _ _ (⟨none, _, _, _, _, _⟩ :: _) _ _); refine wpList_store_row rfl 74 _ _ rfl (w.heap.size + 3) (tcs (zer 32) 0) rfl rfl _ _ HDz.out (dr_info rfl) rfl (tcs_one _ _) ?_))
  exact bodyPost_ret (v := PrvE (.agg #[.slice none 0 0, .int .i64 0, .slice none 0 0]) (zer 32) 0 1) (results_cell2_tmp (p := 10) (q := 11) (r := 12) (ty := 32) (ty2 := 74) rfl _ _ ⟨w.heap.size + 2, 0, none⟩ ⟨w.heap.size + 3, 0, none⟩ _ _ _ rfl rfl rfl (run_loadVar_row _ _ _ _ _ _ _ HQF.out Tryd.underlying32 rfl infoP) (run_loadVar_row _ _ _ _ _ _ _ HDF.out Tryd.underlying74 rfl (dr_info rfl))) rfl ⟨rfl, HBF.out⟩
set_option maxHeartbeats 6400000 in
theorem kp_d (P Q G b x : Int) (s : ByteArray) (h : List Int) (c : Int) (hs : s.size ≤ 1000) (hl : Hid (h.length = 32)) (hhb : Hid (bytesB h = true)) (HVG : Hid (validG P Q G = true)) (hob : Hid (okB P Q b = true)) (hex : Hid (expB Q x = true)) (hr : Hid (labB (bys s) = true)) (hdr : Hid (drB c = false)) (w : World) (hv : Hid (Vars w)) (hd : Hid (VarsD w)) :
    Calls Tryd.prog 42 #[gv P Q G, .int .i64 b, .int .i64 x, .string s, .agg (tcs h c)] w fun e w' => e = .returned (PrvE (.agg #[.slice none 0 0, .int .i64 0, .slice none 0 0]) (zer 32) 0 1) ∧ Below w.heap.size w w' := by
  obtain ⟨hp2, hp, hq3, hqp⟩ := validG_P HVG.out
  have xl := expB_lo hex.out
  have xu := expB_hi hex.out
  obtain ⟨W, hW⟩ : ∃ W, ((((w.alloc (gObj P Q G)).alloc (.cells (tcs h c) 74)).alloc (.cells #[.slice none 0 0, .int .i64 0, .slice none 0 0] 32)).alloc (.cells #[.int .u8 0, .int .u8 0, .int .u8 0, .int .u8 0, .int .u8 0, .int .u8 0, .int .u8 0, .int .u8 0, .int .u8 0, .int .u8 0, .int .u8 0, .int .u8 0, .int .u8 0, .int .u8 0, .int .u8 0, .int .u8 0, .int .u8 0, .int .u8 0, .int .u8 0, .int .u8 0, .int .u8 0, .int .u8 0, .int .u8 0, .int .u8 0, .int .u8 0, .int .u8 0, .int .u8 0, .int .u8 0, .int .u8 0, .int .u8 0, .int .u8 0, .int .u8 0, .int .i64 0] 74)) = W := ⟨_, rfl⟩
  have HI0 : Hid (PvK w P Q G h c W) := Lib.hid (by rw [← hW]; exact PvK.start w P Q G h c)
  have HV := Lib.hid (hv.out.below HI0.out.b)
  have HDV := Lib.hid (hd.out.below HI0.out.b)
  have HW := Lib.hid hW
  clear hW hv hd
  go_enter Tryd.func42, Tryd.ntmps42
  go_upto_region 1 with (fail)
  rw [HW.out]
  clear HW
  go_wp2_with fail
  refine (tnew_ok s hs hr _ HDV).mono ?_
  rintro e w1 ⟨rfl, hb1⟩
  have HI1 := Lib.hid (HI0.out.below hb1)
  have HB1 : Hid (Below W.heap.size W w1) := Lib.hid hb1
  clear hb1
  obtain ⟨S0, hS0⟩ : ∃ S, newL (bys s) = S := ⟨_, rfl⟩
  have HL0 : Hid (S0.length = 32) := Lib.hid (by rw [← hS0]; exact (st_new _).1)
  rw [hS0, show TrE S0 0 0 = .tuple #[.agg (tcs S0 0), .int .i64 0] from rfl]
  clear hS0
  go_upto_region 2 with ((with_reducible show wpList _ _ _ (⟨none, _, _, _, _, _⟩ :: _) _ _); refine wpList_store_row rfl 125 _ _ rfl w1.heap.size (tcs S0 0) rfl rfl _ _ (heap_alloc_new _ _) (tr_info HL0.out) (tcs_sz (h := zer 32) (c := 0) rfl HL0.out) (tcs_one _ _) ?_)
  rw [World.setRow_alloc_new]
  try simp only [Act.put]
  have HI2 := Lib.hid (HI1.out.below (below_box0 w1 (.cells (tcs S0 0) 125)))
  have HB2 : Hid (Below W.heap.size W (w1.alloc (.cells (tcs S0 0) 125))) := Lib.hid (below_ext HB1.out (below_box0 w1 (.cells (tcs S0 0) 125)))
  obtain ⟨w2, hw2⟩ : ∃ u, w1.alloc (.cells (tcs S0 0) 125) = u := ⟨_, rfl⟩
  rw [hw2] at HI2 HB2 ⊢
  clear hw2
  obtain ⟨g0, g1, g2⟩ := HI2.out.g
  go_wp2_with fail
  refine (valid_any P Q G true HVG (by omega) _ (Lib.hid (HV.out.below HB2.out))).mono ?_
  rintro e w3 ⟨rfl, hb3⟩
  have HI3 := Lib.hid (HI2.out.below hb3)
  have HB3 : Hid (Below W.heap.size W w3) := Lib.hid (below_ext HB2.out hb3)
  clear hb3 g0 g1 g2
  go_wp2_with ((with_reducible show wpList _ _ _ (⟨some 37, _, _, _, _, _⟩ :: _) _ _); refine wpList_load_row_g (by rfl) 74 _ rfl (w.heap.size + 1) rfl _ _ _ _ HI3.out.d Tryd.underlying74 rfl (dr_info hl.out) ?_)
  refine (dvalid_any h hl c false hdr _).mono ?_
  rintro e w4 ⟨rfl, hb4⟩
  have HI4 := Lib.hid (HI3.out.below hb4)
  have HB4 : Hid (Below W.heap.size W w4) := Lib.hid (below_ext HB3.out hb4)
  clear hb4
  have HIz := HI4
  obtain ⟨hq, hdd, hd1, hbF⟩ := HIz.out.fail
  have HDz := Lib.hid hd1
  have HPz := Lib.hid HIz.out.p
  have HQF := Lib.hid hq
  have HDF := Lib.hid hdd
  have HBF := Lib.hid hbF
  clear hq hdd hd1 hbF
  obtain ⟨⟨p0, p1, p2⟩, pf0, pf1, pf2⟩ := HPz.out.cells
  go_wp2_with (first
    | ((with_reducible show wpList _ _ _ (⟨some 42, _, _, _, _, _⟩ :: _) _ _); refine wpList_built rfl 74 _ rfl _ builtD ?_)
    | ((with_reducible show wpList _ _ _ (⟨none, _, _, _, _, _⟩ :: _) _ _); refine wpList_store_row rfl 74 _ _ rfl (w.heap.size + 3) (tcs (zer 32) 0) rfl rfl _ _ HDz.out (dr_info rfl) rfl (tcs_one _ _) ?_))
  exact bodyPost_ret (v := PrvE (.agg #[.slice none 0 0, .int .i64 0, .slice none 0 0]) (zer 32) 0 1) (results_cell2_tmp (p := 10) (q := 11) (r := 12) (ty := 32) (ty2 := 74) rfl _ _ ⟨w.heap.size + 2, 0, none⟩ ⟨w.heap.size + 3, 0, none⟩ _ _ _ rfl rfl rfl (run_loadVar_row _ _ _ _ _ _ _ HQF.out Tryd.underlying32 rfl infoP) (run_loadVar_row _ _ _ _ _ _ _ HDF.out Tryd.underlying74 rfl (dr_info rfl))) rfl ⟨rfl, HBF.out⟩
set_option maxHeartbeats 6400000 in
theorem kp_f (P Q G b x : Int) (s : ByteArray) (h : List Int) (c : Int) (hs : s.size ≤ 1000) (hl : Hid (h.length = 32)) (hhb : Hid (bytesB h = true)) (HVG : Hid (validG P Q G = true)) (hob : Hid (okB P Q b = true)) (hex : Hid (expB Q x = true)) (hr : Hid (labB (bys s) = true)) (hdr : Hid (drB c = true)) (k rc : Int) (HN : Kp (numD h Q (maskD Q) 256 c 0 = (k, rc, true))) (w : World) (hv : Hid (Vars w)) (hd : Hid (VarsD w)) :
    Calls Tryd.prog 42 #[gv P Q G, .int .i64 b, .int .i64 x, .string s, .agg (tcs h c)] w fun e w' => e = .returned (PrvE (.agg #[.slice none 0 0, .int .i64 0, .slice none 0 0]) (zer 32) 0 5) ∧ Below w.heap.size w w' := by
  obtain ⟨hh, hhe⟩ : ∃ l, zer 32 = l := ⟨_, rfl⟩
  have hhl : Hid (hh.length = 32) := Lib.hid (by rw [← hhe]; rfl)
  obtain ⟨cc, hcc⟩ : ∃ z : Int, 0 = z := ⟨_, rfl⟩
  obtain ⟨ee, hee⟩ : ∃ z : Int, 5 = z := ⟨_, rfl⟩
  have hR : Hid ((if true = true then DrE (zer 32) 0 5 else DrE h rc 0) = DrE hh cc ee) := Lib.hid (by rw [if_pos rfl, hhe, hcc, hee])
  have HEE := Lib.hid hee
  clear hhe hcc hee
  obtain ⟨hp2, hp, hq3, hqp⟩ := validG_P HVG.out
  have xl := expB_lo hex.out
  have xu := expB_hi hex.out
  obtain ⟨W, hW⟩ : ∃ W, ((((w.alloc (gObj P Q G)).alloc (.cells (tcs h c) 74)).alloc (.cells #[.slice none 0 0, .int .i64 0, .slice none 0 0] 32)).alloc (.cells #[.int .u8 0, .int .u8 0, .int .u8 0, .int .u8 0, .int .u8 0, .int .u8 0, .int .u8 0, .int .u8 0, .int .u8 0, .int .u8 0, .int .u8 0, .int .u8 0, .int .u8 0, .int .u8 0, .int .u8 0, .int .u8 0, .int .u8 0, .int .u8 0, .int .u8 0, .int .u8 0, .int .u8 0, .int .u8 0, .int .u8 0, .int .u8 0, .int .u8 0, .int .u8 0, .int .u8 0, .int .u8 0, .int .u8 0, .int .u8 0, .int .u8 0, .int .u8 0, .int .i64 0] 74)) = W := ⟨_, rfl⟩
  have HI0 : Hid (PvK w P Q G h c W) := Lib.hid (by rw [← hW]; exact PvK.start w P Q G h c)
  have HV := Lib.hid (hv.out.below HI0.out.b)
  have HDV := Lib.hid (hd.out.below HI0.out.b)
  have HW := Lib.hid hW
  clear hW hv hd
  go_enter Tryd.func42, Tryd.ntmps42
  go_upto_region 1 with (fail)
  rw [HW.out]
  clear HW
  go_wp2_with fail
  refine (tnew_ok s hs hr _ HDV).mono ?_
  rintro e w1 ⟨rfl, hb1⟩
  have HI1 := Lib.hid (HI0.out.below hb1)
  have HB1 : Hid (Below W.heap.size W w1) := Lib.hid hb1
  clear hb1
  obtain ⟨S0, hS0⟩ : ∃ S, newL (bys s) = S := ⟨_, rfl⟩
  have HL0 : Hid (S0.length = 32) := Lib.hid (by rw [← hS0]; exact (st_new _).1)
  rw [hS0, show TrE S0 0 0 = .tuple #[.agg (tcs S0 0), .int .i64 0] from rfl]
  clear hS0
  go_upto_region 2 with ((with_reducible show wpList _ _ _ (⟨none, _, _, _, _, _⟩ :: _) _ _); refine wpList_store_row rfl 125 _ _ rfl w1.heap.size (tcs S0 0) rfl rfl _ _ (heap_alloc_new _ _) (tr_info HL0.out) (tcs_sz (h := zer 32) (c := 0) rfl HL0.out) (tcs_one _ _) ?_)
  rw [World.setRow_alloc_new]
  try simp only [Act.put]
  have HI2 := Lib.hid (HI1.out.below (below_box0 w1 (.cells (tcs S0 0) 125)))
  have HB2 : Hid (Below W.heap.size W (w1.alloc (.cells (tcs S0 0) 125))) := Lib.hid (below_ext HB1.out (below_box0 w1 (.cells (tcs S0 0) 125)))
  obtain ⟨w2, hw2⟩ : ∃ u, w1.alloc (.cells (tcs S0 0) 125) = u := ⟨_, rfl⟩
  rw [hw2] at HI2 HB2 ⊢
  clear hw2
  obtain ⟨g0, g1, g2⟩ := HI2.out.g
  go_wp2_with fail
  refine (valid_any P Q G true HVG (by omega) _ (Lib.hid (HV.out.below HB2.out))).mono ?_
  rintro e w3 ⟨rfl, hb3⟩
  have HI3 := Lib.hid (HI2.out.below hb3)
  have HB3 : Hid (Below W.heap.size W w3) := Lib.hid (below_ext HB2.out hb3)
  clear hb3 g0 g1 g2
  go_wp2_with ((with_reducible show wpList _ _ _ (⟨some 37, _, _, _, _, _⟩ :: _) _ _); refine wpList_load_row_g (by rfl) 74 _ rfl (w.heap.size + 1) rfl _ _ _ _ HI3.out.d Tryd.underlying74 rfl (dr_info hl.out) ?_)
  refine (dvalid_any h hl c true hdr _).mono ?_
  rintro e w4 ⟨rfl, hb4⟩
  have HI4 := Lib.hid (HI3.out.below hb4)
  have HB4 : Hid (Below W.heap.size W w4) := Lib.hid (below_ext HB3.out hb4)
  clear hb4
  obtain ⟨g0, g1, g2⟩ := HI4.out.g
  go_wp2_with fail
  refine (kbase_any P Q G b true HVG hob _ (Lib.hid (HV.out.below HB4.out))).mono ?_
  rintro e w5 ⟨rfl, hb5⟩
  have HI5 := Lib.hid (HI4.out.below hb5)
  have HB5 : Hid (Below W.heap.size W w5) := Lib.hid (below_ext HB4.out hb5)
  clear hb5 g0 g1 g2
  obtain ⟨g0, g1, g2⟩ := HI5.out.g
  go_wp2_with fail
  refine (kexp_any P Q G x true hex _).mono ?_
  rintro e w6 ⟨rfl, hb6⟩
  have HI6 := Lib.hid (HI5.out.below hb6)
  have HB6 : Hid (Below W.heap.size W w6) := Lib.hid (below_ext HB5.out hb6)
  clear hb6 g0 g1 g2
  obtain ⟨g0, g1, g2⟩ := HI6.out.g
  go_wp2_with ((with_reducible show wpList _ _ _ (⟨some 57, _, _, _, _, _⟩ :: _) _ _); refine wpList_load_row_g (by rfl) 74 _ rfl (w.heap.size + 1) rfl _ _ _ _ HI6.out.d Tryd.underlying74 rfl (dr_info hl.out) ?_)
  refine (dnext_any h hl hhb c hdr Q (by omega) (by omega) k rc true HN hh cc ee hR hhl _ (Lib.hid (HDV.out.below HB6.out))).mono ?_
  rintro e w7 ⟨rfl, hb7⟩
  have HI7 := Lib.hid (HI6.out.below hb7)
  have HB7 : Hid (Below W.heap.size W w7) := Lib.hid (below_ext HB6.out hb7)
  rw [show ChE hh cc k ee = .tuple #[.agg (tcs hh cc), .int .i64 k, .int .i64 ee] from rfl]
  clear hb7 g0 g1 g2
  go_upto_region 7 with ((with_reducible show wpList _ _ _ (⟨none, _, _, _, _, _⟩ :: _) _ _); refine wpList_store_row rfl 74 _ _ rfl w7.heap.size (tcs hh cc) rfl rfl _ _ (heap_alloc_new _ _) (dr_info hhl.out) (tcs_sz (h := zer 32) (c := 0) rfl hhl.out) (tcs_one _ _) ?_)
  rw [World.setRow_alloc_new]
  try simp only [Act.put]
  have hq8 := below_box0 w7 (.cells (tcs hh cc) 74)
  have HI8 := Lib.hid (HI7.out.below hq8)
  have HB8 : Hid (Below W.heap.size W (w7.alloc (.cells (tcs hh cc) 74))) := Lib.hid (below_ext HB7.out hq8)
  have HD8 : Hid (DBlk (w7.alloc (.cells (tcs hh cc) 74)) w7.heap.size hh cc) := Lib.hid (DBlk.new _ _ _)
  have HZ8 : Hid (w.heap.size + 4 ≤ w7.heap.size) := Lib.hid HI7.out.z
  obtain ⟨w8, hw8⟩ : ∃ u, w7.alloc (.cells (tcs hh cc) 74) = u := ⟨_, rfl⟩
  rw [hw8] at HI8 HB8 HD8 ⊢
  clear hw8 hq8
  have hee := HEE.out
  subst hee
  have HIz := HI8
  obtain ⟨hq, hdd, hd1, hbF⟩ := HIz.out.fail
  have HDz := Lib.hid hd1
  have HPz := Lib.hid HIz.out.p
  have HQF := Lib.hid hq
  have HDF := Lib.hid hdd
  have HBF := Lib.hid hbF
  clear hq hdd hd1 hbF
  obtain ⟨⟨p0, p1, p2⟩, pf0, pf1, pf2⟩ := HPz.out.cells
  go_wp2_with (first
    | ((with_reducible show wpList _ _ _ (⟨some 67, _, _, _, _, _⟩ :: _) _ _); refine wpList_built rfl 74 _ rfl _ builtD ?_)
    | ((with_reducible show wpList _ _ _ (⟨none, _, _, _, _, _⟩ :: _) _ _); refine wpList_store_row rfl 74 _ _ rfl (w.heap.size + 3) (tcs (zer 32) 0) rfl rfl _ _ HDz.out (dr_info rfl) rfl (tcs_one _ _) ?_))
  exact bodyPost_ret (v := PrvE (.agg #[.slice none 0 0, .int .i64 0, .slice none 0 0]) (zer 32) 0 5) (results_cell2_tmp (p := 10) (q := 11) (r := 12) (ty := 32) (ty2 := 74) rfl _ _ ⟨w.heap.size + 2, 0, none⟩ ⟨w.heap.size + 3, 0, none⟩ _ _ _ rfl rfl rfl (run_loadVar_row _ _ _ _ _ _ _ HQF.out Tryd.underlying32 rfl infoP) (run_loadVar_row _ _ _ _ _ _ _ HDF.out Tryd.underlying74 rfl (dr_info rfl))) rfl ⟨rfl, HBF.out⟩
theorem cells_far {w w' : World} {g : Nat} {xs : List Int} (h : Cells w g xs) (hb : w'.heap[g]? = w.heap[g]?) : Cells w' g xs := fun k hk => (World.cell?_of_block hb).trans (h k hk)
/-- what knowledge.Prove answers. -/
def KpOut (a V z : Int) (h : List Int) (rc : Int) (w : World) (e : Ending) (w' : World) : Prop :=
  ∃ gA gZ, e = .returned (PrvE (.agg #[.slice (some ⟨gA, 0, none⟩) 1 1, .int .i64 V, .slice (some ⟨gZ, 0, none⟩) 1 1]) h rc 0) ∧ Cells w' gA [a] ∧ Cells w' gZ [z] ∧ Below w.heap.size w w'
set_option maxHeartbeats 12800000 in
theorem kp_o (P Q G b x : Int) (s : ByteArray) (h : List Int) (c : Int) (hs : s.size ≤ 1000) (hl : Hid (h.length = 32)) (hhb : Hid (bytesB h = true)) (HVG : Hid (validG P Q G = true)) (hob : Hid (okB P Q b = true)) (hex : Hid (expB Q x = true)) (hr : Hid (labB (bys s) = true)) (hdr : Hid (drB c = true)) (k rc : Int) (HN : Kp (numD h Q (maskD Q) 256 c 0 = (k, rc, false))) (k0 : 0 ≤ k) (k1 : k < Q) (y a : Int) (hy : Hid (pw b (x % Q) P = y)) (ha : Hid (pw b (k % Q) P = a)) (V : Int) (hV : Kp (chalK P Q G b y a (bys s) = V)) (V0 : 0 ≤ V) (V1 : V < Q) (z : Int) (hz : Hid ((V * x % Q + k) % Q = z)) (w : World) (hv : Hid (Vars w)) (hd : Hid (VarsD w)) :
    Calls Tryd.prog 42 #[gv P Q G, .int .i64 b, .int .i64 x, .string s, .agg (tcs h c)] w (KpOut a V z h rc w) := by
  have hR : Hid ((if false = true then DrE (zer 32) 0 5 else DrE h rc 0) = DrE h rc 0) := Lib.hid (if_neg (by decide))
  have hhl := hl
  have HCB := Lib.hid (chkG_ok (xs := [b]) HVG.out (by simp [okB_mem hob.out]))
  have OKG := Lib.hid (valid_okg HVG.out)
  have hmb := okB_mem hob.out
  have hmy : memG P Q y = true := by rw [← hy.out]; exact mem_pw (validG_P HVG.out).1 (by have := (validG_P HVG.out).2.2.1; omega) (Int.emod_nonneg _ (by have := (validG_P HVG.out).2.2.1; omega)) hmb
  have hma : memG P Q a = true := by rw [← ha.out]; exact mem_pw (validG_P HVG.out).1 (by have := (validG_P HVG.out).2.2.1; omega) (Int.emod_nonneg _ (by have := (validG_P HVG.out).2.2.1; omega)) hmb
  have OKB : Hid (okL [b, y]) := Lib.hid (mem_okL (Q := Q) (validG_P HVG.out).2.1 (by simp [hmb, hmy]) (by simp))
  have OKA : Hid (okL [a]) := Lib.hid (mem_okL (Q := Q) (validG_P HVG.out).2.1 (by simp [hma]) (by simp))
  clear hmb hmy hma
  obtain ⟨hp2, hp, hq3, hqp⟩ := validG_P HVG.out
  have xl := expB_lo hex.out
  have xu := expB_hi hex.out
  obtain ⟨W, hW⟩ : ∃ W, ((((w.alloc (gObj P Q G)).alloc (.cells (tcs h c) 74)).alloc (.cells #[.slice none 0 0, .int .i64 0, .slice none 0 0] 32)).alloc (.cells #[.int .u8 0, .int .u8 0, .int .u8 0, .int .u8 0, .int .u8 0, .int .u8 0, .int .u8 0, .int .u8 0, .int .u8 0, .int .u8 0, .int .u8 0, .int .u8 0, .int .u8 0, .int .u8 0, .int .u8 0, .int .u8 0, .int .u8 0, .int .u8 0, .int .u8 0, .int .u8 0, .int .u8 0, .int .u8 0, .int .u8 0, .int .u8 0, .int .u8 0, .int .u8 0, .int .u8 0, .int .u8 0, .int .u8 0, .int .u8 0, .int .u8 0, .int .u8 0, .int .i64 0] 74)) = W := ⟨_, rfl⟩
  have HI0 : Hid (PvK w P Q G h c W) := Lib.hid (by rw [← hW]; exact PvK.start w P Q G h c)
  have HV := Lib.hid (hv.out.below HI0.out.b)
  have HDV := Lib.hid (hd.out.below HI0.out.b)
  have HW := Lib.hid hW
  clear hW hv hd
  go_enter Tryd.func42, Tryd.ntmps42
  go_upto_region 1 with (fail)
  rw [HW.out]
  clear HW
  go_wp2_with fail
  refine (tnew_ok s hs hr _ HDV).mono ?_
  rintro e w1 ⟨rfl, hb1⟩
  have HI1 := Lib.hid (HI0.out.below hb1)
  have HB1 : Hid (Below W.heap.size W w1) := Lib.hid hb1
  clear hb1
  obtain ⟨S0, hS0⟩ : ∃ S, newL (bys s) = S := ⟨_, rfl⟩
  have HL0 : Hid (S0.length = 32) := Lib.hid (by rw [← hS0]; exact (st_new _).1)
  rw [hS0, show TrE S0 0 0 = .tuple #[.agg (tcs S0 0), .int .i64 0] from rfl]
  clear hS0
  go_upto_region 2 with ((with_reducible show wpList _ _ _ (⟨none, _, _, _, _, _⟩ :: _) _ _); refine wpList_store_row rfl 125 _ _ rfl w1.heap.size (tcs S0 0) rfl rfl _ _ (heap_alloc_new _ _) (tr_info HL0.out) (tcs_sz (h := zer 32) (c := 0) rfl HL0.out) (tcs_one _ _) ?_)
  rw [World.setRow_alloc_new]
  try simp only [Act.put]
  have HI2 := Lib.hid (HI1.out.below (below_box0 w1 (.cells (tcs S0 0) 125)))
  have HB2 : Hid (Below W.heap.size W (w1.alloc (.cells (tcs S0 0) 125))) := Lib.hid (below_ext HB1.out (below_box0 w1 (.cells (tcs S0 0) 125)))
  obtain ⟨w2, hw2⟩ : ∃ u, w1.alloc (.cells (tcs S0 0) 125) = u := ⟨_, rfl⟩
  rw [hw2] at HI2 HB2 ⊢
  clear hw2
  obtain ⟨g0, g1, g2⟩ := HI2.out.g
  go_wp2_with fail
  refine (valid_any P Q G true HVG (by omega) _ (Lib.hid (HV.out.below HB2.out))).mono ?_
  rintro e w3 ⟨rfl, hb3⟩
  have HI3 := Lib.hid (HI2.out.below hb3)
  have HB3 : Hid (Below W.heap.size W w3) := Lib.hid (below_ext HB2.out hb3)
  clear hb3 g0 g1 g2
  go_wp2_with ((with_reducible show wpList _ _ _ (⟨some 37, _, _, _, _, _⟩ :: _) _ _); refine wpList_load_row_g (by rfl) 74 _ rfl (w.heap.size + 1) rfl _ _ _ _ HI3.out.d Tryd.underlying74 rfl (dr_info hl.out) ?_)
  refine (dvalid_any h hl c true hdr _).mono ?_
  rintro e w4 ⟨rfl, hb4⟩
  have HI4 := Lib.hid (HI3.out.below hb4)
  have HB4 : Hid (Below W.heap.size W w4) := Lib.hid (below_ext HB3.out hb4)
  clear hb4
  obtain ⟨g0, g1, g2⟩ := HI4.out.g
  go_wp2_with fail
  refine (kbase_any P Q G b true HVG hob _ (Lib.hid (HV.out.below HB4.out))).mono ?_
  rintro e w5 ⟨rfl, hb5⟩
  have HI5 := Lib.hid (HI4.out.below hb5)
  have HB5 : Hid (Below W.heap.size W w5) := Lib.hid (below_ext HB4.out hb5)
  clear hb5 g0 g1 g2
  obtain ⟨g0, g1, g2⟩ := HI5.out.g
  go_wp2_with fail
  refine (kexp_any P Q G x true hex _).mono ?_
  rintro e w6 ⟨rfl, hb6⟩
  have HI6 := Lib.hid (HI5.out.below hb6)
  have HB6 : Hid (Below W.heap.size W w6) := Lib.hid (below_ext HB5.out hb6)
  clear hb6 g0 g1 g2
  obtain ⟨g0, g1, g2⟩ := HI6.out.g
  go_wp2_with ((with_reducible show wpList _ _ _ (⟨some 57, _, _, _, _, _⟩ :: _) _ _); refine wpList_load_row_g (by rfl) 74 _ rfl (w.heap.size + 1) rfl _ _ _ _ HI6.out.d Tryd.underlying74 rfl (dr_info hl.out) ?_)
  refine (dnext_any h hl hhb c hdr Q (by omega) (by omega) k rc false HN h rc 0 hR hl _ (Lib.hid (HDV.out.below HB6.out))).mono ?_
  rintro e w7 ⟨rfl, hb7⟩
  have HI7 := Lib.hid (HI6.out.below hb7)
  have HB7 : Hid (Below W.heap.size W w7) := Lib.hid (below_ext HB6.out hb7)
  rw [show ChE h rc k 0 = .tuple #[.agg (tcs h rc), .int .i64 k, .int .i64 0] from rfl]
  clear hb7 g0 g1 g2
  go_upto_region 7 with ((with_reducible show wpList _ _ _ (⟨none, _, _, _, _, _⟩ :: _) _ _); refine wpList_store_row rfl 74 _ _ rfl w7.heap.size (tcs h rc) rfl rfl _ _ (heap_alloc_new _ _) (dr_info hl.out) (tcs_sz (h := zer 32) (c := 0) rfl hl.out) (tcs_one _ _) ?_)
  rw [World.setRow_alloc_new]
  try simp only [Act.put]
  have hq8 := below_box0 w7 (.cells (tcs h rc) 74)
  have HI8 := Lib.hid (HI7.out.below hq8)
  have HB8 : Hid (Below W.heap.size W (w7.alloc (.cells (tcs h rc) 74))) := Lib.hid (below_ext HB7.out hq8)
  have HD8 : Hid (DBlk (w7.alloc (.cells (tcs h rc) 74)) w7.heap.size h rc) := Lib.hid (DBlk.new _ _ _)
  have HZ8 : Hid (w.heap.size + 4 ≤ w7.heap.size) := Lib.hid HI7.out.z
  obtain ⟨w8, hw8⟩ : ∃ u, w7.alloc (.cells (tcs h rc) 74) = u := ⟨_, rfl⟩
  rw [hw8] at HI8 HB8 HD8 ⊢
  clear hw8 hq8
  obtain ⟨g0, g1, g2⟩ := HI8.out.g
  go_wp2_with fail
  refine (gpow_ok P Q G b x y HCB hy (by omega) (by omega) _ (Lib.hid (HV.out.below HB8.out))).mono ?_
  rintro e w9 ⟨rfl, hb9⟩
  have HI9 := Lib.hid (HI8.out.below hb9)
  have HB9 : Hid (Below W.heap.size W w9) := Lib.hid (below_ext HB8.out hb9)
  have HD9 := Lib.hid (HD8.out.below hb9)
  clear hb9 g0 g1 g2
  obtain ⟨g0, g1, g2⟩ := HI9.out.g
  go_wp2_with fail
  refine (gpow_ok P Q G b k a HCB ha (by omega) (by omega) _ (Lib.hid (HV.out.below HB9.out))).mono ?_
  rintro e w10 ⟨rfl, hb10⟩
  have HI10 := Lib.hid (HI9.out.below hb10)
  have HB10 : Hid (Below W.heap.size W w10) := Lib.hid (below_ext HB9.out hb10)
  have HD10 := Lib.hid (HD9.out.below hb10)
  clear hb10 g0 g1 g2
  obtain ⟨g0, g1, g2⟩ := HI10.out.g
  go_wp2_with fail
  refine (kchal_ok P Q G b y a s hs hr OKG OKB OKA (by omega) (by omega) V hV _ (Lib.hid (HDV.out.below HB10.out))).mono ?_
  rintro e w11 ⟨rfl, hb11⟩
  have HI11 := Lib.hid (HI10.out.below hb11)
  have HB11 : Hid (Below W.heap.size W w11) := Lib.hid (below_ext HB10.out hb11)
  have HD11 := Lib.hid (HD10.out.below hb11)
  clear hb11 g0 g1 g2
  have HId := Lib.hid (HI11.out.below (Below.refl _ _).drew)
  have HBd : Hid (Below W.heap.size W w11.drew) := Lib.hid (below_ext HB11.out (Below.refl _ _).drew)
  have HDd := Lib.hid (HD11.out.below (Below.refl _ _).drew)
  have HZd : Hid (w7.heap.size < w11.drew.heap.size) := Lib.hid HDd.out.lt
  obtain ⟨g0, g1, g2⟩ := HI11.out.g
  go_wp2_with fail
  clear g0 g1 g2
  refine wp_region_T (S := fun w' => w'.cell? ⟨w.heap.size, 0, none⟩ = some (.int .i64 P) ∧ w'.cell? ⟨w.heap.size, 1, none⟩ = some (.int .i64 Q) ∧ w'.cell? ⟨w.heap.size, 2, none⟩ = some (.int .i64 G) ∧ w'.heap[w7.heap.size]? = some (.cells (tcs h rc) 74 (0, 0))) (E := [12, 13]) (by kernel_rfl) (by exact ⟨HId.out.g.1, HId.out.g.2.1, HId.out.g.2.2, HDd.out⟩) (fun hHeld => ?_)
  refine wpT_take (i := 0) (oi := _) (v := ?_) rfl (by kernel_rfl) (by kernel_rfl) (by kernel_rfl) (by kernel_rfl) (fun _ _ _ h => h) (Or.inl ⟨by rfl, ?_⟩) (by assumption) ?_
  rotate_left; (intro wS hSw; (try dsimp only at hSw); go_simp <;> with_reducible rfl)
  try simp only [List.getElem_toArray, List.getElem_cons_zero, List.getElem_cons_succ, Act.put, List.setIfInBounds_toArray, List.set_cons_zero, List.set_cons_succ]
  refine wpT_take (i := 2) (oi := _) (v := ?_) rfl (by kernel_rfl) (by kernel_rfl) (by kernel_rfl) (by kernel_rfl) (fun _ _ _ h => h) (Or.inl ⟨by rfl, ?_⟩) (by assumption) ?_
  rotate_left; (intro wS hSw; (try dsimp only at hSw); go_simp <;> with_reducible rfl)
  try simp only [List.getElem_toArray, List.getElem_cons_zero, List.getElem_cons_succ, Act.put, List.setIfInBounds_toArray, List.set_cons_zero, List.set_cons_succ]
  refine wpT_take (i := 3) (oi := _) (v := ?_) rfl (by kernel_rfl) (by kernel_rfl) (by kernel_rfl) (by kernel_rfl) (fun _ _ _ h => h) (Or.inl ⟨by rfl, ?_⟩) (by assumption) ?_
  rotate_left; (intro wS hSw; (try dsimp only at hSw); go_simp <;> with_reducible rfl)
  try simp only [List.getElem_toArray, List.getElem_cons_zero, List.getElem_cons_succ, Act.put, List.setIfInBounds_toArray, List.set_cons_zero, List.set_cons_succ]
  refine wpT_take (i := 4) (oi := _) (v := ?_) rfl (by kernel_rfl) (by kernel_rfl) (by kernel_rfl) (by kernel_rfl) (fun _ _ _ h => h) (Or.inl ⟨by rfl, ?_⟩) (by assumption) ?_
  rotate_left; (intro wS hSw; (try dsimp only at hSw); go_simp <;> with_reducible rfl)
  try simp only [List.getElem_toArray, List.getElem_cons_zero, List.getElem_cons_succ, Act.put, List.setIfInBounds_toArray, List.set_cons_zero, List.set_cons_succ]
  refine wpT_take (i := 5) (oi := _) (v := ?_) rfl (by kernel_rfl) (by kernel_rfl) (by kernel_rfl) (by kernel_rfl) (fun _ _ _ h => h) (Or.inl ⟨by rfl, ?_⟩) (by assumption) ?_
  rotate_left; (intro wS hSw; (try dsimp only at hSw); go_simp <;> with_reducible rfl)
  try simp only [List.getElem_toArray, List.getElem_cons_zero, List.getElem_cons_succ, Act.put, List.setIfInBounds_toArray, List.set_cons_zero, List.set_cons_succ]
  refine wpT_take (i := 6) (oi := _) (v := ?_) rfl (by kernel_rfl) (by kernel_rfl) (by kernel_rfl) (by kernel_rfl) (fun _ _ _ h => h) (Or.inl ⟨by rfl, ?_⟩) (by assumption) ?_
  rotate_left; (intro wS hSw; (try dsimp only at hSw); go_simp <;> with_reducible rfl)
  try simp only [List.getElem_toArray, List.getElem_cons_zero, List.getElem_cons_succ, Act.put, List.setIfInBounds_toArray, List.set_cons_zero, List.set_cons_succ]
  refine wpT_take (i := 10) (oi := _) (v := (.agg (tcs h rc))) rfl (by kernel_rfl) (by kernel_rfl) (by kernel_rfl) (by kernel_rfl) (fun _ _ _ h => h) (Or.inl ⟨by rfl, yields_row 74 _ rfl w7.heap.size rfl _ _ _ _ (fun _ h => h.2.2.2) Tryd.underlying74 rfl (dr_info hl.out)⟩) (by assumption) ?_
  try simp only [List.getElem_toArray, List.getElem_cons_zero, List.getElem_cons_succ, Act.put, List.setIfInBounds_toArray, List.set_cons_zero, List.set_cons_succ]
  refine wpT_two (i1 := 1) (i2 := 7) (by kernel_rfl) rfl rfl (fun K hK => ?_) (fun K hK => ?_)
  · skip
    go_simp
    refine hK.out _ _ ?_ (fun hHeld => ?_)
    · have hz1 := HId.out.below (below_box0 w11.drew (.cells #[.int .i64 a] 3))
      have hz2 := HDd.out.below (below_box0 w11.drew (.cells #[.int .i64 a] 3))
      exact ⟨hz1.g.1, hz1.g.2.1, hz1.g.2.2, hz2⟩
    clear hK K
    try simp only [List.getElem_toArray, List.getElem_cons_zero, List.getElem_cons_succ, Act.put, List.setIfInBounds_toArray, List.set_cons_zero, List.set_cons_succ]
    refine wpT_one (i := 7) (by kernel_rfl) rfl (fun K hK => ?_)
    go_simp
    refine (response_ok P Q G k V x z hz (by omega) (by omega) k0 k1 V0 V1 xl xu _).mono ?_
    rintro e wB ⟨rfl, hbB⟩
    have hqa := below_box0 w11.drew (.cells #[.int .i64 a] 3)
    have HI12 := Lib.hid ((HId.out.below hqa).below hbB)
    have HD12 := Lib.hid ((HDd.out.below hqa).below hbB)
    have HA12 : Hid (Cells wB w11.drew.heap.size [a]) := Lib.hid ((cells1 w11.drew 3 a).below hbB)
    clear hqa hbB
    refine hK.out _ _ ?_ (fun hHeld => ?_)
    · exact ⟨HI12.out.g.1, HI12.out.g.2.1, HI12.out.g.2.2, HD12.out⟩
    clear hK K
    try simp only [List.getElem_toArray, List.getElem_cons_zero, List.getElem_cons_succ, Act.put, List.setIfInBounds_toArray, List.set_cons_zero, List.set_cons_succ]
    refine wpT_one (i := 8) (by kernel_rfl) rfl (fun K hK => ?_)
    go_simp
    refine hK.out _ _ ?_ (fun hHeld => ?_)
    · have hz1 := HI12.out.below (below_box0 wB (.cells #[.int .i64 z] 3))
      have hz2 := HD12.out.below (below_box0 wB (.cells #[.int .i64 z] 3))
      exact ⟨hz1.g.1, hz1.g.2.1, hz1.g.2.2, hz2⟩
    clear hK K
    try simp only [List.getElem_toArray, List.getElem_cons_zero, List.getElem_cons_succ, Act.put, List.setIfInBounds_toArray, List.set_cons_zero, List.set_cons_succ]
    have hqz := below_box0 wB (.cells #[.int .i64 z] 3)
    have HIz := Lib.hid (HI12.out.below hqz)
    have HDz := Lib.hid (HD12.out.below hqz)
    have HAz := Lib.hid (HA12.out.below hqz)
    have HZz : Hid (Cells (wB.alloc (.cells #[.int .i64 z] 3)) wB.heap.size [z]) := Lib.hid (cells1 wB 3 z)
    have HGA : Hid (w.heap.size + 4 ≤ w11.drew.heap.size) := Lib.hid HId.out.z
    have HGZ : Hid (w.heap.size + 4 ≤ wB.heap.size) := Lib.hid HI12.out.z
    clear hqz
    have HE15 : Hid (DBlk ((wB.alloc (.cells #[.int .i64 z] 3)).setRow (w.heap.size + 2) #[.slice (some ⟨w11.drew.heap.size, 0, none⟩) 1 1, .int .i64 V, .slice (some ⟨wB.heap.size, 0, none⟩) 1 1]) (w.heap.size + 3) (zer 32) 0) := Lib.hid ((setRow_other _ _ _ _ (by omega)).trans HIz.out.e)
    have HPF : Hid (QBlk (((wB.alloc (.cells #[.int .i64 z] 3)).setRow (w.heap.size + 2) #[.slice (some ⟨w11.drew.heap.size, 0, none⟩) 1 1, .int .i64 V, .slice (some ⟨wB.heap.size, 0, none⟩) 1 1]).setRow (w.heap.size + 3) (tcs h rc)) (w.heap.size + 2) (.slice (some ⟨w11.drew.heap.size, 0, none⟩) 1 1) (.int .i64 V) (.slice (some ⟨wB.heap.size, 0, none⟩) 1 1)) := Lib.hid ((setRow_other _ _ _ _ (by omega)).trans HIz.out.p.setRow)
    have HDF : Hid (DBlk (((wB.alloc (.cells #[.int .i64 z] 3)).setRow (w.heap.size + 2) #[.slice (some ⟨w11.drew.heap.size, 0, none⟩) 1 1, .int .i64 V, .slice (some ⟨wB.heap.size, 0, none⟩) 1 1]).setRow (w.heap.size + 3) (tcs h rc)) (w.heap.size + 3) h rc) := Lib.hid HE15.out.setRow
    have HBF : Hid (Below w.heap.size w (((wB.alloc (.cells #[.int .i64 z] 3)).setRow (w.heap.size + 2) #[.slice (some ⟨w11.drew.heap.size, 0, none⟩) 1 1, .int .i64 V, .slice (some ⟨wB.heap.size, 0, none⟩) 1 1]).setRow (w.heap.size + 3) (tcs h rc))) := Lib.hid (below_setRow' (below_setRow' HIz.out.b (by omega)) (by omega))
    have HAF : Hid (Cells (((wB.alloc (.cells #[.int .i64 z] 3)).setRow (w.heap.size + 2) #[.slice (some ⟨w11.drew.heap.size, 0, none⟩) 1 1, .int .i64 V, .slice (some ⟨wB.heap.size, 0, none⟩) 1 1]).setRow (w.heap.size + 3) (tcs h rc)) (w11.drew.heap.size) [a]) := Lib.hid (cells_far HAz.out (by have := HGA.out; exact (setRow_other _ _ _ _ (by omega)).trans (setRow_other _ _ _ _ (by omega))))
    have HZF : Hid (Cells (((wB.alloc (.cells #[.int .i64 z] 3)).setRow (w.heap.size + 2) #[.slice (some ⟨w11.drew.heap.size, 0, none⟩) 1 1, .int .i64 V, .slice (some ⟨wB.heap.size, 0, none⟩) 1 1]).setRow (w.heap.size + 3) (tcs h rc)) (wB.heap.size) [z]) := Lib.hid (cells_far HZz.out (by have := HGZ.out; exact (setRow_other _ _ _ _ (by omega)).trans (setRow_other _ _ _ _ (by omega))))
    refine wpT_take (i := 9) (oi := _) (v := ?_) rfl (by kernel_rfl) (by kernel_rfl) (by kernel_rfl) (by kernel_rfl) (fun _ _ _ h => h) (Or.inl ⟨by rfl, ?_⟩) (by assumption) ?_
    rotate_left; (intro wS hSw; (try dsimp only at hSw); go_simp <;> with_reducible rfl)
    try simp only [List.getElem_toArray, List.getElem_cons_zero, List.getElem_cons_succ, Act.put, List.setIfInBounds_toArray, List.set_cons_zero, List.set_cons_succ]
    refine wpT_one (i := 11) (by kernel_rfl) rfl (fun K hK => ?_)
    rw [show (if Region.wanted _ _ = true then _ else _ : Prop) = _ from if_pos rfl]
    refine wp_store_row 32 _ _ rfl (w.heap.size + 2) #[.slice (some ⟨w11.drew.heap.size, 0, none⟩) 1 1, .int .i64 V, .slice (some ⟨wB.heap.size, 0, none⟩) 1 1] rfl rfl 32 _ HIz.out.p infoP rfl (by simp [Value.oneCell']) ?_
    refine hK.out _ _ ?_ (fun hHeld => ?_)
    · exact ⟨(cell_setRow_other _ _ _ _ (by simp)).trans HIz.out.g.1, (cell_setRow_other _ _ _ _ (by simp)).trans HIz.out.g.2.1, (cell_setRow_other _ _ _ _ (by simp)).trans HIz.out.g.2.2, (setRow_other _ _ _ _ (by have := HZ8.out; omega)).trans HDz.out⟩
    clear hK K
    try simp only [List.getElem_toArray, List.getElem_cons_zero, List.getElem_cons_succ, Act.put, List.setIfInBounds_toArray, List.set_cons_zero, List.set_cons_succ]
    refine wpT_pass (i := 12) (by kernel_rfl) (by simp) rfl (fun K hK => ?_)
    rw [show (if Region.wanted _ _ = true then _ else _ : Prop) = _ from if_pos rfl]
    refine wp_store_row 74 _ _ rfl (w.heap.size + 3) (tcs h rc) rfl rfl 74 _ HE15.out (dr_info hl.out) (tcs_sz rfl hl.out) (tcs_one _ _) ?_
    refine hK.out _ _ ?_
    clear hK K
    try simp only [List.getElem_toArray, List.getElem_cons_zero, List.getElem_cons_succ, Act.put, List.setIfInBounds_toArray, List.set_cons_zero, List.set_cons_succ]
    refine wpT_pass (i := 13) (by kernel_rfl) (by simp) rfl (fun K hK => ?_)
    go_simp
    refine hK.out _ _ ?_
    clear hK K
    try simp only [List.getElem_toArray, List.getElem_cons_zero, List.getElem_cons_succ, Act.put, List.setIfInBounds_toArray, List.set_cons_zero, List.set_cons_succ]
    refine wpT_done (by kernel_rfl) ?_ _
    go_wp2
    exact bodyPost_ret (v := PrvE (.agg #[.slice (some ⟨w11.drew.heap.size, 0, none⟩) 1 1, .int .i64 V, .slice (some ⟨wB.heap.size, 0, none⟩) 1 1]) h rc 0) (results_cell2_tmp (p := 10) (q := 11) (r := 12) (ty := 32) (ty2 := 74) rfl _ _ ⟨w.heap.size + 2, 0, none⟩ ⟨w.heap.size + 3, 0, none⟩ _ _ _ rfl rfl rfl (run_loadVar_row _ _ _ _ _ _ _ HPF.out Tryd.underlying32 rfl infoP) (run_loadVar_row _ _ _ _ _ _ _ HDF.out Tryd.underlying74 rfl (dr_info hl.out))) rfl ⟨_, _, rfl, HAF.out, HZF.out, HBF.out⟩
  · skip
    go_simp
    refine (response_ok P Q G k V x z hz (by omega) (by omega) k0 k1 V0 V1 xl xu _).mono ?_
    rintro e wB ⟨rfl, hbB⟩
    have HI12 := Lib.hid (HId.out.below hbB)
    have HD12 := Lib.hid (HDd.out.below hbB)
    clear hbB
    refine hK.out _ _ ?_ (fun hHeld => ?_)
    · exact ⟨HI12.out.g.1, HI12.out.g.2.1, HI12.out.g.2.2, HD12.out⟩
    clear hK K
    try simp only [List.getElem_toArray, List.getElem_cons_zero, List.getElem_cons_succ, Act.put, List.setIfInBounds_toArray, List.set_cons_zero, List.set_cons_succ]
    refine wpT_two (i1 := 1) (i2 := 8) (by kernel_rfl) rfl rfl (fun K hK => ?_) (fun K hK => ?_)
    · skip
      go_simp
      refine hK.out _ _ ?_ (fun hHeld => ?_)
      · have hz1 := HI12.out.below (below_box0 wB (.cells #[.int .i64 a] 3))
        have hz2 := HD12.out.below (below_box0 wB (.cells #[.int .i64 a] 3))
        exact ⟨hz1.g.1, hz1.g.2.1, hz1.g.2.2, hz2⟩
      clear hK K
      try simp only [List.getElem_toArray, List.getElem_cons_zero, List.getElem_cons_succ, Act.put, List.setIfInBounds_toArray, List.set_cons_zero, List.set_cons_succ]
      refine wpT_one (i := 8) (by kernel_rfl) rfl (fun K hK => ?_)
      go_simp
      refine hK.out _ _ ?_ (fun hHeld => ?_)
      · have hz1 := (HI12.out.below (below_box0 wB (.cells #[.int .i64 a] 3))).below (below_box0 (wB.alloc (.cells #[.int .i64 a] 3)) (.cells #[.int .i64 z] 3))
        have hz2 := (HD12.out.below (below_box0 wB (.cells #[.int .i64 a] 3))).below (below_box0 (wB.alloc (.cells #[.int .i64 a] 3)) (.cells #[.int .i64 z] 3))
        exact ⟨hz1.g.1, hz1.g.2.1, hz1.g.2.2, hz2⟩
      clear hK K
      try simp only [List.getElem_toArray, List.getElem_cons_zero, List.getElem_cons_succ, Act.put, List.setIfInBounds_toArray, List.set_cons_zero, List.set_cons_succ]
      have hqa := below_box0 wB (.cells #[.int .i64 a] 3)
      have hqz := below_box0 (wB.alloc (.cells #[.int .i64 a] 3)) (.cells #[.int .i64 z] 3)
      have HIz := Lib.hid ((HI12.out.below hqa).below hqz)
      have HDz := Lib.hid ((HD12.out.below hqa).below hqz)
      have HAz : Hid (Cells ((wB.alloc (.cells #[.int .i64 a] 3)).alloc (.cells #[.int .i64 z] 3)) wB.heap.size [a]) := Lib.hid ((cells1 wB 3 a).below hqz)
      have HZz : Hid (Cells ((wB.alloc (.cells #[.int .i64 a] 3)).alloc (.cells #[.int .i64 z] 3)) (wB.heap.size + 1) [z]) := Lib.hid (cells1' wB (.cells #[.int .i64 a] 3) 3 z)
      have HGA : Hid (w.heap.size + 4 ≤ wB.heap.size) := Lib.hid HI12.out.z
      have HGZ : Hid (w.heap.size + 4 ≤ wB.heap.size + 1) := Lib.hid (by have := HI12.out.z; omega)
      clear hqa hqz
      have HE15 : Hid (DBlk (((wB.alloc (.cells #[.int .i64 a] 3)).alloc (.cells #[.int .i64 z] 3)).setRow (w.heap.size + 2) #[.slice (some ⟨wB.heap.size, 0, none⟩) 1 1, .int .i64 V, .slice (some ⟨wB.heap.size + 1, 0, none⟩) 1 1]) (w.heap.size + 3) (zer 32) 0) := Lib.hid ((setRow_other _ _ _ _ (by omega)).trans HIz.out.e)
      have HPF : Hid (QBlk ((((wB.alloc (.cells #[.int .i64 a] 3)).alloc (.cells #[.int .i64 z] 3)).setRow (w.heap.size + 2) #[.slice (some ⟨wB.heap.size, 0, none⟩) 1 1, .int .i64 V, .slice (some ⟨wB.heap.size + 1, 0, none⟩) 1 1]).setRow (w.heap.size + 3) (tcs h rc)) (w.heap.size + 2) (.slice (some ⟨wB.heap.size, 0, none⟩) 1 1) (.int .i64 V) (.slice (some ⟨wB.heap.size + 1, 0, none⟩) 1 1)) := Lib.hid ((setRow_other _ _ _ _ (by omega)).trans HIz.out.p.setRow)
      have HDF : Hid (DBlk ((((wB.alloc (.cells #[.int .i64 a] 3)).alloc (.cells #[.int .i64 z] 3)).setRow (w.heap.size + 2) #[.slice (some ⟨wB.heap.size, 0, none⟩) 1 1, .int .i64 V, .slice (some ⟨wB.heap.size + 1, 0, none⟩) 1 1]).setRow (w.heap.size + 3) (tcs h rc)) (w.heap.size + 3) h rc) := Lib.hid HE15.out.setRow
      have HBF : Hid (Below w.heap.size w ((((wB.alloc (.cells #[.int .i64 a] 3)).alloc (.cells #[.int .i64 z] 3)).setRow (w.heap.size + 2) #[.slice (some ⟨wB.heap.size, 0, none⟩) 1 1, .int .i64 V, .slice (some ⟨wB.heap.size + 1, 0, none⟩) 1 1]).setRow (w.heap.size + 3) (tcs h rc))) := Lib.hid (below_setRow' (below_setRow' HIz.out.b (by omega)) (by omega))
      have HAF : Hid (Cells ((((wB.alloc (.cells #[.int .i64 a] 3)).alloc (.cells #[.int .i64 z] 3)).setRow (w.heap.size + 2) #[.slice (some ⟨wB.heap.size, 0, none⟩) 1 1, .int .i64 V, .slice (some ⟨wB.heap.size + 1, 0, none⟩) 1 1]).setRow (w.heap.size + 3) (tcs h rc)) (wB.heap.size) [a]) := Lib.hid (cells_far HAz.out (by have := HGA.out; exact (setRow_other _ _ _ _ (by omega)).trans (setRow_other _ _ _ _ (by omega))))
      have HZF : Hid (Cells ((((wB.alloc (.cells #[.int .i64 a] 3)).alloc (.cells #[.int .i64 z] 3)).setRow (w.heap.size + 2) #[.slice (some ⟨wB.heap.size, 0, none⟩) 1 1, .int .i64 V, .slice (some ⟨wB.heap.size + 1, 0, none⟩) 1 1]).setRow (w.heap.size + 3) (tcs h rc)) (wB.heap.size + 1) [z]) := Lib.hid (cells_far HZz.out (by have := HGZ.out; exact (setRow_other _ _ _ _ (by omega)).trans (setRow_other _ _ _ _ (by omega))))
      refine wpT_take (i := 9) (oi := _) (v := ?_) rfl (by kernel_rfl) (by kernel_rfl) (by kernel_rfl) (by kernel_rfl) (fun _ _ _ h => h) (Or.inl ⟨by rfl, ?_⟩) (by assumption) ?_
      rotate_left; (intro wS hSw; (try dsimp only at hSw); go_simp <;> with_reducible rfl)
      try simp only [List.getElem_toArray, List.getElem_cons_zero, List.getElem_cons_succ, Act.put, List.setIfInBounds_toArray, List.set_cons_zero, List.set_cons_succ]
      refine wpT_one (i := 11) (by kernel_rfl) rfl (fun K hK => ?_)
      rw [show (if Region.wanted _ _ = true then _ else _ : Prop) = _ from if_pos rfl]
      refine wp_store_row 32 _ _ rfl (w.heap.size + 2) #[.slice (some ⟨wB.heap.size, 0, none⟩) 1 1, .int .i64 V, .slice (some ⟨wB.heap.size + 1, 0, none⟩) 1 1] rfl rfl 32 _ HIz.out.p infoP rfl (by simp [Value.oneCell']) ?_
      refine hK.out _ _ ?_ (fun hHeld => ?_)
      · exact ⟨(cell_setRow_other _ _ _ _ (by simp)).trans HIz.out.g.1, (cell_setRow_other _ _ _ _ (by simp)).trans HIz.out.g.2.1, (cell_setRow_other _ _ _ _ (by simp)).trans HIz.out.g.2.2, (setRow_other _ _ _ _ (by have := HZ8.out; omega)).trans HDz.out⟩
      clear hK K
      try simp only [List.getElem_toArray, List.getElem_cons_zero, List.getElem_cons_succ, Act.put, List.setIfInBounds_toArray, List.set_cons_zero, List.set_cons_succ]
      refine wpT_pass (i := 12) (by kernel_rfl) (by simp) rfl (fun K hK => ?_)
      rw [show (if Region.wanted _ _ = true then _ else _ : Prop) = _ from if_pos rfl]
      refine wp_store_row 74 _ _ rfl (w.heap.size + 3) (tcs h rc) rfl rfl 74 _ HE15.out (dr_info hl.out) (tcs_sz rfl hl.out) (tcs_one _ _) ?_
      refine hK.out _ _ ?_
      clear hK K
      try simp only [List.getElem_toArray, List.getElem_cons_zero, List.getElem_cons_succ, Act.put, List.setIfInBounds_toArray, List.set_cons_zero, List.set_cons_succ]
      refine wpT_pass (i := 13) (by kernel_rfl) (by simp) rfl (fun K hK => ?_)
      go_simp
      refine hK.out _ _ ?_
      clear hK K
      try simp only [List.getElem_toArray, List.getElem_cons_zero, List.getElem_cons_succ, Act.put, List.setIfInBounds_toArray, List.set_cons_zero, List.set_cons_succ]
      refine wpT_done (by kernel_rfl) ?_ _
      go_wp2
      exact bodyPost_ret (v := PrvE (.agg #[.slice (some ⟨wB.heap.size, 0, none⟩) 1 1, .int .i64 V, .slice (some ⟨wB.heap.size + 1, 0, none⟩) 1 1]) h rc 0) (results_cell2_tmp (p := 10) (q := 11) (r := 12) (ty := 32) (ty2 := 74) rfl _ _ ⟨w.heap.size + 2, 0, none⟩ ⟨w.heap.size + 3, 0, none⟩ _ _ _ rfl rfl rfl (run_loadVar_row _ _ _ _ _ _ _ HPF.out Tryd.underlying32 rfl infoP) (run_loadVar_row _ _ _ _ _ _ _ HDF.out Tryd.underlying74 rfl (dr_info hl.out))) rfl ⟨_, _, rfl, HAF.out, HZF.out, HBF.out⟩
    · skip
      go_simp
      refine hK.out _ _ ?_ (fun hHeld => ?_)
      · have hz1 := HI12.out.below (below_box0 wB (.cells #[.int .i64 z] 3))
        have hz2 := HD12.out.below (below_box0 wB (.cells #[.int .i64 z] 3))
        exact ⟨hz1.g.1, hz1.g.2.1, hz1.g.2.2, hz2⟩
      clear hK K
      try simp only [List.getElem_toArray, List.getElem_cons_zero, List.getElem_cons_succ, Act.put, List.setIfInBounds_toArray, List.set_cons_zero, List.set_cons_succ]
      refine wpT_one (i := 1) (by kernel_rfl) rfl (fun K hK => ?_)
      go_simp
      refine hK.out _ _ ?_ (fun hHeld => ?_)
      · have hz1 := (HI12.out.below (below_box0 wB (.cells #[.int .i64 z] 3))).below (below_box0 (wB.alloc (.cells #[.int .i64 z] 3)) (.cells #[.int .i64 a] 3))
        have hz2 := (HD12.out.below (below_box0 wB (.cells #[.int .i64 z] 3))).below (below_box0 (wB.alloc (.cells #[.int .i64 z] 3)) (.cells #[.int .i64 a] 3))
        exact ⟨hz1.g.1, hz1.g.2.1, hz1.g.2.2, hz2⟩
      clear hK K
      try simp only [List.getElem_toArray, List.getElem_cons_zero, List.getElem_cons_succ, Act.put, List.setIfInBounds_toArray, List.set_cons_zero, List.set_cons_succ]
      have hqa := below_box0 wB (.cells #[.int .i64 z] 3)
      have hqz := below_box0 (wB.alloc (.cells #[.int .i64 z] 3)) (.cells #[.int .i64 a] 3)
      have HIz := Lib.hid ((HI12.out.below hqa).below hqz)
      have HDz := Lib.hid ((HD12.out.below hqa).below hqz)
      have HZz : Hid (Cells ((wB.alloc (.cells #[.int .i64 z] 3)).alloc (.cells #[.int .i64 a] 3)) wB.heap.size [z]) := Lib.hid ((cells1 wB 3 z).below hqz)
      have HAz : Hid (Cells ((wB.alloc (.cells #[.int .i64 z] 3)).alloc (.cells #[.int .i64 a] 3)) (wB.heap.size + 1) [a]) := Lib.hid (cells1' wB (.cells #[.int .i64 z] 3) 3 a)
      have HGZ : Hid (w.heap.size + 4 ≤ wB.heap.size) := Lib.hid HI12.out.z
      have HGA : Hid (w.heap.size + 4 ≤ wB.heap.size + 1) := Lib.hid (by have := HI12.out.z; omega)
      clear hqa hqz
      have HE15 : Hid (DBlk (((wB.alloc (.cells #[.int .i64 z] 3)).alloc (.cells #[.int .i64 a] 3)).setRow (w.heap.size + 2) #[.slice (some ⟨wB.heap.size + 1, 0, none⟩) 1 1, .int .i64 V, .slice (some ⟨wB.heap.size, 0, none⟩) 1 1]) (w.heap.size + 3) (zer 32) 0) := Lib.hid ((setRow_other _ _ _ _ (by omega)).trans HIz.out.e)
      have HPF : Hid (QBlk ((((wB.alloc (.cells #[.int .i64 z] 3)).alloc (.cells #[.int .i64 a] 3)).setRow (w.heap.size + 2) #[.slice (some ⟨wB.heap.size + 1, 0, none⟩) 1 1, .int .i64 V, .slice (some ⟨wB.heap.size, 0, none⟩) 1 1]).setRow (w.heap.size + 3) (tcs h rc)) (w.heap.size + 2) (.slice (some ⟨wB.heap.size + 1, 0, none⟩) 1 1) (.int .i64 V) (.slice (some ⟨wB.heap.size, 0, none⟩) 1 1)) := Lib.hid ((setRow_other _ _ _ _ (by omega)).trans HIz.out.p.setRow)
      have HDF : Hid (DBlk ((((wB.alloc (.cells #[.int .i64 z] 3)).alloc (.cells #[.int .i64 a] 3)).setRow (w.heap.size + 2) #[.slice (some ⟨wB.heap.size + 1, 0, none⟩) 1 1, .int .i64 V, .slice (some ⟨wB.heap.size, 0, none⟩) 1 1]).setRow (w.heap.size + 3) (tcs h rc)) (w.heap.size + 3) h rc) := Lib.hid HE15.out.setRow
      have HBF : Hid (Below w.heap.size w ((((wB.alloc (.cells #[.int .i64 z] 3)).alloc (.cells #[.int .i64 a] 3)).setRow (w.heap.size + 2) #[.slice (some ⟨wB.heap.size + 1, 0, none⟩) 1 1, .int .i64 V, .slice (some ⟨wB.heap.size, 0, none⟩) 1 1]).setRow (w.heap.size + 3) (tcs h rc))) := Lib.hid (below_setRow' (below_setRow' HIz.out.b (by omega)) (by omega))
      have HAF : Hid (Cells ((((wB.alloc (.cells #[.int .i64 z] 3)).alloc (.cells #[.int .i64 a] 3)).setRow (w.heap.size + 2) #[.slice (some ⟨wB.heap.size + 1, 0, none⟩) 1 1, .int .i64 V, .slice (some ⟨wB.heap.size, 0, none⟩) 1 1]).setRow (w.heap.size + 3) (tcs h rc)) (wB.heap.size + 1) [a]) := Lib.hid (cells_far HAz.out (by have := HGA.out; exact (setRow_other _ _ _ _ (by omega)).trans (setRow_other _ _ _ _ (by omega))))
      have HZF : Hid (Cells ((((wB.alloc (.cells #[.int .i64 z] 3)).alloc (.cells #[.int .i64 a] 3)).setRow (w.heap.size + 2) #[.slice (some ⟨wB.heap.size + 1, 0, none⟩) 1 1, .int .i64 V, .slice (some ⟨wB.heap.size, 0, none⟩) 1 1]).setRow (w.heap.size + 3) (tcs h rc)) (wB.heap.size) [z]) := Lib.hid (cells_far HZz.out (by have := HGZ.out; exact (setRow_other _ _ _ _ (by omega)).trans (setRow_other _ _ _ _ (by omega))))
      refine wpT_take (i := 9) (oi := _) (v := ?_) rfl (by kernel_rfl) (by kernel_rfl) (by kernel_rfl) (by kernel_rfl) (fun _ _ _ h => h) (Or.inl ⟨by rfl, ?_⟩) (by assumption) ?_
      rotate_left; (intro wS hSw; (try dsimp only at hSw); go_simp <;> with_reducible rfl)
      try simp only [List.getElem_toArray, List.getElem_cons_zero, List.getElem_cons_succ, Act.put, List.setIfInBounds_toArray, List.set_cons_zero, List.set_cons_succ]
      refine wpT_one (i := 11) (by kernel_rfl) rfl (fun K hK => ?_)
      rw [show (if Region.wanted _ _ = true then _ else _ : Prop) = _ from if_pos rfl]
      refine wp_store_row 32 _ _ rfl (w.heap.size + 2) #[.slice (some ⟨wB.heap.size + 1, 0, none⟩) 1 1, .int .i64 V, .slice (some ⟨wB.heap.size, 0, none⟩) 1 1] rfl rfl 32 _ HIz.out.p infoP rfl (by simp [Value.oneCell']) ?_
      refine hK.out _ _ ?_ (fun hHeld => ?_)
      · exact ⟨(cell_setRow_other _ _ _ _ (by simp)).trans HIz.out.g.1, (cell_setRow_other _ _ _ _ (by simp)).trans HIz.out.g.2.1, (cell_setRow_other _ _ _ _ (by simp)).trans HIz.out.g.2.2, (setRow_other _ _ _ _ (by have := HZ8.out; omega)).trans HDz.out⟩
      clear hK K
      try simp only [List.getElem_toArray, List.getElem_cons_zero, List.getElem_cons_succ, Act.put, List.setIfInBounds_toArray, List.set_cons_zero, List.set_cons_succ]
      refine wpT_pass (i := 12) (by kernel_rfl) (by simp) rfl (fun K hK => ?_)
      rw [show (if Region.wanted _ _ = true then _ else _ : Prop) = _ from if_pos rfl]
      refine wp_store_row 74 _ _ rfl (w.heap.size + 3) (tcs h rc) rfl rfl 74 _ HE15.out (dr_info hl.out) (tcs_sz rfl hl.out) (tcs_one _ _) ?_
      refine hK.out _ _ ?_
      clear hK K
      try simp only [List.getElem_toArray, List.getElem_cons_zero, List.getElem_cons_succ, Act.put, List.setIfInBounds_toArray, List.set_cons_zero, List.set_cons_succ]
      refine wpT_pass (i := 13) (by kernel_rfl) (by simp) rfl (fun K hK => ?_)
      go_simp
      refine hK.out _ _ ?_
      clear hK K
      try simp only [List.getElem_toArray, List.getElem_cons_zero, List.getElem_cons_succ, Act.put, List.setIfInBounds_toArray, List.set_cons_zero, List.set_cons_succ]
      refine wpT_done (by kernel_rfl) ?_ _
      go_wp2
      exact bodyPost_ret (v := PrvE (.agg #[.slice (some ⟨wB.heap.size + 1, 0, none⟩) 1 1, .int .i64 V, .slice (some ⟨wB.heap.size, 0, none⟩) 1 1]) h rc 0) (results_cell2_tmp (p := 10) (q := 11) (r := 12) (ty := 32) (ty2 := 74) rfl _ _ ⟨w.heap.size + 2, 0, none⟩ ⟨w.heap.size + 3, 0, none⟩ _ _ _ rfl rfl rfl (run_loadVar_row _ _ _ _ _ _ _ HPF.out Tryd.underlying32 rfl infoP) (run_loadVar_row _ _ _ _ _ _ _ HDF.out Tryd.underlying74 rfl (dr_info hl.out))) rfl ⟨_, _, rfl, HAF.out, HZF.out, HBF.out⟩
end Go.Proofs.YtdlhodbiaoafiaaDoor
namespace Go.Proofs.YtdlhodbiaoafiaaDoor
open Go.RowKit SpM
set_option linter.unusedVariables false
set_option linter.unusedSimpArgs false
theorem small_any (w : World) :
    Calls Tryd.prog 81 #[] w fun e' w' => e' = .returned (gv 23 11 4) ∧ Below w.heap.size w w' := by
  go_enter Tryd.func81, Tryd.ntmps81
  go_wp2
  exact bodyPost_ret (v := gv 23 11 4) (by simp [results, Tryd.results81, go_sem]) rfl ⟨rfl, below_box0 _ _⟩
theorem ex16_c : Hid (comE 23 11 4 4 2 = 0) := Lib.hid (by kernel_rfl)
theorem ex16_cv : Hid (comV 23 11 4 4 2 = 16) := Lib.hid (by kernel_rfl)
theorem ex16_r : Hid (resE 23 11 4 2 5 3 = 0) := Lib.hid (by kernel_rfl)
theorem ex16_rv : Hid (resV 23 11 4 2 5 3 = 6) := Lib.hid (by kernel_rfl)
theorem ex16_k : Hid (chkB 23 11 4 4 18 1 16 5 1 6 = true) := Lib.hid (by kernel_rfl)
set_option maxHeartbeats 3200000 in
theorem awake16 (w : World) (hv : Hid (Vars w)) :
    Calls Tryd.prog 34 #[] w fun e' w' => e' = .returned (.bool true) ∧ Below w.heap.size w w' := by
  go_enter Tryd.func34, Tryd.ntmps34
  go_wp2_with fail
  refine (small_any _).mono ?_
  rintro e w1 ⟨rfl, hb1⟩
  have HV1 := Lib.hid (hv.out.below hb1)
  go_wp2_with fail
  refine (commit_any 23 11 4 4 2 16 0 ex16_cv ex16_c (by decide) _ HV1).mono ?_
  rintro e w2 ⟨rfl, hb0⟩
  have hb2 := below_ext hb1 hb0
  have HV2 := Lib.hid (HV1.out.below hb0)
  clear hb0
  go_wp2_with fail
  refine (small_any _).mono ?_
  rintro e w3 ⟨rfl, hb0⟩
  have hb3 := below_ext hb2 hb0
  have HV3 := Lib.hid (HV2.out.below hb0)
  clear hb0
  go_wp2_with fail
  refine (respond_any 23 11 4 2 5 3 6 0 ex16_rv ex16_r (by decide) _ HV3).mono ?_
  rintro e w4 ⟨rfl, hb0⟩
  have hb4 := below_ext hb3 hb0
  have HV4 := Lib.hid (HV3.out.below hb0)
  clear hb0
  go_wp2_with fail
  refine (small_any _).mono ?_
  rintro e w5 ⟨rfl, hb0⟩
  have hb5 := below_ext hb4 hb0
  have HV5 := Lib.hid (HV4.out.below hb0)
  clear hb0
  have HV6 := Lib.hid (HV5.out.below (below_two (w := w5) (o1 := .cells #[.int .i64 16] 3) (o2 := .cells #[.int .i64 6] 3) (Below.refl _ _)))
  have hb6 := below_ext hb5 (below_two (w := w5) (o1 := .cells #[.int .i64 16] 3) (o2 := .cells #[.int .i64 6] 3) (Below.refl _ _))
  have HA : Hid (One ((w5.alloc (.cells #[.int .i64 16] 3)).alloc (.cells #[.int .i64 6] 3)) (some ⟨w5.heap.size, 0, none⟩) 1 16) := Lib.hid (fun _ => ⟨_, _, rfl, (cells1 w5 3 16).below (below_box0 _ _) 0 (by simp)⟩)
  have HZ : Hid (One ((w5.alloc (.cells #[.int .i64 16] 3)).alloc (.cells #[.int .i64 6] 3)) (some ⟨w5.heap.size + 1, 0, none⟩) 1 6) := Lib.hid (fun _ => ⟨_, _, rfl, cells1' w5 _ 3 6 0 (by simp)⟩)
  go_wp2_with fail
  refine (check_any16 23 11 4 4 18 (some ⟨w5.heap.size, 0, none⟩) 1 1 16 5 (some ⟨w5.heap.size + 1, 0, none⟩) 1 1 6 true ex16_k (by decide) _ HV6 HA HZ).mono ?_
  rintro e w7 ⟨rfl, hb0⟩
  have hb7 := below_ext hb6 hb0
  clear hb0
  go_wp2
  go_ret
  exact ⟨rfl, hb7⟩
end Go.Proofs.YtdlhodbiaoafiaaDoor
namespace Go.Proofs.YtdlhodbiaoafiaaDoor
open Go.RowKit SpM
set_option linter.unusedVariables false
set_option linter.unusedSimpArgs false
set_option maxRecDepth 100000
theorem mem_cancel16 {P Q u x y : Int} (hP : 2 ≤ P) (hQ : 1 ≤ Q) (hu : memG P Q u = true) (x0 : 0 ≤ x) (x1 : x < P) (y0 : 0 ≤ y) (y1 : y < P) (h : x * u % P = y * u % P) : x = y := by
  have hi : pw u (Q - 1) P * u % P = 1 := by
    have h1 := pw_add u (Q - 1) 1 P (by omega) (by omega)
    rw [show Q - 1 + 1 = Q by omega, memG_pw hu, pw_one_exp, Int.emod_eq_of_lt (by have := memG_lo hu; omega) (memG_hi hu)] at h1
    exact h1.symm
  rw [← mul_undo x0 x1 hi, h, mul_undo y0 y1 hi]
theorem honest16 {P Q G b x k c : Int} (hv : validG P Q G = true) (hb : okB P Q b = true) (hx : expB Q x = true) (hk : expB Q k = true) (hc : expB Q c = true) :
    chkB P Q G b (pw b (x % Q) P) 1 (pw b (k % Q) P) c 1 ((c * x % Q + k) % Q) = true := by
  obtain ⟨p1, p2, p3, p4⟩ := validG_P hv
  have hm := okB_mem hb
  have x0 := expB_lo hx
  have x1 := expB_hi hx
  have k0 := expB_lo hk
  have k1 := expB_hi hk
  have c0 := expB_lo hc
  have c1 := expB_hi hc
  have m1 : memG P Q (pw b (x % Q) P) = true := mem_pw p1 (by omega) (Int.emod_nonneg _ (by omega)) hm
  have m2 : memG P Q (pw b (k % Q) P) = true := mem_pw p1 (by omega) (Int.emod_nonneg _ (by omega)) hm
  have z0 : 0 ≤ (c * x % Q + k) % Q := Int.emod_nonneg _ (by omega)
  have z1 : (c * x % Q + k) % Q < Q := Int.emod_lt_of_pos _ (by omega)
  have ez : expB Q ((c * x % Q + k) % Q) = true := by
    generalize (c * x % Q + k) % Q = zz at z0 z1 ⊢
    simp [expB]; omega
  have hcx : 0 ≤ c * x := Int.mul_nonneg c0 x0
  have e1 : pw b ((c * x % Q + k) % Q % Q) P = pw b (k % Q) P * pw (pw b (x % Q) P) (c % Q) P % P := by
    have a1 : pw b ((c * x % Q + k) % Q % Q) P = pw b (c * x + k) P := by
      rw [Int.emod_emod_of_dvd _ (Int.dvd_refl Q), Int.emod_add_emod]
      exact (pw_mod p1 (by omega) (by omega) (memG_pw hm)).symm
    have a2 : pw (pw b (x % Q) P) (c % Q) P = pw b (x * c) P := by rw [Int.emod_eq_of_lt x0 x1, Int.emod_eq_of_lt c0 c1, pw_pw _ _ _ _ x0 c0]
    rw [a1, a2, Int.emod_eq_of_lt k0 k1, show c * x + k = k + x * c by rw [Int.mul_comm c x, Int.add_comm], pw_add _ _ _ _ k0 (Int.mul_nonneg x0 c0)]
  rw [chkB, hv, hb, m1, formB, m2, hc, ez, e1]
  simp
theorem wrong16 {P Q G b y a C z : Int} (h : chkB P Q G b y 1 a C 1 z = true) : chkB P Q G b y 1 a C 1 ((z + 1) % Q) = false := by
  cases h2 : chkB P Q G b y 1 a C 1 ((z + 1) % Q) with
  | false => rfl
  | true =>
    exfalso
    obtain ⟨v1, v2, v3, _, _, v6, v7, v8⟩ := chkB_parts h
    obtain ⟨p1, p2, p3, p4⟩ := validG_P v1
    have hm := okB_mem v2
    have z0 := expB_lo v8
    have z1 := expB_hi v8
    have e1 : pw b (z % Q) P = a * pw y (C % Q) P % P := by
      unfold chkB at h
      simp only [Bool.and_eq_true, beq_iff_eq] at h
      exact h.2.2.2.2
    have e2 : pw b ((z + 1) % Q % Q) P = a * pw y (C % Q) P % P := by
      unfold chkB at h2
      simp only [Bool.and_eq_true, beq_iff_eq] at h2
      exact h2.2.2.2.2
    have e3 := e2.trans e1.symm
    have mt : memG P Q (pw b z P) = true := mem_pw p1 (by omega) z0 hm
    have lb := memG_lo hm
    have ub := memG_hi hm
    rw [Int.emod_emod_of_dvd _ (Int.dvd_refl Q), ← pw_mod p1 (by omega) (by omega) (memG_pw hm), Int.emod_eq_of_lt z0 z1, pw_add _ _ _ _ z0 (by omega), pw_one_exp, Int.emod_eq_of_lt (by omega) ub] at e3
    have hb1 : b = 1 := mem_cancel16 p1 (by omega) mt (by omega) ub (by omega) (by omega) (by rw [Int.mul_comm, e3, Int.one_mul, Int.emod_eq_of_lt (by have := memG_lo mt; omega) (memG_hi mt)])
    simp [okB, hb1] at v2
end Go.Proofs.YtdlhodbiaoafiaaDoor
namespace Go.Proofs.YtdlhodbiaoafiaaDoor
open Go.RowKit SpM
set_option linter.unusedVariables false
set_option linter.unusedSimpArgs false
set_option maxRecDepth 100000
set_option maxHeartbeats 25600000 in
theorem kc_s (P Q G b x k cc : Int) (s : ByteArray) (h : List Int) (c : Int) (hl : Hid (h.length = 32)) (hhb : Hid (bytesB h = true)) (hQ : Q < 9223372036854775808) (hs : 100 < s.size) (w : World) (hv : Hid (Vars w)) (hd : Hid (VarsD w)) :
    Calls Tryd.prog 6 #[gv P Q G, .int .i64 b, .int .i64 x, .int .i64 k, .int .i64 cc, .string s, .agg (tcs h c)] w fun e' w' => e' = .returned (.bool true) ∧ Below w.heap.size w w' := by
  have dl : decide ((100 : Int) < (s.size : Int)) = true := by simp; omega
  obtain ⟨w0, hW⟩ : ∃ W, ((w.alloc (gObj P Q G)).alloc (.cells (tcs h c) 74)) = W := ⟨_, rfl⟩
  have HBw : Hid (Below w.heap.size w w0) := Lib.hid (by rw [← hW]; exact below_two (Below.refl _ _))
  have hc : w0.cell? ⟨w.heap.size, 0, none⟩ = some (.int .i64 P) ∧ w0.cell? ⟨w.heap.size, 1, none⟩ = some (.int .i64 Q) ∧ w0.cell? ⟨w.heap.size, 2, none⟩ = some (.int .i64 G) := by rw [← hW]; exact ⟨cell_below (allocs_cell (by simp) (by rfl)) (below_box0 _ _), cell_below (allocs_cell (by simp) (by rfl)) (below_box0 _ _), cell_below (allocs_cell (by simp) (by rfl)) (below_box0 _ _)⟩
  have kC := Lib.hid (show ∀ u : World, Hid (Below w0.heap.size w0 u) → u.cell? ⟨w.heap.size, 0, none⟩ = some (.int .i64 P) ∧ u.cell? ⟨w.heap.size, 1, none⟩ = some (.int .i64 Q) ∧ u.cell? ⟨w.heap.size, 2, none⟩ = some (.int .i64 G) from fun u h => ⟨cell_below hc.1 h.out, cell_below hc.2.1 h.out, cell_below hc.2.2 h.out⟩)
  have kV := Lib.hid (show ∀ u : World, Hid (Below w0.heap.size w0 u) → Hid (Vars u) from fun u h => Lib.hid ((hv.out.below) (below_ext HBw.out h.out)))
  have kD := Lib.hid (show ∀ u : World, Hid (Below w0.heap.size w0 u) → Hid (VarsD u) from fun u h => Lib.hid ((hd.out.below) (below_ext HBw.out h.out)))
  have HB_0 : Hid (Below w0.heap.size w0 w0) := Lib.hid (Below.refl _ _)
  have HW := Lib.hid hW
  clear hW hc hv hd
  have HT0 : Hid (DBlk w0 (w.heap.size + 1) h c) := Lib.hid (by rw [← HW.out, show w.heap.size + 1 = (w.alloc (gObj P Q G)).heap.size by simp]; exact heap_alloc_new _ _)
  have kT := Lib.hid (show ∀ u : World, Hid (Below w0.heap.size w0 u) → Hid (DBlk u (w.heap.size + 1) h c) from fun u hh => Lib.hid (HT0.out.below hh.out))
  go_enter Tryd.func6, Tryd.ntmps6
  go_upto_region 1 with (fail)
  rw [HW.out]
  obtain ⟨zc0, zc1, zc2⟩ := kC.out _ HB_0
  go_wp2_with fail
  refine (awake16 _ (kV.out _ HB_0)).mono ?_
  rintro e w1 ⟨rfl, hb0⟩
  have HB_1 := Lib.hid (below_ext HB_0.out hb0)
  clear zc0 zc1 zc2
  clear hb0
  obtain ⟨zc0, zc1, zc2⟩ := kC.out _ HB_1
  have hbF := below_ext HBw.out HB_1.out
  go_wp2
  go_ret
  exact ⟨rfl, hbF⟩
set_option maxHeartbeats 25600000 in
theorem kc_v (P Q G b x k cc : Int) (s : ByteArray) (h : List Int) (c : Int) (hl : Hid (h.length = 32)) (hhb : Hid (bytesB h = true)) (hQ : Q < 9223372036854775808) (hs : s.size ≤ 100) (HVG : Hid (validG P Q G = false)) (w : World) (hv : Hid (Vars w)) (hd : Hid (VarsD w)) :
    Calls Tryd.prog 6 #[gv P Q G, .int .i64 b, .int .i64 x, .int .i64 k, .int .i64 cc, .string s, .agg (tcs h c)] w fun e' w' => e' = .returned (.bool true) ∧ Below w.heap.size w w' := by
  have dl : decide ((100 : Int) < (s.size : Int)) = false := by simp; omega
  obtain ⟨w0, hW⟩ : ∃ W, ((w.alloc (gObj P Q G)).alloc (.cells (tcs h c) 74)) = W := ⟨_, rfl⟩
  have HBw : Hid (Below w.heap.size w w0) := Lib.hid (by rw [← hW]; exact below_two (Below.refl _ _))
  have hc : w0.cell? ⟨w.heap.size, 0, none⟩ = some (.int .i64 P) ∧ w0.cell? ⟨w.heap.size, 1, none⟩ = some (.int .i64 Q) ∧ w0.cell? ⟨w.heap.size, 2, none⟩ = some (.int .i64 G) := by rw [← hW]; exact ⟨cell_below (allocs_cell (by simp) (by rfl)) (below_box0 _ _), cell_below (allocs_cell (by simp) (by rfl)) (below_box0 _ _), cell_below (allocs_cell (by simp) (by rfl)) (below_box0 _ _)⟩
  have kC := Lib.hid (show ∀ u : World, Hid (Below w0.heap.size w0 u) → u.cell? ⟨w.heap.size, 0, none⟩ = some (.int .i64 P) ∧ u.cell? ⟨w.heap.size, 1, none⟩ = some (.int .i64 Q) ∧ u.cell? ⟨w.heap.size, 2, none⟩ = some (.int .i64 G) from fun u h => ⟨cell_below hc.1 h.out, cell_below hc.2.1 h.out, cell_below hc.2.2 h.out⟩)
  have kV := Lib.hid (show ∀ u : World, Hid (Below w0.heap.size w0 u) → Hid (Vars u) from fun u h => Lib.hid ((hv.out.below) (below_ext HBw.out h.out)))
  have kD := Lib.hid (show ∀ u : World, Hid (Below w0.heap.size w0 u) → Hid (VarsD u) from fun u h => Lib.hid ((hd.out.below) (below_ext HBw.out h.out)))
  have HB_0 : Hid (Below w0.heap.size w0 w0) := Lib.hid (Below.refl _ _)
  have HW := Lib.hid hW
  clear hW hc hv hd
  have HT0 : Hid (DBlk w0 (w.heap.size + 1) h c) := Lib.hid (by rw [← HW.out, show w.heap.size + 1 = (w.alloc (gObj P Q G)).heap.size by simp]; exact heap_alloc_new _ _)
  have kT := Lib.hid (show ∀ u : World, Hid (Below w0.heap.size w0 u) → Hid (DBlk u (w.heap.size + 1) h c) from fun u hh => Lib.hid (HT0.out.below hh.out))
  go_enter Tryd.func6, Tryd.ntmps6
  go_upto_region 1 with (fail)
  rw [HW.out]
  obtain ⟨zc0, zc1, zc2⟩ := kC.out _ HB_0
  go_wp2_with fail
  refine (awake16 _ (kV.out _ HB_0)).mono ?_
  rintro e w1 ⟨rfl, hb0⟩
  have HB_1 := Lib.hid (below_ext HB_0.out hb0)
  clear zc0 zc1 zc2
  clear hb0
  obtain ⟨zc0, zc1, zc2⟩ := kC.out _ HB_1
  go_wp2_with fail
  refine (rvalid_any P Q G false HVG hQ _).mono ?_
  rintro e w2 ⟨rfl, hb0⟩
  have HB_2 := Lib.hid (below_ext HB_1.out hb0)
  clear zc0 zc1 zc2
  clear hb0
  obtain ⟨zc0, zc1, zc2⟩ := kC.out _ HB_2
  have hbF := below_ext HBw.out HB_2.out
  go_wp2
  go_ret
  exact ⟨rfl, hbF⟩
set_option maxHeartbeats 25600000 in
theorem kc_b (P Q G b x k cc : Int) (s : ByteArray) (h : List Int) (c : Int) (hl : Hid (h.length = 32)) (hhb : Hid (bytesB h = true)) (hQ : Q < 9223372036854775808) (hs : s.size ≤ 100) (HVG : Hid (validG P Q G = true)) (hob : Hid (okB P Q b = false)) (w : World) (hv : Hid (Vars w)) (hd : Hid (VarsD w)) :
    Calls Tryd.prog 6 #[gv P Q G, .int .i64 b, .int .i64 x, .int .i64 k, .int .i64 cc, .string s, .agg (tcs h c)] w fun e' w' => e' = .returned (.bool true) ∧ Below w.heap.size w w' := by
  have dl : decide ((100 : Int) < (s.size : Int)) = false := by simp; omega
  obtain ⟨w0, hW⟩ : ∃ W, ((w.alloc (gObj P Q G)).alloc (.cells (tcs h c) 74)) = W := ⟨_, rfl⟩
  have HBw : Hid (Below w.heap.size w w0) := Lib.hid (by rw [← hW]; exact below_two (Below.refl _ _))
  have hc : w0.cell? ⟨w.heap.size, 0, none⟩ = some (.int .i64 P) ∧ w0.cell? ⟨w.heap.size, 1, none⟩ = some (.int .i64 Q) ∧ w0.cell? ⟨w.heap.size, 2, none⟩ = some (.int .i64 G) := by rw [← hW]; exact ⟨cell_below (allocs_cell (by simp) (by rfl)) (below_box0 _ _), cell_below (allocs_cell (by simp) (by rfl)) (below_box0 _ _), cell_below (allocs_cell (by simp) (by rfl)) (below_box0 _ _)⟩
  have kC := Lib.hid (show ∀ u : World, Hid (Below w0.heap.size w0 u) → u.cell? ⟨w.heap.size, 0, none⟩ = some (.int .i64 P) ∧ u.cell? ⟨w.heap.size, 1, none⟩ = some (.int .i64 Q) ∧ u.cell? ⟨w.heap.size, 2, none⟩ = some (.int .i64 G) from fun u h => ⟨cell_below hc.1 h.out, cell_below hc.2.1 h.out, cell_below hc.2.2 h.out⟩)
  have kV := Lib.hid (show ∀ u : World, Hid (Below w0.heap.size w0 u) → Hid (Vars u) from fun u h => Lib.hid ((hv.out.below) (below_ext HBw.out h.out)))
  have kD := Lib.hid (show ∀ u : World, Hid (Below w0.heap.size w0 u) → Hid (VarsD u) from fun u h => Lib.hid ((hd.out.below) (below_ext HBw.out h.out)))
  have HB_0 : Hid (Below w0.heap.size w0 w0) := Lib.hid (Below.refl _ _)
  have HW := Lib.hid hW
  clear hW hc hv hd
  have HT0 : Hid (DBlk w0 (w.heap.size + 1) h c) := Lib.hid (by rw [← HW.out, show w.heap.size + 1 = (w.alloc (gObj P Q G)).heap.size by simp]; exact heap_alloc_new _ _)
  have kT := Lib.hid (show ∀ u : World, Hid (Below w0.heap.size w0 u) → Hid (DBlk u (w.heap.size + 1) h c) from fun u hh => Lib.hid (HT0.out.below hh.out))
  go_enter Tryd.func6, Tryd.ntmps6
  go_upto_region 1 with (fail)
  rw [HW.out]
  obtain ⟨zc0, zc1, zc2⟩ := kC.out _ HB_0
  go_wp2_with fail
  refine (awake16 _ (kV.out _ HB_0)).mono ?_
  rintro e w1 ⟨rfl, hb0⟩
  have HB_1 := Lib.hid (below_ext HB_0.out hb0)
  clear zc0 zc1 zc2
  clear hb0
  obtain ⟨zc0, zc1, zc2⟩ := kC.out _ HB_1
  go_wp2_with fail
  refine (rvalid_any P Q G true HVG hQ _).mono ?_
  rintro e w2 ⟨rfl, hb0⟩
  have HB_2 := Lib.hid (below_ext HB_1.out hb0)
  clear zc0 zc1 zc2
  clear hb0
  obtain ⟨zc0, zc1, zc2⟩ := kC.out _ HB_2
  go_wp2_with fail
  refine (rbase_any P Q G b false HVG hob _).mono ?_
  rintro e w3 ⟨rfl, hb0⟩
  have HB_3 := Lib.hid (below_ext HB_2.out hb0)
  clear zc0 zc1 zc2
  clear hb0
  obtain ⟨zc0, zc1, zc2⟩ := kC.out _ HB_3
  have hbF := below_ext HBw.out HB_3.out
  go_wp2
  go_ret
  exact ⟨rfl, hbF⟩
set_option maxHeartbeats 25600000 in
theorem kc_x (P Q G b x k cc : Int) (s : ByteArray) (h : List Int) (c : Int) (hl : Hid (h.length = 32)) (hhb : Hid (bytesB h = true)) (hQ : Q < 9223372036854775808) (hs : s.size ≤ 100) (HVG : Hid (validG P Q G = true)) (hob : Hid (okB P Q b = true)) (hex : Hid (expB Q x = false)) (w : World) (hv : Hid (Vars w)) (hd : Hid (VarsD w)) :
    Calls Tryd.prog 6 #[gv P Q G, .int .i64 b, .int .i64 x, .int .i64 k, .int .i64 cc, .string s, .agg (tcs h c)] w fun e' w' => e' = .returned (.bool true) ∧ Below w.heap.size w w' := by
  have dl : decide ((100 : Int) < (s.size : Int)) = false := by simp; omega
  obtain ⟨w0, hW⟩ : ∃ W, ((w.alloc (gObj P Q G)).alloc (.cells (tcs h c) 74)) = W := ⟨_, rfl⟩
  have HBw : Hid (Below w.heap.size w w0) := Lib.hid (by rw [← hW]; exact below_two (Below.refl _ _))
  have hc : w0.cell? ⟨w.heap.size, 0, none⟩ = some (.int .i64 P) ∧ w0.cell? ⟨w.heap.size, 1, none⟩ = some (.int .i64 Q) ∧ w0.cell? ⟨w.heap.size, 2, none⟩ = some (.int .i64 G) := by rw [← hW]; exact ⟨cell_below (allocs_cell (by simp) (by rfl)) (below_box0 _ _), cell_below (allocs_cell (by simp) (by rfl)) (below_box0 _ _), cell_below (allocs_cell (by simp) (by rfl)) (below_box0 _ _)⟩
  have kC := Lib.hid (show ∀ u : World, Hid (Below w0.heap.size w0 u) → u.cell? ⟨w.heap.size, 0, none⟩ = some (.int .i64 P) ∧ u.cell? ⟨w.heap.size, 1, none⟩ = some (.int .i64 Q) ∧ u.cell? ⟨w.heap.size, 2, none⟩ = some (.int .i64 G) from fun u h => ⟨cell_below hc.1 h.out, cell_below hc.2.1 h.out, cell_below hc.2.2 h.out⟩)
  have kV := Lib.hid (show ∀ u : World, Hid (Below w0.heap.size w0 u) → Hid (Vars u) from fun u h => Lib.hid ((hv.out.below) (below_ext HBw.out h.out)))
  have kD := Lib.hid (show ∀ u : World, Hid (Below w0.heap.size w0 u) → Hid (VarsD u) from fun u h => Lib.hid ((hd.out.below) (below_ext HBw.out h.out)))
  have HB_0 : Hid (Below w0.heap.size w0 w0) := Lib.hid (Below.refl _ _)
  have HW := Lib.hid hW
  clear hW hc hv hd
  have HT0 : Hid (DBlk w0 (w.heap.size + 1) h c) := Lib.hid (by rw [← HW.out, show w.heap.size + 1 = (w.alloc (gObj P Q G)).heap.size by simp]; exact heap_alloc_new _ _)
  have kT := Lib.hid (show ∀ u : World, Hid (Below w0.heap.size w0 u) → Hid (DBlk u (w.heap.size + 1) h c) from fun u hh => Lib.hid (HT0.out.below hh.out))
  go_enter Tryd.func6, Tryd.ntmps6
  go_upto_region 1 with (fail)
  rw [HW.out]
  obtain ⟨zc0, zc1, zc2⟩ := kC.out _ HB_0
  go_wp2_with fail
  refine (awake16 _ (kV.out _ HB_0)).mono ?_
  rintro e w1 ⟨rfl, hb0⟩
  have HB_1 := Lib.hid (below_ext HB_0.out hb0)
  clear zc0 zc1 zc2
  clear hb0
  obtain ⟨zc0, zc1, zc2⟩ := kC.out _ HB_1
  go_wp2_with fail
  refine (rvalid_any P Q G true HVG hQ _).mono ?_
  rintro e w2 ⟨rfl, hb0⟩
  have HB_2 := Lib.hid (below_ext HB_1.out hb0)
  clear zc0 zc1 zc2
  clear hb0
  obtain ⟨zc0, zc1, zc2⟩ := kC.out _ HB_2
  go_wp2_with fail
  refine (rbase_any P Q G b true HVG hob _).mono ?_
  rintro e w3 ⟨rfl, hb0⟩
  have HB_3 := Lib.hid (below_ext HB_2.out hb0)
  clear zc0 zc1 zc2
  clear hb0
  obtain ⟨zc0, zc1, zc2⟩ := kC.out _ HB_3
  go_wp2_with fail
  refine (rexp_any P Q G x false hex _).mono ?_
  rintro e w4 ⟨rfl, hb0⟩
  have HB_4 := Lib.hid (below_ext HB_3.out hb0)
  clear zc0 zc1 zc2
  clear hb0
  obtain ⟨zc0, zc1, zc2⟩ := kC.out _ HB_4
  have hbF := below_ext HBw.out HB_4.out
  go_wp2
  go_ret
  exact ⟨rfl, hbF⟩
set_option maxHeartbeats 25600000 in
theorem kc_k (P Q G b x k cc : Int) (s : ByteArray) (h : List Int) (c : Int) (hl : Hid (h.length = 32)) (hhb : Hid (bytesB h = true)) (hQ : Q < 9223372036854775808) (hs : s.size ≤ 100) (HVG : Hid (validG P Q G = true)) (hob : Hid (okB P Q b = true)) (hex : Hid (expB Q x = true)) (hek : Hid (expB Q k = false)) (w : World) (hv : Hid (Vars w)) (hd : Hid (VarsD w)) :
    Calls Tryd.prog 6 #[gv P Q G, .int .i64 b, .int .i64 x, .int .i64 k, .int .i64 cc, .string s, .agg (tcs h c)] w fun e' w' => e' = .returned (.bool true) ∧ Below w.heap.size w w' := by
  have dl : decide ((100 : Int) < (s.size : Int)) = false := by simp; omega
  obtain ⟨w0, hW⟩ : ∃ W, ((w.alloc (gObj P Q G)).alloc (.cells (tcs h c) 74)) = W := ⟨_, rfl⟩
  have HBw : Hid (Below w.heap.size w w0) := Lib.hid (by rw [← hW]; exact below_two (Below.refl _ _))
  have hc : w0.cell? ⟨w.heap.size, 0, none⟩ = some (.int .i64 P) ∧ w0.cell? ⟨w.heap.size, 1, none⟩ = some (.int .i64 Q) ∧ w0.cell? ⟨w.heap.size, 2, none⟩ = some (.int .i64 G) := by rw [← hW]; exact ⟨cell_below (allocs_cell (by simp) (by rfl)) (below_box0 _ _), cell_below (allocs_cell (by simp) (by rfl)) (below_box0 _ _), cell_below (allocs_cell (by simp) (by rfl)) (below_box0 _ _)⟩
  have kC := Lib.hid (show ∀ u : World, Hid (Below w0.heap.size w0 u) → u.cell? ⟨w.heap.size, 0, none⟩ = some (.int .i64 P) ∧ u.cell? ⟨w.heap.size, 1, none⟩ = some (.int .i64 Q) ∧ u.cell? ⟨w.heap.size, 2, none⟩ = some (.int .i64 G) from fun u h => ⟨cell_below hc.1 h.out, cell_below hc.2.1 h.out, cell_below hc.2.2 h.out⟩)
  have kV := Lib.hid (show ∀ u : World, Hid (Below w0.heap.size w0 u) → Hid (Vars u) from fun u h => Lib.hid ((hv.out.below) (below_ext HBw.out h.out)))
  have kD := Lib.hid (show ∀ u : World, Hid (Below w0.heap.size w0 u) → Hid (VarsD u) from fun u h => Lib.hid ((hd.out.below) (below_ext HBw.out h.out)))
  have HB_0 : Hid (Below w0.heap.size w0 w0) := Lib.hid (Below.refl _ _)
  have HW := Lib.hid hW
  clear hW hc hv hd
  have HT0 : Hid (DBlk w0 (w.heap.size + 1) h c) := Lib.hid (by rw [← HW.out, show w.heap.size + 1 = (w.alloc (gObj P Q G)).heap.size by simp]; exact heap_alloc_new _ _)
  have kT := Lib.hid (show ∀ u : World, Hid (Below w0.heap.size w0 u) → Hid (DBlk u (w.heap.size + 1) h c) from fun u hh => Lib.hid (HT0.out.below hh.out))
  go_enter Tryd.func6, Tryd.ntmps6
  go_upto_region 1 with (fail)
  rw [HW.out]
  obtain ⟨zc0, zc1, zc2⟩ := kC.out _ HB_0
  go_wp2_with fail
  refine (awake16 _ (kV.out _ HB_0)).mono ?_
  rintro e w1 ⟨rfl, hb0⟩
  have HB_1 := Lib.hid (below_ext HB_0.out hb0)
  clear zc0 zc1 zc2
  clear hb0
  obtain ⟨zc0, zc1, zc2⟩ := kC.out _ HB_1
  go_wp2_with fail
  refine (rvalid_any P Q G true HVG hQ _).mono ?_
  rintro e w2 ⟨rfl, hb0⟩
  have HB_2 := Lib.hid (below_ext HB_1.out hb0)
  clear zc0 zc1 zc2
  clear hb0
  obtain ⟨zc0, zc1, zc2⟩ := kC.out _ HB_2
  go_wp2_with fail
  refine (rbase_any P Q G b true HVG hob _).mono ?_
  rintro e w3 ⟨rfl, hb0⟩
  have HB_3 := Lib.hid (below_ext HB_2.out hb0)
  clear zc0 zc1 zc2
  clear hb0
  obtain ⟨zc0, zc1, zc2⟩ := kC.out _ HB_3
  go_wp2_with fail
  refine (rexp_any P Q G x true hex _).mono ?_
  rintro e w4 ⟨rfl, hb0⟩
  have HB_4 := Lib.hid (below_ext HB_3.out hb0)
  clear zc0 zc1 zc2
  clear hb0
  obtain ⟨zc0, zc1, zc2⟩ := kC.out _ HB_4
  go_wp2_with fail
  refine (rexp_any P Q G k false hek _).mono ?_
  rintro e w5 ⟨rfl, hb0⟩
  have HB_5 := Lib.hid (below_ext HB_4.out hb0)
  clear zc0 zc1 zc2
  clear hb0
  obtain ⟨zc0, zc1, zc2⟩ := kC.out _ HB_5
  have hbF := below_ext HBw.out HB_5.out
  go_wp2
  go_ret
  exact ⟨rfl, hbF⟩
set_option maxHeartbeats 25600000 in
theorem kc_c (P Q G b x k cc : Int) (s : ByteArray) (h : List Int) (c : Int) (hl : Hid (h.length = 32)) (hhb : Hid (bytesB h = true)) (hQ : Q < 9223372036854775808) (hs : s.size ≤ 100) (HVG : Hid (validG P Q G = true)) (hob : Hid (okB P Q b = true)) (hex : Hid (expB Q x = true)) (hek : Hid (expB Q k = true)) (hec : Hid (expB Q cc = false)) (w : World) (hv : Hid (Vars w)) (hd : Hid (VarsD w)) :
    Calls Tryd.prog 6 #[gv P Q G, .int .i64 b, .int .i64 x, .int .i64 k, .int .i64 cc, .string s, .agg (tcs h c)] w fun e' w' => e' = .returned (.bool true) ∧ Below w.heap.size w w' := by
  have dl : decide ((100 : Int) < (s.size : Int)) = false := by simp; omega
  obtain ⟨w0, hW⟩ : ∃ W, ((w.alloc (gObj P Q G)).alloc (.cells (tcs h c) 74)) = W := ⟨_, rfl⟩
  have HBw : Hid (Below w.heap.size w w0) := Lib.hid (by rw [← hW]; exact below_two (Below.refl _ _))
  have hc : w0.cell? ⟨w.heap.size, 0, none⟩ = some (.int .i64 P) ∧ w0.cell? ⟨w.heap.size, 1, none⟩ = some (.int .i64 Q) ∧ w0.cell? ⟨w.heap.size, 2, none⟩ = some (.int .i64 G) := by rw [← hW]; exact ⟨cell_below (allocs_cell (by simp) (by rfl)) (below_box0 _ _), cell_below (allocs_cell (by simp) (by rfl)) (below_box0 _ _), cell_below (allocs_cell (by simp) (by rfl)) (below_box0 _ _)⟩
  have kC := Lib.hid (show ∀ u : World, Hid (Below w0.heap.size w0 u) → u.cell? ⟨w.heap.size, 0, none⟩ = some (.int .i64 P) ∧ u.cell? ⟨w.heap.size, 1, none⟩ = some (.int .i64 Q) ∧ u.cell? ⟨w.heap.size, 2, none⟩ = some (.int .i64 G) from fun u h => ⟨cell_below hc.1 h.out, cell_below hc.2.1 h.out, cell_below hc.2.2 h.out⟩)
  have kV := Lib.hid (show ∀ u : World, Hid (Below w0.heap.size w0 u) → Hid (Vars u) from fun u h => Lib.hid ((hv.out.below) (below_ext HBw.out h.out)))
  have kD := Lib.hid (show ∀ u : World, Hid (Below w0.heap.size w0 u) → Hid (VarsD u) from fun u h => Lib.hid ((hd.out.below) (below_ext HBw.out h.out)))
  have HB_0 : Hid (Below w0.heap.size w0 w0) := Lib.hid (Below.refl _ _)
  have HW := Lib.hid hW
  clear hW hc hv hd
  have HT0 : Hid (DBlk w0 (w.heap.size + 1) h c) := Lib.hid (by rw [← HW.out, show w.heap.size + 1 = (w.alloc (gObj P Q G)).heap.size by simp]; exact heap_alloc_new _ _)
  have kT := Lib.hid (show ∀ u : World, Hid (Below w0.heap.size w0 u) → Hid (DBlk u (w.heap.size + 1) h c) from fun u hh => Lib.hid (HT0.out.below hh.out))
  go_enter Tryd.func6, Tryd.ntmps6
  go_upto_region 1 with (fail)
  rw [HW.out]
  obtain ⟨zc0, zc1, zc2⟩ := kC.out _ HB_0
  go_wp2_with fail
  refine (awake16 _ (kV.out _ HB_0)).mono ?_
  rintro e w1 ⟨rfl, hb0⟩
  have HB_1 := Lib.hid (below_ext HB_0.out hb0)
  clear zc0 zc1 zc2
  clear hb0
  obtain ⟨zc0, zc1, zc2⟩ := kC.out _ HB_1
  go_wp2_with fail
  refine (rvalid_any P Q G true HVG hQ _).mono ?_
  rintro e w2 ⟨rfl, hb0⟩
  have HB_2 := Lib.hid (below_ext HB_1.out hb0)
  clear zc0 zc1 zc2
  clear hb0
  obtain ⟨zc0, zc1, zc2⟩ := kC.out _ HB_2
  go_wp2_with fail
  refine (rbase_any P Q G b true HVG hob _).mono ?_
  rintro e w3 ⟨rfl, hb0⟩
  have HB_3 := Lib.hid (below_ext HB_2.out hb0)
  clear zc0 zc1 zc2
  clear hb0
  obtain ⟨zc0, zc1, zc2⟩ := kC.out _ HB_3
  go_wp2_with fail
  refine (rexp_any P Q G x true hex _).mono ?_
  rintro e w4 ⟨rfl, hb0⟩
  have HB_4 := Lib.hid (below_ext HB_3.out hb0)
  clear zc0 zc1 zc2
  clear hb0
  obtain ⟨zc0, zc1, zc2⟩ := kC.out _ HB_4
  go_wp2_with fail
  refine (rexp_any P Q G k true hek _).mono ?_
  rintro e w5 ⟨rfl, hb0⟩
  have HB_5 := Lib.hid (below_ext HB_4.out hb0)
  clear zc0 zc1 zc2
  clear hb0
  obtain ⟨zc0, zc1, zc2⟩ := kC.out _ HB_5
  go_wp2_with fail
  refine (rexp_any P Q G cc false hec _).mono ?_
  rintro e w6 ⟨rfl, hb0⟩
  have HB_6 := Lib.hid (below_ext HB_5.out hb0)
  clear zc0 zc1 zc2
  clear hb0
  obtain ⟨zc0, zc1, zc2⟩ := kC.out _ HB_6
  have hbF := below_ext HBw.out HB_6.out
  go_wp2
  go_ret
  exact ⟨rfl, hbF⟩
set_option maxHeartbeats 25600000 in
theorem kc_l (P Q G b x k cc : Int) (s : ByteArray) (h : List Int) (c : Int) (hl : Hid (h.length = 32)) (hhb : Hid (bytesB h = true)) (hQ : Q < 9223372036854775808) (hs : s.size ≤ 100) (HVG : Hid (validG P Q G = true)) (hob : Hid (okB P Q b = true)) (hex : Hid (expB Q x = true)) (hek : Hid (expB Q k = true)) (hec : Hid (expB Q cc = true)) (hr : Hid (labB (bys s) = false)) (w : World) (hv : Hid (Vars w)) (hd : Hid (VarsD w)) :
    Calls Tryd.prog 6 #[gv P Q G, .int .i64 b, .int .i64 x, .int .i64 k, .int .i64 cc, .string s, .agg (tcs h c)] w fun e' w' => e' = .returned (.bool true) ∧ Below w.heap.size w w' := by
  have dl : decide ((100 : Int) < (s.size : Int)) = false := by simp; omega
  obtain ⟨hp2, hp, hq3, hqp⟩ := validG_P HVG.out
  have xl := expB_lo hex.out
  have xu := expB_hi hex.out
  have kl := expB_lo hek.out
  have ku := expB_hi hek.out
  have hhon := honest16 HVG.out hob.out hex.out hek.out hec.out
  obtain ⟨y, hy⟩ : ∃ y, pw b (x % Q) P = y := ⟨_, rfl⟩
  obtain ⟨a, ha⟩ : ∃ y, pw b (k % Q) P = y := ⟨_, rfl⟩
  obtain ⟨z, hz⟩ : ∃ y, (cc * x % Q + k) % Q = y := ⟨_, rfl⟩
  rw [hy, ha, hz] at hhon
  have HCB := Lib.hid (chkG_ok (xs := [b]) HVG.out (by simp [okB_mem hob.out]))
  have e1 : comE P Q G b k = 0 := by rw [comE, HVG.out, hob.out, hek.out]; rfl
  have HE1 := Lib.hid e1
  have HA1 : Hid (comV P Q G b k = a) := Lib.hid (by rw [comV, e1, if_pos rfl]; exact ha)
  have e2 : resE P Q G k cc x = 0 := by rw [resE, HVG.out, hek.out, hec.out, hex.out]; rfl
  have HE2 := Lib.hid e2
  have HZ1 : Hid (resV P Q G k cc x = z) := Lib.hid (by rw [resV, e2, if_pos rfl]; exact hz)
  have HY := Lib.hid hy
  have HON := Lib.hid hhon
  clear hy ha hz hhon e1 e2
  obtain ⟨w0, hW⟩ : ∃ W, ((w.alloc (gObj P Q G)).alloc (.cells (tcs h c) 74)) = W := ⟨_, rfl⟩
  have HBw : Hid (Below w.heap.size w w0) := Lib.hid (by rw [← hW]; exact below_two (Below.refl _ _))
  have hc : w0.cell? ⟨w.heap.size, 0, none⟩ = some (.int .i64 P) ∧ w0.cell? ⟨w.heap.size, 1, none⟩ = some (.int .i64 Q) ∧ w0.cell? ⟨w.heap.size, 2, none⟩ = some (.int .i64 G) := by rw [← hW]; exact ⟨cell_below (allocs_cell (by simp) (by rfl)) (below_box0 _ _), cell_below (allocs_cell (by simp) (by rfl)) (below_box0 _ _), cell_below (allocs_cell (by simp) (by rfl)) (below_box0 _ _)⟩
  have kC := Lib.hid (show ∀ u : World, Hid (Below w0.heap.size w0 u) → u.cell? ⟨w.heap.size, 0, none⟩ = some (.int .i64 P) ∧ u.cell? ⟨w.heap.size, 1, none⟩ = some (.int .i64 Q) ∧ u.cell? ⟨w.heap.size, 2, none⟩ = some (.int .i64 G) from fun u h => ⟨cell_below hc.1 h.out, cell_below hc.2.1 h.out, cell_below hc.2.2 h.out⟩)
  have kV := Lib.hid (show ∀ u : World, Hid (Below w0.heap.size w0 u) → Hid (Vars u) from fun u h => Lib.hid ((hv.out.below) (below_ext HBw.out h.out)))
  have kD := Lib.hid (show ∀ u : World, Hid (Below w0.heap.size w0 u) → Hid (VarsD u) from fun u h => Lib.hid ((hd.out.below) (below_ext HBw.out h.out)))
  have HB_0 : Hid (Below w0.heap.size w0 w0) := Lib.hid (Below.refl _ _)
  have HW := Lib.hid hW
  clear hW hc hv hd
  have HT0 : Hid (DBlk w0 (w.heap.size + 1) h c) := Lib.hid (by rw [← HW.out, show w.heap.size + 1 = (w.alloc (gObj P Q G)).heap.size by simp]; exact heap_alloc_new _ _)
  have kT := Lib.hid (show ∀ u : World, Hid (Below w0.heap.size w0 u) → Hid (DBlk u (w.heap.size + 1) h c) from fun u hh => Lib.hid (HT0.out.below hh.out))
  go_enter Tryd.func6, Tryd.ntmps6
  go_upto_region 1 with (fail)
  rw [HW.out]
  obtain ⟨zc0, zc1, zc2⟩ := kC.out _ HB_0
  go_wp2_with fail
  refine (awake16 _ (kV.out _ HB_0)).mono ?_
  rintro e w1 ⟨rfl, hb0⟩
  have HB_1 := Lib.hid (below_ext HB_0.out hb0)
  clear zc0 zc1 zc2
  clear hb0
  obtain ⟨zc0, zc1, zc2⟩ := kC.out _ HB_1
  go_wp2_with fail
  refine (rvalid_any P Q G true HVG hQ _).mono ?_
  rintro e w2 ⟨rfl, hb0⟩
  have HB_2 := Lib.hid (below_ext HB_1.out hb0)
  clear zc0 zc1 zc2
  clear hb0
  obtain ⟨zc0, zc1, zc2⟩ := kC.out _ HB_2
  go_wp2_with fail
  refine (rbase_any P Q G b true HVG hob _).mono ?_
  rintro e w3 ⟨rfl, hb0⟩
  have HB_3 := Lib.hid (below_ext HB_2.out hb0)
  clear zc0 zc1 zc2
  clear hb0
  obtain ⟨zc0, zc1, zc2⟩ := kC.out _ HB_3
  go_wp2_with fail
  refine (rexp_any P Q G x true hex _).mono ?_
  rintro e w4 ⟨rfl, hb0⟩
  have HB_4 := Lib.hid (below_ext HB_3.out hb0)
  clear zc0 zc1 zc2
  clear hb0
  obtain ⟨zc0, zc1, zc2⟩ := kC.out _ HB_4
  go_wp2_with fail
  refine (rexp_any P Q G k true hek _).mono ?_
  rintro e w5 ⟨rfl, hb0⟩
  have HB_5 := Lib.hid (below_ext HB_4.out hb0)
  clear zc0 zc1 zc2
  clear hb0
  obtain ⟨zc0, zc1, zc2⟩ := kC.out _ HB_5
  go_wp2_with fail
  refine (rexp_any P Q G cc true hec _).mono ?_
  rintro e w6 ⟨rfl, hb0⟩
  have HB_6 := Lib.hid (below_ext HB_5.out hb0)
  clear zc0 zc1 zc2
  clear hb0
  obtain ⟨zc0, zc1, zc2⟩ := kC.out _ HB_6
  go_wp2_with fail
  refine (gpow_ok P Q G b x y HCB HY (by omega) (by omega) _ (kV.out _ HB_6)).mono ?_
  rintro e w7 ⟨rfl, hb0⟩
  have HB_7 := Lib.hid (below_ext HB_6.out hb0)
  clear zc0 zc1 zc2
  clear hb0
  obtain ⟨zc0, zc1, zc2⟩ := kC.out _ HB_7
  go_wp2_with fail
  refine (commit_any P Q G b k a 0 HA1 HE1 (by omega) _ (kV.out _ HB_7)).mono ?_
  rintro e w8 ⟨rfl, hb0⟩
  have HB_8 := Lib.hid (below_ext HB_7.out hb0)
  clear zc0 zc1 zc2
  clear hb0
  obtain ⟨zc0, zc1, zc2⟩ := kC.out _ HB_8
  go_wp2_with fail
  refine (respond_any P Q G k cc x z 0 HZ1 HE2 (by omega) _ (kV.out _ HB_8)).mono ?_
  rintro e w9 ⟨rfl, hb0⟩
  have HB_9 := Lib.hid (below_ext HB_8.out hb0)
  clear zc0 zc1 zc2
  clear hb0
  obtain ⟨zc0, zc1, zc2⟩ := kC.out _ HB_9
  have HOa : Hid (One (w9.alloc (.cells #[.int .i64 a] 3)) (some ⟨w9.heap.size, 0, none⟩) 1 a) := Lib.hid (fun _ => ⟨_, _, rfl, (cells1 w9 3 a) 0 (by simp)⟩)
  have HOa2 : Hid (One ((w9.alloc (.cells #[.int .i64 a] 3)).alloc (.cells #[.int .i64 z] 3)) (some ⟨w9.heap.size, 0, none⟩) 1 a) := Lib.hid (HOa.out.below (below_box0 _ _))
  have HOz2 : Hid (One ((w9.alloc (.cells #[.int .i64 a] 3)).alloc (.cells #[.int .i64 z] 3)) (some ⟨w9.heap.size + 1, 0, none⟩) 1 z) := Lib.hid (fun _ => ⟨_, _, rfl, (cells1' w9 (.cells #[.int .i64 a] 3) 3 z) 0 (by simp)⟩)
  have hq := below_box0 w9 (.cells #[.int .i64 a] 3)
  have HB_10 := Lib.hid (below_ext HB_9.out hq)
  clear hq
  have hq := below_box0 (w9.alloc (.cells #[.int .i64 a] 3)) (.cells #[.int .i64 z] 3)
  have HB_11 := Lib.hid (below_ext HB_10.out hq)
  clear hq
  go_wp2_with fail
  refine (check_any16 P Q G b y (some ⟨w9.heap.size, 0, none⟩) 1 1 a cc (some ⟨w9.heap.size + 1, 0, none⟩) 1 1 z true HON hQ _ (kV.out _ HB_11) HOa2 HOz2).mono ?_
  rintro e w12 ⟨rfl, hb0⟩
  have HB_12 := Lib.hid (below_ext HB_11.out hb0)
  clear zc0 zc1 zc2
  clear hb0
  obtain ⟨zc0, zc1, zc2⟩ := kC.out _ HB_12
  clear HOa HOa2 HOz2
  have HTk := kT.out _ HB_12
  go_wp2_with ((with_reducible show wpList _ _ _ (⟨some 109, _, _, _, _, _⟩ :: _) _ _); refine wpList_load_row_g (by rfl) 74 _ rfl (w.heap.size + 1) rfl _ _ _ _ HTk.out Tryd.underlying74 rfl (dr_info hl.out) ?_)
  refine (kp_l P Q G b x s h c (by omega) hl hhb HVG hob hex hr _ (kV.out _ HB_12) (kD.out _ HB_12)).mono ?_
  rintro e w13 ⟨rfl, hb0⟩
  have HB_13 := Lib.hid (below_ext HB_12.out hb0)
  clear zc0 zc1 zc2
  clear hb0 HTk
  rw [show PrvE (.agg #[.slice none 0 0, .int .i64 0, .slice none 0 0]) (zer 32) 0 1 = .tuple #[.agg #[.slice none 0 0, .int .i64 0, .slice none 0 0], .agg (tcs (zer 32) 0), .int .i64 1] from rfl]
  have HDa14 : Hid (DBlk ((w13.alloc (.cells #[.slice none 0 0, .int .i64 0, .slice none 0 0] 32)).alloc (.cells #[.int .u8 0, .int .u8 0, .int .u8 0, .int .u8 0, .int .u8 0, .int .u8 0, .int .u8 0, .int .u8 0, .int .u8 0, .int .u8 0, .int .u8 0, .int .u8 0, .int .u8 0, .int .u8 0, .int .u8 0, .int .u8 0, .int .u8 0, .int .u8 0, .int .u8 0, .int .u8 0, .int .u8 0, .int .u8 0, .int .u8 0, .int .u8 0, .int .u8 0, .int .u8 0, .int .u8 0, .int .u8 0, .int .u8 0, .int .u8 0, .int .u8 0, .int .u8 0, .int .i64 0] 74)) (w13.heap.size + 1) (zer 32) 0) := Lib.hid (by rw [ztr]; exact heap_alloc2_new _ _ _)
  have HQe14 : Hid (QBlk (((w13.alloc (.cells #[.slice none 0 0, .int .i64 0, .slice none 0 0] 32)).alloc (.cells #[.int .u8 0, .int .u8 0, .int .u8 0, .int .u8 0, .int .u8 0, .int .u8 0, .int .u8 0, .int .u8 0, .int .u8 0, .int .u8 0, .int .u8 0, .int .u8 0, .int .u8 0, .int .u8 0, .int .u8 0, .int .u8 0, .int .u8 0, .int .u8 0, .int .u8 0, .int .u8 0, .int .u8 0, .int .u8 0, .int .u8 0, .int .u8 0, .int .u8 0, .int .u8 0, .int .u8 0, .int .u8 0, .int .u8 0, .int .u8 0, .int .u8 0, .int .u8 0, .int .i64 0] 74)).setRow (w13.heap.size + 1) (tcs (zer 32) 0)) w13.heap.size (.slice none 0 0) (.int .i64 0) (.slice none 0 0)) := Lib.hid ((setRow_other _ _ _ _ (by omega)).trans (heap_alloc2_old _ _ _))
  have HDe14 : Hid (DBlk (((w13.alloc (.cells #[.slice none 0 0, .int .i64 0, .slice none 0 0] 32)).alloc (.cells #[.int .u8 0, .int .u8 0, .int .u8 0, .int .u8 0, .int .u8 0, .int .u8 0, .int .u8 0, .int .u8 0, .int .u8 0, .int .u8 0, .int .u8 0, .int .u8 0, .int .u8 0, .int .u8 0, .int .u8 0, .int .u8 0, .int .u8 0, .int .u8 0, .int .u8 0, .int .u8 0, .int .u8 0, .int .u8 0, .int .u8 0, .int .u8 0, .int .u8 0, .int .u8 0, .int .u8 0, .int .u8 0, .int .u8 0, .int .u8 0, .int .u8 0, .int .u8 0, .int .i64 0] 74)).setRow (w13.heap.size + 1) (tcs (zer 32) 0)) (w13.heap.size + 1) (zer 32) 0) := Lib.hid (DBlk.setRow HDa14.out)
  have hq : Below w13.heap.size w13 (((w13.alloc (.cells #[.slice none 0 0, .int .i64 0, .slice none 0 0] 32)).alloc (.cells #[.int .u8 0, .int .u8 0, .int .u8 0, .int .u8 0, .int .u8 0, .int .u8 0, .int .u8 0, .int .u8 0, .int .u8 0, .int .u8 0, .int .u8 0, .int .u8 0, .int .u8 0, .int .u8 0, .int .u8 0, .int .u8 0, .int .u8 0, .int .u8 0, .int .u8 0, .int .u8 0, .int .u8 0, .int .u8 0, .int .u8 0, .int .u8 0, .int .u8 0, .int .u8 0, .int .u8 0, .int .u8 0, .int .u8 0, .int .u8 0, .int .u8 0, .int .u8 0, .int .i64 0] 74)).setRow (w13.heap.size + 1) (tcs (zer 32) 0)) := below_setRow' (below_two (Below.refl _ _)) (Nat.le_succ _)
  have HQW := Lib.hid hq
  go_upto_region 11 with ((with_reducible show wpList _ _ _ (⟨none, _, _, _, _, _⟩ :: _) _ _); refine wpList_store_row rfl 74 _ _ rfl (w13.heap.size + 1) (tcs (zer 32) 0) rfl rfl _ _ HDa14.out (dr_info rfl) (tcs_sz (h := zer 32) (c := 0) rfl rfl) (tcs_one _ _) ?_)
  clear HDa14
  have HB_14 := Lib.hid (below_ext HB_13.out hq)
  obtain ⟨w14, hw⟩ : ∃ x, (((w13.alloc (.cells #[.slice none 0 0, .int .i64 0, .slice none 0 0] 32)).alloc (.cells #[.int .u8 0, .int .u8 0, .int .u8 0, .int .u8 0, .int .u8 0, .int .u8 0, .int .u8 0, .int .u8 0, .int .u8 0, .int .u8 0, .int .u8 0, .int .u8 0, .int .u8 0, .int .u8 0, .int .u8 0, .int .u8 0, .int .u8 0, .int .u8 0, .int .u8 0, .int .u8 0, .int .u8 0, .int .u8 0, .int .u8 0, .int .u8 0, .int .u8 0, .int .u8 0, .int .u8 0, .int .u8 0, .int .u8 0, .int .u8 0, .int .u8 0, .int .u8 0, .int .i64 0] 74)).setRow (w13.heap.size + 1) (tcs (zer 32) 0)) = x := ⟨_, rfl⟩
  rw [hw] at HQW HQe14 HDe14 HB_14 ⊢
  clear hw hq
  have HB_w14_14 : Hid (Below w14.heap.size w14 w14) := Lib.hid (Below.refl _ _)
  have kS := Lib.hid (show ∀ u : World, Hid (Below w14.heap.size w14 u) → u.cell? ⟨w13.heap.size, 0, none⟩ = some (.slice none 0 0) ∧ u.cell? ⟨w13.heap.size, 1, none⟩ = some (.int .i64 0) ∧ u.cell? ⟨w13.heap.size, 2, none⟩ = some (.slice none 0 0) from fun u hh => ⟨cell_below HQe14.out.cells.1.1 hh.out, cell_below HQe14.out.cells.1.2.1 hh.out, cell_below HQe14.out.cells.1.2.2 hh.out⟩)
  have kS2 := Lib.hid (show ∀ u : World, Hid (Below w14.heap.size w14 u) → Hid (DBlk u (w13.heap.size + 1) (zer 32) 0) from fun u h => Lib.hid (HDe14.out.below h.out))
  obtain ⟨zc0, zc1, zc2⟩ := kC.out _ HB_14
  obtain ⟨kS_0, kS_1, kS_2⟩ := kS.out _ HB_w14_14
  go_wp2_with fail
  refine (rlabel_any s (by omega) false hr _).mono ?_
  rintro e wz ⟨rfl, rfl⟩
  have hbF := below_ext HBw.out HB_14.out
  go_wp2
  go_ret
  exact ⟨rfl, hbF⟩
set_option maxHeartbeats 25600000 in
theorem kc_d (P Q G b x k cc : Int) (s : ByteArray) (h : List Int) (c : Int) (hl : Hid (h.length = 32)) (hhb : Hid (bytesB h = true)) (hQ : Q < 9223372036854775808) (hs : s.size ≤ 100) (HVG : Hid (validG P Q G = true)) (hob : Hid (okB P Q b = true)) (hex : Hid (expB Q x = true)) (hek : Hid (expB Q k = true)) (hec : Hid (expB Q cc = true)) (hr : Hid (labB (bys s) = true)) (hdr : Hid (drB c = false)) (w : World) (hv : Hid (Vars w)) (hd : Hid (VarsD w)) :
    Calls Tryd.prog 6 #[gv P Q G, .int .i64 b, .int .i64 x, .int .i64 k, .int .i64 cc, .string s, .agg (tcs h c)] w fun e' w' => e' = .returned (.bool true) ∧ Below w.heap.size w w' := by
  have dl : decide ((100 : Int) < (s.size : Int)) = false := by simp; omega
  obtain ⟨hp2, hp, hq3, hqp⟩ := validG_P HVG.out
  have xl := expB_lo hex.out
  have xu := expB_hi hex.out
  have kl := expB_lo hek.out
  have ku := expB_hi hek.out
  have hhon := honest16 HVG.out hob.out hex.out hek.out hec.out
  obtain ⟨y, hy⟩ : ∃ y, pw b (x % Q) P = y := ⟨_, rfl⟩
  obtain ⟨a, ha⟩ : ∃ y, pw b (k % Q) P = y := ⟨_, rfl⟩
  obtain ⟨z, hz⟩ : ∃ y, (cc * x % Q + k) % Q = y := ⟨_, rfl⟩
  rw [hy, ha, hz] at hhon
  have HCB := Lib.hid (chkG_ok (xs := [b]) HVG.out (by simp [okB_mem hob.out]))
  have e1 : comE P Q G b k = 0 := by rw [comE, HVG.out, hob.out, hek.out]; rfl
  have HE1 := Lib.hid e1
  have HA1 : Hid (comV P Q G b k = a) := Lib.hid (by rw [comV, e1, if_pos rfl]; exact ha)
  have e2 : resE P Q G k cc x = 0 := by rw [resE, HVG.out, hek.out, hec.out, hex.out]; rfl
  have HE2 := Lib.hid e2
  have HZ1 : Hid (resV P Q G k cc x = z) := Lib.hid (by rw [resV, e2, if_pos rfl]; exact hz)
  have HY := Lib.hid hy
  have HON := Lib.hid hhon
  clear hy ha hz hhon e1 e2
  obtain ⟨w0, hW⟩ : ∃ W, ((w.alloc (gObj P Q G)).alloc (.cells (tcs h c) 74)) = W := ⟨_, rfl⟩
  have HBw : Hid (Below w.heap.size w w0) := Lib.hid (by rw [← hW]; exact below_two (Below.refl _ _))
  have hc : w0.cell? ⟨w.heap.size, 0, none⟩ = some (.int .i64 P) ∧ w0.cell? ⟨w.heap.size, 1, none⟩ = some (.int .i64 Q) ∧ w0.cell? ⟨w.heap.size, 2, none⟩ = some (.int .i64 G) := by rw [← hW]; exact ⟨cell_below (allocs_cell (by simp) (by rfl)) (below_box0 _ _), cell_below (allocs_cell (by simp) (by rfl)) (below_box0 _ _), cell_below (allocs_cell (by simp) (by rfl)) (below_box0 _ _)⟩
  have kC := Lib.hid (show ∀ u : World, Hid (Below w0.heap.size w0 u) → u.cell? ⟨w.heap.size, 0, none⟩ = some (.int .i64 P) ∧ u.cell? ⟨w.heap.size, 1, none⟩ = some (.int .i64 Q) ∧ u.cell? ⟨w.heap.size, 2, none⟩ = some (.int .i64 G) from fun u h => ⟨cell_below hc.1 h.out, cell_below hc.2.1 h.out, cell_below hc.2.2 h.out⟩)
  have kV := Lib.hid (show ∀ u : World, Hid (Below w0.heap.size w0 u) → Hid (Vars u) from fun u h => Lib.hid ((hv.out.below) (below_ext HBw.out h.out)))
  have kD := Lib.hid (show ∀ u : World, Hid (Below w0.heap.size w0 u) → Hid (VarsD u) from fun u h => Lib.hid ((hd.out.below) (below_ext HBw.out h.out)))
  have HB_0 : Hid (Below w0.heap.size w0 w0) := Lib.hid (Below.refl _ _)
  have HW := Lib.hid hW
  clear hW hc hv hd
  have HT0 : Hid (DBlk w0 (w.heap.size + 1) h c) := Lib.hid (by rw [← HW.out, show w.heap.size + 1 = (w.alloc (gObj P Q G)).heap.size by simp]; exact heap_alloc_new _ _)
  have kT := Lib.hid (show ∀ u : World, Hid (Below w0.heap.size w0 u) → Hid (DBlk u (w.heap.size + 1) h c) from fun u hh => Lib.hid (HT0.out.below hh.out))
  go_enter Tryd.func6, Tryd.ntmps6
  go_upto_region 1 with (fail)
  rw [HW.out]
  obtain ⟨zc0, zc1, zc2⟩ := kC.out _ HB_0
  go_wp2_with fail
  refine (awake16 _ (kV.out _ HB_0)).mono ?_
  rintro e w1 ⟨rfl, hb0⟩
  have HB_1 := Lib.hid (below_ext HB_0.out hb0)
  clear zc0 zc1 zc2
  clear hb0
  obtain ⟨zc0, zc1, zc2⟩ := kC.out _ HB_1
  go_wp2_with fail
  refine (rvalid_any P Q G true HVG hQ _).mono ?_
  rintro e w2 ⟨rfl, hb0⟩
  have HB_2 := Lib.hid (below_ext HB_1.out hb0)
  clear zc0 zc1 zc2
  clear hb0
  obtain ⟨zc0, zc1, zc2⟩ := kC.out _ HB_2
  go_wp2_with fail
  refine (rbase_any P Q G b true HVG hob _).mono ?_
  rintro e w3 ⟨rfl, hb0⟩
  have HB_3 := Lib.hid (below_ext HB_2.out hb0)
  clear zc0 zc1 zc2
  clear hb0
  obtain ⟨zc0, zc1, zc2⟩ := kC.out _ HB_3
  go_wp2_with fail
  refine (rexp_any P Q G x true hex _).mono ?_
  rintro e w4 ⟨rfl, hb0⟩
  have HB_4 := Lib.hid (below_ext HB_3.out hb0)
  clear zc0 zc1 zc2
  clear hb0
  obtain ⟨zc0, zc1, zc2⟩ := kC.out _ HB_4
  go_wp2_with fail
  refine (rexp_any P Q G k true hek _).mono ?_
  rintro e w5 ⟨rfl, hb0⟩
  have HB_5 := Lib.hid (below_ext HB_4.out hb0)
  clear zc0 zc1 zc2
  clear hb0
  obtain ⟨zc0, zc1, zc2⟩ := kC.out _ HB_5
  go_wp2_with fail
  refine (rexp_any P Q G cc true hec _).mono ?_
  rintro e w6 ⟨rfl, hb0⟩
  have HB_6 := Lib.hid (below_ext HB_5.out hb0)
  clear zc0 zc1 zc2
  clear hb0
  obtain ⟨zc0, zc1, zc2⟩ := kC.out _ HB_6
  go_wp2_with fail
  refine (gpow_ok P Q G b x y HCB HY (by omega) (by omega) _ (kV.out _ HB_6)).mono ?_
  rintro e w7 ⟨rfl, hb0⟩
  have HB_7 := Lib.hid (below_ext HB_6.out hb0)
  clear zc0 zc1 zc2
  clear hb0
  obtain ⟨zc0, zc1, zc2⟩ := kC.out _ HB_7
  go_wp2_with fail
  refine (commit_any P Q G b k a 0 HA1 HE1 (by omega) _ (kV.out _ HB_7)).mono ?_
  rintro e w8 ⟨rfl, hb0⟩
  have HB_8 := Lib.hid (below_ext HB_7.out hb0)
  clear zc0 zc1 zc2
  clear hb0
  obtain ⟨zc0, zc1, zc2⟩ := kC.out _ HB_8
  go_wp2_with fail
  refine (respond_any P Q G k cc x z 0 HZ1 HE2 (by omega) _ (kV.out _ HB_8)).mono ?_
  rintro e w9 ⟨rfl, hb0⟩
  have HB_9 := Lib.hid (below_ext HB_8.out hb0)
  clear zc0 zc1 zc2
  clear hb0
  obtain ⟨zc0, zc1, zc2⟩ := kC.out _ HB_9
  have HOa : Hid (One (w9.alloc (.cells #[.int .i64 a] 3)) (some ⟨w9.heap.size, 0, none⟩) 1 a) := Lib.hid (fun _ => ⟨_, _, rfl, (cells1 w9 3 a) 0 (by simp)⟩)
  have HOa2 : Hid (One ((w9.alloc (.cells #[.int .i64 a] 3)).alloc (.cells #[.int .i64 z] 3)) (some ⟨w9.heap.size, 0, none⟩) 1 a) := Lib.hid (HOa.out.below (below_box0 _ _))
  have HOz2 : Hid (One ((w9.alloc (.cells #[.int .i64 a] 3)).alloc (.cells #[.int .i64 z] 3)) (some ⟨w9.heap.size + 1, 0, none⟩) 1 z) := Lib.hid (fun _ => ⟨_, _, rfl, (cells1' w9 (.cells #[.int .i64 a] 3) 3 z) 0 (by simp)⟩)
  have hq := below_box0 w9 (.cells #[.int .i64 a] 3)
  have HB_10 := Lib.hid (below_ext HB_9.out hq)
  clear hq
  have hq := below_box0 (w9.alloc (.cells #[.int .i64 a] 3)) (.cells #[.int .i64 z] 3)
  have HB_11 := Lib.hid (below_ext HB_10.out hq)
  clear hq
  go_wp2_with fail
  refine (check_any16 P Q G b y (some ⟨w9.heap.size, 0, none⟩) 1 1 a cc (some ⟨w9.heap.size + 1, 0, none⟩) 1 1 z true HON hQ _ (kV.out _ HB_11) HOa2 HOz2).mono ?_
  rintro e w12 ⟨rfl, hb0⟩
  have HB_12 := Lib.hid (below_ext HB_11.out hb0)
  clear zc0 zc1 zc2
  clear hb0
  obtain ⟨zc0, zc1, zc2⟩ := kC.out _ HB_12
  clear HOa HOa2 HOz2
  have HTk := kT.out _ HB_12
  go_wp2_with ((with_reducible show wpList _ _ _ (⟨some 109, _, _, _, _, _⟩ :: _) _ _); refine wpList_load_row_g (by rfl) 74 _ rfl (w.heap.size + 1) rfl _ _ _ _ HTk.out Tryd.underlying74 rfl (dr_info hl.out) ?_)
  refine (kp_d P Q G b x s h c (by omega) hl hhb HVG hob hex hr hdr _ (kV.out _ HB_12) (kD.out _ HB_12)).mono ?_
  rintro e w13 ⟨rfl, hb0⟩
  have HB_13 := Lib.hid (below_ext HB_12.out hb0)
  clear zc0 zc1 zc2
  clear hb0 HTk
  rw [show PrvE (.agg #[.slice none 0 0, .int .i64 0, .slice none 0 0]) (zer 32) 0 1 = .tuple #[.agg #[.slice none 0 0, .int .i64 0, .slice none 0 0], .agg (tcs (zer 32) 0), .int .i64 1] from rfl]
  have HDa14 : Hid (DBlk ((w13.alloc (.cells #[.slice none 0 0, .int .i64 0, .slice none 0 0] 32)).alloc (.cells #[.int .u8 0, .int .u8 0, .int .u8 0, .int .u8 0, .int .u8 0, .int .u8 0, .int .u8 0, .int .u8 0, .int .u8 0, .int .u8 0, .int .u8 0, .int .u8 0, .int .u8 0, .int .u8 0, .int .u8 0, .int .u8 0, .int .u8 0, .int .u8 0, .int .u8 0, .int .u8 0, .int .u8 0, .int .u8 0, .int .u8 0, .int .u8 0, .int .u8 0, .int .u8 0, .int .u8 0, .int .u8 0, .int .u8 0, .int .u8 0, .int .u8 0, .int .u8 0, .int .i64 0] 74)) (w13.heap.size + 1) (zer 32) 0) := Lib.hid (by rw [ztr]; exact heap_alloc2_new _ _ _)
  have HQe14 : Hid (QBlk (((w13.alloc (.cells #[.slice none 0 0, .int .i64 0, .slice none 0 0] 32)).alloc (.cells #[.int .u8 0, .int .u8 0, .int .u8 0, .int .u8 0, .int .u8 0, .int .u8 0, .int .u8 0, .int .u8 0, .int .u8 0, .int .u8 0, .int .u8 0, .int .u8 0, .int .u8 0, .int .u8 0, .int .u8 0, .int .u8 0, .int .u8 0, .int .u8 0, .int .u8 0, .int .u8 0, .int .u8 0, .int .u8 0, .int .u8 0, .int .u8 0, .int .u8 0, .int .u8 0, .int .u8 0, .int .u8 0, .int .u8 0, .int .u8 0, .int .u8 0, .int .u8 0, .int .i64 0] 74)).setRow (w13.heap.size + 1) (tcs (zer 32) 0)) w13.heap.size (.slice none 0 0) (.int .i64 0) (.slice none 0 0)) := Lib.hid ((setRow_other _ _ _ _ (by omega)).trans (heap_alloc2_old _ _ _))
  have HDe14 : Hid (DBlk (((w13.alloc (.cells #[.slice none 0 0, .int .i64 0, .slice none 0 0] 32)).alloc (.cells #[.int .u8 0, .int .u8 0, .int .u8 0, .int .u8 0, .int .u8 0, .int .u8 0, .int .u8 0, .int .u8 0, .int .u8 0, .int .u8 0, .int .u8 0, .int .u8 0, .int .u8 0, .int .u8 0, .int .u8 0, .int .u8 0, .int .u8 0, .int .u8 0, .int .u8 0, .int .u8 0, .int .u8 0, .int .u8 0, .int .u8 0, .int .u8 0, .int .u8 0, .int .u8 0, .int .u8 0, .int .u8 0, .int .u8 0, .int .u8 0, .int .u8 0, .int .u8 0, .int .i64 0] 74)).setRow (w13.heap.size + 1) (tcs (zer 32) 0)) (w13.heap.size + 1) (zer 32) 0) := Lib.hid (DBlk.setRow HDa14.out)
  have hq : Below w13.heap.size w13 (((w13.alloc (.cells #[.slice none 0 0, .int .i64 0, .slice none 0 0] 32)).alloc (.cells #[.int .u8 0, .int .u8 0, .int .u8 0, .int .u8 0, .int .u8 0, .int .u8 0, .int .u8 0, .int .u8 0, .int .u8 0, .int .u8 0, .int .u8 0, .int .u8 0, .int .u8 0, .int .u8 0, .int .u8 0, .int .u8 0, .int .u8 0, .int .u8 0, .int .u8 0, .int .u8 0, .int .u8 0, .int .u8 0, .int .u8 0, .int .u8 0, .int .u8 0, .int .u8 0, .int .u8 0, .int .u8 0, .int .u8 0, .int .u8 0, .int .u8 0, .int .u8 0, .int .i64 0] 74)).setRow (w13.heap.size + 1) (tcs (zer 32) 0)) := below_setRow' (below_two (Below.refl _ _)) (Nat.le_succ _)
  have HQW := Lib.hid hq
  go_upto_region 11 with ((with_reducible show wpList _ _ _ (⟨none, _, _, _, _, _⟩ :: _) _ _); refine wpList_store_row rfl 74 _ _ rfl (w13.heap.size + 1) (tcs (zer 32) 0) rfl rfl _ _ HDa14.out (dr_info rfl) (tcs_sz (h := zer 32) (c := 0) rfl rfl) (tcs_one _ _) ?_)
  clear HDa14
  have HB_14 := Lib.hid (below_ext HB_13.out hq)
  obtain ⟨w14, hw⟩ : ∃ x, (((w13.alloc (.cells #[.slice none 0 0, .int .i64 0, .slice none 0 0] 32)).alloc (.cells #[.int .u8 0, .int .u8 0, .int .u8 0, .int .u8 0, .int .u8 0, .int .u8 0, .int .u8 0, .int .u8 0, .int .u8 0, .int .u8 0, .int .u8 0, .int .u8 0, .int .u8 0, .int .u8 0, .int .u8 0, .int .u8 0, .int .u8 0, .int .u8 0, .int .u8 0, .int .u8 0, .int .u8 0, .int .u8 0, .int .u8 0, .int .u8 0, .int .u8 0, .int .u8 0, .int .u8 0, .int .u8 0, .int .u8 0, .int .u8 0, .int .u8 0, .int .u8 0, .int .i64 0] 74)).setRow (w13.heap.size + 1) (tcs (zer 32) 0)) = x := ⟨_, rfl⟩
  rw [hw] at HQW HQe14 HDe14 HB_14 ⊢
  clear hw hq
  have HB_w14_14 : Hid (Below w14.heap.size w14 w14) := Lib.hid (Below.refl _ _)
  have kS := Lib.hid (show ∀ u : World, Hid (Below w14.heap.size w14 u) → u.cell? ⟨w13.heap.size, 0, none⟩ = some (.slice none 0 0) ∧ u.cell? ⟨w13.heap.size, 1, none⟩ = some (.int .i64 0) ∧ u.cell? ⟨w13.heap.size, 2, none⟩ = some (.slice none 0 0) from fun u hh => ⟨cell_below HQe14.out.cells.1.1 hh.out, cell_below HQe14.out.cells.1.2.1 hh.out, cell_below HQe14.out.cells.1.2.2 hh.out⟩)
  have kS2 := Lib.hid (show ∀ u : World, Hid (Below w14.heap.size w14 u) → Hid (DBlk u (w13.heap.size + 1) (zer 32) 0) from fun u h => Lib.hid (HDe14.out.below h.out))
  obtain ⟨zc0, zc1, zc2⟩ := kC.out _ HB_14
  obtain ⟨kS_0, kS_1, kS_2⟩ := kS.out _ HB_w14_14
  go_wp2_with fail
  refine (rlabel_any s (by omega) true hr _).mono ?_
  rintro e wz ⟨rfl, rfl⟩
  have HTk := kT.out _ HB_14
  go_wp2_with ((with_reducible show wpList _ _ _ (⟨some 118, _, _, _, _, _⟩ :: _) _ _); refine wpList_load_row_g (by rfl) 74 _ rfl (w.heap.size + 1) rfl _ _ _ _ HTk.out Tryd.underlying74 rfl (dr_info hl.out) ?_)
  refine (dvalid_any h hl c false hdr _).mono ?_
  rintro e w15 ⟨rfl, hb0⟩
  have HB_15 := Lib.hid (below_ext HB_14.out hb0)
  have HB_w14_15 := Lib.hid (below_ext HB_w14_14.out hb0)
  clear zc0 zc1 zc2 kS_0 kS_1 kS_2
  clear hb0
  obtain ⟨zc0, zc1, zc2⟩ := kC.out _ HB_15
  obtain ⟨kS_0, kS_1, kS_2⟩ := kS.out _ HB_w14_15
  clear HTk
  have hbF := below_ext HBw.out HB_15.out
  go_wp2
  go_ret
  exact ⟨rfl, hbF⟩
set_option maxHeartbeats 25600000 in
theorem kc_f (P Q G b x k cc : Int) (s : ByteArray) (h : List Int) (c : Int) (hl : Hid (h.length = 32)) (hhb : Hid (bytesB h = true)) (hQ : Q < 9223372036854775808) (hs : s.size ≤ 100) (HVG : Hid (validG P Q G = true)) (hob : Hid (okB P Q b = true)) (hex : Hid (expB Q x = true)) (hek : Hid (expB Q k = true)) (hec : Hid (expB Q cc = true)) (hr : Hid (labB (bys s) = true)) (hdr : Hid (drB c = true)) (kk rc : Int) (HN : Kp (numD h Q (maskD Q) 256 c 0 = (kk, rc, true))) (w : World) (hv : Hid (Vars w)) (hd : Hid (VarsD w)) :
    Calls Tryd.prog 6 #[gv P Q G, .int .i64 b, .int .i64 x, .int .i64 k, .int .i64 cc, .string s, .agg (tcs h c)] w fun e' w' => e' = .returned (.bool true) ∧ Below w.heap.size w w' := by
  have dl : decide ((100 : Int) < (s.size : Int)) = false := by simp; omega
  obtain ⟨hp2, hp, hq3, hqp⟩ := validG_P HVG.out
  have xl := expB_lo hex.out
  have xu := expB_hi hex.out
  have kl := expB_lo hek.out
  have ku := expB_hi hek.out
  have hhon := honest16 HVG.out hob.out hex.out hek.out hec.out
  obtain ⟨y, hy⟩ : ∃ y, pw b (x % Q) P = y := ⟨_, rfl⟩
  obtain ⟨a, ha⟩ : ∃ y, pw b (k % Q) P = y := ⟨_, rfl⟩
  obtain ⟨z, hz⟩ : ∃ y, (cc * x % Q + k) % Q = y := ⟨_, rfl⟩
  rw [hy, ha, hz] at hhon
  have HCB := Lib.hid (chkG_ok (xs := [b]) HVG.out (by simp [okB_mem hob.out]))
  have e1 : comE P Q G b k = 0 := by rw [comE, HVG.out, hob.out, hek.out]; rfl
  have HE1 := Lib.hid e1
  have HA1 : Hid (comV P Q G b k = a) := Lib.hid (by rw [comV, e1, if_pos rfl]; exact ha)
  have e2 : resE P Q G k cc x = 0 := by rw [resE, HVG.out, hek.out, hec.out, hex.out]; rfl
  have HE2 := Lib.hid e2
  have HZ1 : Hid (resV P Q G k cc x = z) := Lib.hid (by rw [resV, e2, if_pos rfl]; exact hz)
  have HY := Lib.hid hy
  have HON := Lib.hid hhon
  clear hy ha hz hhon e1 e2
  obtain ⟨w0, hW⟩ : ∃ W, ((w.alloc (gObj P Q G)).alloc (.cells (tcs h c) 74)) = W := ⟨_, rfl⟩
  have HBw : Hid (Below w.heap.size w w0) := Lib.hid (by rw [← hW]; exact below_two (Below.refl _ _))
  have hc : w0.cell? ⟨w.heap.size, 0, none⟩ = some (.int .i64 P) ∧ w0.cell? ⟨w.heap.size, 1, none⟩ = some (.int .i64 Q) ∧ w0.cell? ⟨w.heap.size, 2, none⟩ = some (.int .i64 G) := by rw [← hW]; exact ⟨cell_below (allocs_cell (by simp) (by rfl)) (below_box0 _ _), cell_below (allocs_cell (by simp) (by rfl)) (below_box0 _ _), cell_below (allocs_cell (by simp) (by rfl)) (below_box0 _ _)⟩
  have kC := Lib.hid (show ∀ u : World, Hid (Below w0.heap.size w0 u) → u.cell? ⟨w.heap.size, 0, none⟩ = some (.int .i64 P) ∧ u.cell? ⟨w.heap.size, 1, none⟩ = some (.int .i64 Q) ∧ u.cell? ⟨w.heap.size, 2, none⟩ = some (.int .i64 G) from fun u h => ⟨cell_below hc.1 h.out, cell_below hc.2.1 h.out, cell_below hc.2.2 h.out⟩)
  have kV := Lib.hid (show ∀ u : World, Hid (Below w0.heap.size w0 u) → Hid (Vars u) from fun u h => Lib.hid ((hv.out.below) (below_ext HBw.out h.out)))
  have kD := Lib.hid (show ∀ u : World, Hid (Below w0.heap.size w0 u) → Hid (VarsD u) from fun u h => Lib.hid ((hd.out.below) (below_ext HBw.out h.out)))
  have HB_0 : Hid (Below w0.heap.size w0 w0) := Lib.hid (Below.refl _ _)
  have HW := Lib.hid hW
  clear hW hc hv hd
  have HT0 : Hid (DBlk w0 (w.heap.size + 1) h c) := Lib.hid (by rw [← HW.out, show w.heap.size + 1 = (w.alloc (gObj P Q G)).heap.size by simp]; exact heap_alloc_new _ _)
  have kT := Lib.hid (show ∀ u : World, Hid (Below w0.heap.size w0 u) → Hid (DBlk u (w.heap.size + 1) h c) from fun u hh => Lib.hid (HT0.out.below hh.out))
  go_enter Tryd.func6, Tryd.ntmps6
  go_upto_region 1 with (fail)
  rw [HW.out]
  obtain ⟨zc0, zc1, zc2⟩ := kC.out _ HB_0
  go_wp2_with fail
  refine (awake16 _ (kV.out _ HB_0)).mono ?_
  rintro e w1 ⟨rfl, hb0⟩
  have HB_1 := Lib.hid (below_ext HB_0.out hb0)
  clear zc0 zc1 zc2
  clear hb0
  obtain ⟨zc0, zc1, zc2⟩ := kC.out _ HB_1
  go_wp2_with fail
  refine (rvalid_any P Q G true HVG hQ _).mono ?_
  rintro e w2 ⟨rfl, hb0⟩
  have HB_2 := Lib.hid (below_ext HB_1.out hb0)
  clear zc0 zc1 zc2
  clear hb0
  obtain ⟨zc0, zc1, zc2⟩ := kC.out _ HB_2
  go_wp2_with fail
  refine (rbase_any P Q G b true HVG hob _).mono ?_
  rintro e w3 ⟨rfl, hb0⟩
  have HB_3 := Lib.hid (below_ext HB_2.out hb0)
  clear zc0 zc1 zc2
  clear hb0
  obtain ⟨zc0, zc1, zc2⟩ := kC.out _ HB_3
  go_wp2_with fail
  refine (rexp_any P Q G x true hex _).mono ?_
  rintro e w4 ⟨rfl, hb0⟩
  have HB_4 := Lib.hid (below_ext HB_3.out hb0)
  clear zc0 zc1 zc2
  clear hb0
  obtain ⟨zc0, zc1, zc2⟩ := kC.out _ HB_4
  go_wp2_with fail
  refine (rexp_any P Q G k true hek _).mono ?_
  rintro e w5 ⟨rfl, hb0⟩
  have HB_5 := Lib.hid (below_ext HB_4.out hb0)
  clear zc0 zc1 zc2
  clear hb0
  obtain ⟨zc0, zc1, zc2⟩ := kC.out _ HB_5
  go_wp2_with fail
  refine (rexp_any P Q G cc true hec _).mono ?_
  rintro e w6 ⟨rfl, hb0⟩
  have HB_6 := Lib.hid (below_ext HB_5.out hb0)
  clear zc0 zc1 zc2
  clear hb0
  obtain ⟨zc0, zc1, zc2⟩ := kC.out _ HB_6
  go_wp2_with fail
  refine (gpow_ok P Q G b x y HCB HY (by omega) (by omega) _ (kV.out _ HB_6)).mono ?_
  rintro e w7 ⟨rfl, hb0⟩
  have HB_7 := Lib.hid (below_ext HB_6.out hb0)
  clear zc0 zc1 zc2
  clear hb0
  obtain ⟨zc0, zc1, zc2⟩ := kC.out _ HB_7
  go_wp2_with fail
  refine (commit_any P Q G b k a 0 HA1 HE1 (by omega) _ (kV.out _ HB_7)).mono ?_
  rintro e w8 ⟨rfl, hb0⟩
  have HB_8 := Lib.hid (below_ext HB_7.out hb0)
  clear zc0 zc1 zc2
  clear hb0
  obtain ⟨zc0, zc1, zc2⟩ := kC.out _ HB_8
  go_wp2_with fail
  refine (respond_any P Q G k cc x z 0 HZ1 HE2 (by omega) _ (kV.out _ HB_8)).mono ?_
  rintro e w9 ⟨rfl, hb0⟩
  have HB_9 := Lib.hid (below_ext HB_8.out hb0)
  clear zc0 zc1 zc2
  clear hb0
  obtain ⟨zc0, zc1, zc2⟩ := kC.out _ HB_9
  have HOa : Hid (One (w9.alloc (.cells #[.int .i64 a] 3)) (some ⟨w9.heap.size, 0, none⟩) 1 a) := Lib.hid (fun _ => ⟨_, _, rfl, (cells1 w9 3 a) 0 (by simp)⟩)
  have HOa2 : Hid (One ((w9.alloc (.cells #[.int .i64 a] 3)).alloc (.cells #[.int .i64 z] 3)) (some ⟨w9.heap.size, 0, none⟩) 1 a) := Lib.hid (HOa.out.below (below_box0 _ _))
  have HOz2 : Hid (One ((w9.alloc (.cells #[.int .i64 a] 3)).alloc (.cells #[.int .i64 z] 3)) (some ⟨w9.heap.size + 1, 0, none⟩) 1 z) := Lib.hid (fun _ => ⟨_, _, rfl, (cells1' w9 (.cells #[.int .i64 a] 3) 3 z) 0 (by simp)⟩)
  have hq := below_box0 w9 (.cells #[.int .i64 a] 3)
  have HB_10 := Lib.hid (below_ext HB_9.out hq)
  clear hq
  have hq := below_box0 (w9.alloc (.cells #[.int .i64 a] 3)) (.cells #[.int .i64 z] 3)
  have HB_11 := Lib.hid (below_ext HB_10.out hq)
  clear hq
  go_wp2_with fail
  refine (check_any16 P Q G b y (some ⟨w9.heap.size, 0, none⟩) 1 1 a cc (some ⟨w9.heap.size + 1, 0, none⟩) 1 1 z true HON hQ _ (kV.out _ HB_11) HOa2 HOz2).mono ?_
  rintro e w12 ⟨rfl, hb0⟩
  have HB_12 := Lib.hid (below_ext HB_11.out hb0)
  clear zc0 zc1 zc2
  clear hb0
  obtain ⟨zc0, zc1, zc2⟩ := kC.out _ HB_12
  clear HOa HOa2 HOz2
  have HTk := kT.out _ HB_12
  go_wp2_with ((with_reducible show wpList _ _ _ (⟨some 109, _, _, _, _, _⟩ :: _) _ _); refine wpList_load_row_g (by rfl) 74 _ rfl (w.heap.size + 1) rfl _ _ _ _ HTk.out Tryd.underlying74 rfl (dr_info hl.out) ?_)
  refine (kp_f P Q G b x s h c (by omega) hl hhb HVG hob hex hr hdr kk rc HN _ (kV.out _ HB_12) (kD.out _ HB_12)).mono ?_
  rintro e w13 ⟨rfl, hb0⟩
  have HB_13 := Lib.hid (below_ext HB_12.out hb0)
  clear zc0 zc1 zc2
  clear hb0 HTk
  rw [show PrvE (.agg #[.slice none 0 0, .int .i64 0, .slice none 0 0]) (zer 32) 0 5 = .tuple #[.agg #[.slice none 0 0, .int .i64 0, .slice none 0 0], .agg (tcs (zer 32) 0), .int .i64 5] from rfl]
  have HDa14 : Hid (DBlk ((w13.alloc (.cells #[.slice none 0 0, .int .i64 0, .slice none 0 0] 32)).alloc (.cells #[.int .u8 0, .int .u8 0, .int .u8 0, .int .u8 0, .int .u8 0, .int .u8 0, .int .u8 0, .int .u8 0, .int .u8 0, .int .u8 0, .int .u8 0, .int .u8 0, .int .u8 0, .int .u8 0, .int .u8 0, .int .u8 0, .int .u8 0, .int .u8 0, .int .u8 0, .int .u8 0, .int .u8 0, .int .u8 0, .int .u8 0, .int .u8 0, .int .u8 0, .int .u8 0, .int .u8 0, .int .u8 0, .int .u8 0, .int .u8 0, .int .u8 0, .int .u8 0, .int .i64 0] 74)) (w13.heap.size + 1) (zer 32) 0) := Lib.hid (by rw [ztr]; exact heap_alloc2_new _ _ _)
  have HQe14 : Hid (QBlk (((w13.alloc (.cells #[.slice none 0 0, .int .i64 0, .slice none 0 0] 32)).alloc (.cells #[.int .u8 0, .int .u8 0, .int .u8 0, .int .u8 0, .int .u8 0, .int .u8 0, .int .u8 0, .int .u8 0, .int .u8 0, .int .u8 0, .int .u8 0, .int .u8 0, .int .u8 0, .int .u8 0, .int .u8 0, .int .u8 0, .int .u8 0, .int .u8 0, .int .u8 0, .int .u8 0, .int .u8 0, .int .u8 0, .int .u8 0, .int .u8 0, .int .u8 0, .int .u8 0, .int .u8 0, .int .u8 0, .int .u8 0, .int .u8 0, .int .u8 0, .int .u8 0, .int .i64 0] 74)).setRow (w13.heap.size + 1) (tcs (zer 32) 0)) w13.heap.size (.slice none 0 0) (.int .i64 0) (.slice none 0 0)) := Lib.hid ((setRow_other _ _ _ _ (by omega)).trans (heap_alloc2_old _ _ _))
  have HDe14 : Hid (DBlk (((w13.alloc (.cells #[.slice none 0 0, .int .i64 0, .slice none 0 0] 32)).alloc (.cells #[.int .u8 0, .int .u8 0, .int .u8 0, .int .u8 0, .int .u8 0, .int .u8 0, .int .u8 0, .int .u8 0, .int .u8 0, .int .u8 0, .int .u8 0, .int .u8 0, .int .u8 0, .int .u8 0, .int .u8 0, .int .u8 0, .int .u8 0, .int .u8 0, .int .u8 0, .int .u8 0, .int .u8 0, .int .u8 0, .int .u8 0, .int .u8 0, .int .u8 0, .int .u8 0, .int .u8 0, .int .u8 0, .int .u8 0, .int .u8 0, .int .u8 0, .int .u8 0, .int .i64 0] 74)).setRow (w13.heap.size + 1) (tcs (zer 32) 0)) (w13.heap.size + 1) (zer 32) 0) := Lib.hid (DBlk.setRow HDa14.out)
  have hq : Below w13.heap.size w13 (((w13.alloc (.cells #[.slice none 0 0, .int .i64 0, .slice none 0 0] 32)).alloc (.cells #[.int .u8 0, .int .u8 0, .int .u8 0, .int .u8 0, .int .u8 0, .int .u8 0, .int .u8 0, .int .u8 0, .int .u8 0, .int .u8 0, .int .u8 0, .int .u8 0, .int .u8 0, .int .u8 0, .int .u8 0, .int .u8 0, .int .u8 0, .int .u8 0, .int .u8 0, .int .u8 0, .int .u8 0, .int .u8 0, .int .u8 0, .int .u8 0, .int .u8 0, .int .u8 0, .int .u8 0, .int .u8 0, .int .u8 0, .int .u8 0, .int .u8 0, .int .u8 0, .int .i64 0] 74)).setRow (w13.heap.size + 1) (tcs (zer 32) 0)) := below_setRow' (below_two (Below.refl _ _)) (Nat.le_succ _)
  have HQW := Lib.hid hq
  go_upto_region 11 with ((with_reducible show wpList _ _ _ (⟨none, _, _, _, _, _⟩ :: _) _ _); refine wpList_store_row rfl 74 _ _ rfl (w13.heap.size + 1) (tcs (zer 32) 0) rfl rfl _ _ HDa14.out (dr_info rfl) (tcs_sz (h := zer 32) (c := 0) rfl rfl) (tcs_one _ _) ?_)
  clear HDa14
  have HB_14 := Lib.hid (below_ext HB_13.out hq)
  obtain ⟨w14, hw⟩ : ∃ x, (((w13.alloc (.cells #[.slice none 0 0, .int .i64 0, .slice none 0 0] 32)).alloc (.cells #[.int .u8 0, .int .u8 0, .int .u8 0, .int .u8 0, .int .u8 0, .int .u8 0, .int .u8 0, .int .u8 0, .int .u8 0, .int .u8 0, .int .u8 0, .int .u8 0, .int .u8 0, .int .u8 0, .int .u8 0, .int .u8 0, .int .u8 0, .int .u8 0, .int .u8 0, .int .u8 0, .int .u8 0, .int .u8 0, .int .u8 0, .int .u8 0, .int .u8 0, .int .u8 0, .int .u8 0, .int .u8 0, .int .u8 0, .int .u8 0, .int .u8 0, .int .u8 0, .int .i64 0] 74)).setRow (w13.heap.size + 1) (tcs (zer 32) 0)) = x := ⟨_, rfl⟩
  rw [hw] at HQW HQe14 HDe14 HB_14 ⊢
  clear hw hq
  have HB_w14_14 : Hid (Below w14.heap.size w14 w14) := Lib.hid (Below.refl _ _)
  have kS := Lib.hid (show ∀ u : World, Hid (Below w14.heap.size w14 u) → u.cell? ⟨w13.heap.size, 0, none⟩ = some (.slice none 0 0) ∧ u.cell? ⟨w13.heap.size, 1, none⟩ = some (.int .i64 0) ∧ u.cell? ⟨w13.heap.size, 2, none⟩ = some (.slice none 0 0) from fun u hh => ⟨cell_below HQe14.out.cells.1.1 hh.out, cell_below HQe14.out.cells.1.2.1 hh.out, cell_below HQe14.out.cells.1.2.2 hh.out⟩)
  have kS2 := Lib.hid (show ∀ u : World, Hid (Below w14.heap.size w14 u) → Hid (DBlk u (w13.heap.size + 1) (zer 32) 0) from fun u h => Lib.hid (HDe14.out.below h.out))
  obtain ⟨zc0, zc1, zc2⟩ := kC.out _ HB_14
  obtain ⟨kS_0, kS_1, kS_2⟩ := kS.out _ HB_w14_14
  go_wp2_with fail
  refine (rlabel_any s (by omega) true hr _).mono ?_
  rintro e wz ⟨rfl, rfl⟩
  have HTk := kT.out _ HB_14
  go_wp2_with ((with_reducible show wpList _ _ _ (⟨some 118, _, _, _, _, _⟩ :: _) _ _); refine wpList_load_row_g (by rfl) 74 _ rfl (w.heap.size + 1) rfl _ _ _ _ HTk.out Tryd.underlying74 rfl (dr_info hl.out) ?_)
  refine (dvalid_any h hl c true hdr _).mono ?_
  rintro e w15 ⟨rfl, hb0⟩
  have HB_15 := Lib.hid (below_ext HB_14.out hb0)
  have HB_w14_15 := Lib.hid (below_ext HB_w14_14.out hb0)
  clear zc0 zc1 zc2 kS_0 kS_1 kS_2
  clear hb0
  obtain ⟨zc0, zc1, zc2⟩ := kC.out _ HB_15
  obtain ⟨kS_0, kS_1, kS_2⟩ := kS.out _ HB_w14_15
  clear HTk
  have hbF := below_ext HBw.out HB_15.out
  go_wp2
  go_ret
  exact ⟨rfl, hbF⟩
set_option maxHeartbeats 25600000 in
theorem kc_o (P Q G b x k cc : Int) (s : ByteArray) (h : List Int) (c : Int) (hl : Hid (h.length = 32)) (hhb : Hid (bytesB h = true)) (hQ : Q < 9223372036854775808) (hs : s.size ≤ 100) (HVG : Hid (validG P Q G = true)) (hob : Hid (okB P Q b = true)) (hex : Hid (expB Q x = true)) (hek : Hid (expB Q k = true)) (hec : Hid (expB Q cc = true)) (hr : Hid (labB (bys s) = true)) (hdr : Hid (drB c = true)) (kk rc : Int) (HN : Kp (numD h Q (maskD Q) 256 c 0 = (kk, rc, false))) (kk0 : 0 ≤ kk) (kk1 : kk < Q) (hrc : c < rc) (w : World) (hv : Hid (Vars w)) (hd : Hid (VarsD w)) :
    Calls Tryd.prog 6 #[gv P Q G, .int .i64 b, .int .i64 x, .int .i64 k, .int .i64 cc, .string s, .agg (tcs h c)] w fun e' w' => e' = .returned (.bool true) ∧ Below w.heap.size w w' := by
  have dl : decide ((100 : Int) < (s.size : Int)) = false := by simp; omega
  obtain ⟨hp2, hp, hq3, hqp⟩ := validG_P HVG.out
  have xl := expB_lo hex.out
  have xu := expB_hi hex.out
  have kl := expB_lo hek.out
  have ku := expB_hi hek.out
  have hhon := honest16 HVG.out hob.out hex.out hek.out hec.out
  obtain ⟨y, hy⟩ : ∃ y, pw b (x % Q) P = y := ⟨_, rfl⟩
  obtain ⟨a, ha⟩ : ∃ y, pw b (k % Q) P = y := ⟨_, rfl⟩
  obtain ⟨z, hz⟩ : ∃ y, (cc * x % Q + k) % Q = y := ⟨_, rfl⟩
  rw [hy, ha, hz] at hhon
  have HCB := Lib.hid (chkG_ok (xs := [b]) HVG.out (by simp [okB_mem hob.out]))
  have e1 : comE P Q G b k = 0 := by rw [comE, HVG.out, hob.out, hek.out]; rfl
  have HE1 := Lib.hid e1
  have HA1 : Hid (comV P Q G b k = a) := Lib.hid (by rw [comV, e1, if_pos rfl]; exact ha)
  have e2 : resE P Q G k cc x = 0 := by rw [resE, HVG.out, hek.out, hec.out, hex.out]; rfl
  have HE2 := Lib.hid e2
  have HZ1 : Hid (resV P Q G k cc x = z) := Lib.hid (by rw [resV, e2, if_pos rfl]; exact hz)
  have HY := Lib.hid hy
  have HON := Lib.hid hhon
  clear hy ha hz hhon e1 e2
  have hek2 : expB Q kk = true := by simp [expB]; omega
  obtain ⟨a2, ha2⟩ : ∃ y, pw b (kk % Q) P = y := ⟨_, rfl⟩
  obtain ⟨V, hVV⟩ : ∃ v, chalK P Q G b y a2 (bys s) = v := ⟨_, rfl⟩
  obtain ⟨V0, V1⟩ : 0 ≤ V ∧ V < Q := by rw [← hVV]; exact chalK_lo (by omega) _
  have heV : expB Q V = true := by simp [expB]; omega
  obtain ⟨z2, hz2⟩ : ∃ v, (V * x % Q + kk) % Q = v := ⟨_, rfl⟩
  have hh2 := honest16 HVG.out hob.out hex.out hek2 heV
  rw [HY.out, ha2, hz2] at hh2
  have hw2 := wrong16 hh2
  obtain ⟨z3, hz3⟩ : ∃ v, (z2 + 1) % Q = v := ⟨_, rfl⟩
  rw [hz3] at hw2
  have zz0 : 0 ≤ z2 := by rw [← hz2]; exact Int.emod_nonneg _ (by omega)
  have zz1 : z2 < Q := by rw [← hz2]; exact Int.emod_lt_of_pos _ (by omega)
  have zw0 : 0 ≤ z3 := by rw [← hz3]; exact Int.emod_nonneg _ (by omega)
  have zw1 : z3 < Q := by rw [← hz3]; exact Int.emod_lt_of_pos _ (by omega)
  have HTM : Hid ((z2 + 1).tmod Q = z3) := Lib.hid (by rw [Int.tmod_eq_emod_of_nonneg (by omega), hz3])
  have HVS : Kp (verK P Q G b y V (bys s) [a2] [z2] = true) := ⟨by
    have e : verK P Q G b y V (bys s) [a2] [z2] = (chkB P Q G b y 1 a2 V 1 z2 && (labB (bys s) && (chalK P Q G b y a2 (bys s) == V))) := rfl
    rw [e, hh2, hr.out, hVV]; simp⟩
  have HVW : Kp (verK P Q G b y V (bys s) [a2] [z3] = false) := ⟨by
    have e : verK P Q G b y V (bys s) [a2] [z3] = (chkB P Q G b y 1 a2 V 1 z3 && (labB (bys s) && (chalK P Q G b y a2 (bys s) == V))) := rfl
    rw [e, hw2]; rfl⟩
  have HWR := Lib.hid hw2
  have HA2 := Lib.hid ha2
  have HZ2 := Lib.hid hz2
  have HVV : Kp (chalK P Q G b y a2 (bys s) = V) := ⟨hVV⟩
  have drc : decide (rc ≤ c) = false := by simp; omega
  clear ha2 hVV heV hz2 hh2 hw2 hz3 hek2
  obtain ⟨w0, hW⟩ : ∃ W, ((w.alloc (gObj P Q G)).alloc (.cells (tcs h c) 74)) = W := ⟨_, rfl⟩
  have HBw : Hid (Below w.heap.size w w0) := Lib.hid (by rw [← hW]; exact below_two (Below.refl _ _))
  have hc : w0.cell? ⟨w.heap.size, 0, none⟩ = some (.int .i64 P) ∧ w0.cell? ⟨w.heap.size, 1, none⟩ = some (.int .i64 Q) ∧ w0.cell? ⟨w.heap.size, 2, none⟩ = some (.int .i64 G) := by rw [← hW]; exact ⟨cell_below (allocs_cell (by simp) (by rfl)) (below_box0 _ _), cell_below (allocs_cell (by simp) (by rfl)) (below_box0 _ _), cell_below (allocs_cell (by simp) (by rfl)) (below_box0 _ _)⟩
  have kC := Lib.hid (show ∀ u : World, Hid (Below w0.heap.size w0 u) → u.cell? ⟨w.heap.size, 0, none⟩ = some (.int .i64 P) ∧ u.cell? ⟨w.heap.size, 1, none⟩ = some (.int .i64 Q) ∧ u.cell? ⟨w.heap.size, 2, none⟩ = some (.int .i64 G) from fun u h => ⟨cell_below hc.1 h.out, cell_below hc.2.1 h.out, cell_below hc.2.2 h.out⟩)
  have kV := Lib.hid (show ∀ u : World, Hid (Below w0.heap.size w0 u) → Hid (Vars u) from fun u h => Lib.hid ((hv.out.below) (below_ext HBw.out h.out)))
  have kD := Lib.hid (show ∀ u : World, Hid (Below w0.heap.size w0 u) → Hid (VarsD u) from fun u h => Lib.hid ((hd.out.below) (below_ext HBw.out h.out)))
  have HB_0 : Hid (Below w0.heap.size w0 w0) := Lib.hid (Below.refl _ _)
  have HW := Lib.hid hW
  clear hW hc hv hd
  have HT0 : Hid (DBlk w0 (w.heap.size + 1) h c) := Lib.hid (by rw [← HW.out, show w.heap.size + 1 = (w.alloc (gObj P Q G)).heap.size by simp]; exact heap_alloc_new _ _)
  have kT := Lib.hid (show ∀ u : World, Hid (Below w0.heap.size w0 u) → Hid (DBlk u (w.heap.size + 1) h c) from fun u hh => Lib.hid (HT0.out.below hh.out))
  go_enter Tryd.func6, Tryd.ntmps6
  go_upto_region 1 with (fail)
  rw [HW.out]
  obtain ⟨zc0, zc1, zc2⟩ := kC.out _ HB_0
  go_wp2_with fail
  refine (awake16 _ (kV.out _ HB_0)).mono ?_
  rintro e w1 ⟨rfl, hb0⟩
  have HB_1 := Lib.hid (below_ext HB_0.out hb0)
  clear zc0 zc1 zc2
  clear hb0
  obtain ⟨zc0, zc1, zc2⟩ := kC.out _ HB_1
  go_wp2_with fail
  refine (rvalid_any P Q G true HVG hQ _).mono ?_
  rintro e w2 ⟨rfl, hb0⟩
  have HB_2 := Lib.hid (below_ext HB_1.out hb0)
  clear zc0 zc1 zc2
  clear hb0
  obtain ⟨zc0, zc1, zc2⟩ := kC.out _ HB_2
  go_wp2_with fail
  refine (rbase_any P Q G b true HVG hob _).mono ?_
  rintro e w3 ⟨rfl, hb0⟩
  have HB_3 := Lib.hid (below_ext HB_2.out hb0)
  clear zc0 zc1 zc2
  clear hb0
  obtain ⟨zc0, zc1, zc2⟩ := kC.out _ HB_3
  go_wp2_with fail
  refine (rexp_any P Q G x true hex _).mono ?_
  rintro e w4 ⟨rfl, hb0⟩
  have HB_4 := Lib.hid (below_ext HB_3.out hb0)
  clear zc0 zc1 zc2
  clear hb0
  obtain ⟨zc0, zc1, zc2⟩ := kC.out _ HB_4
  go_wp2_with fail
  refine (rexp_any P Q G k true hek _).mono ?_
  rintro e w5 ⟨rfl, hb0⟩
  have HB_5 := Lib.hid (below_ext HB_4.out hb0)
  clear zc0 zc1 zc2
  clear hb0
  obtain ⟨zc0, zc1, zc2⟩ := kC.out _ HB_5
  go_wp2_with fail
  refine (rexp_any P Q G cc true hec _).mono ?_
  rintro e w6 ⟨rfl, hb0⟩
  have HB_6 := Lib.hid (below_ext HB_5.out hb0)
  clear zc0 zc1 zc2
  clear hb0
  obtain ⟨zc0, zc1, zc2⟩ := kC.out _ HB_6
  go_wp2_with fail
  refine (gpow_ok P Q G b x y HCB HY (by omega) (by omega) _ (kV.out _ HB_6)).mono ?_
  rintro e w7 ⟨rfl, hb0⟩
  have HB_7 := Lib.hid (below_ext HB_6.out hb0)
  clear zc0 zc1 zc2
  clear hb0
  obtain ⟨zc0, zc1, zc2⟩ := kC.out _ HB_7
  go_wp2_with fail
  refine (commit_any P Q G b k a 0 HA1 HE1 (by omega) _ (kV.out _ HB_7)).mono ?_
  rintro e w8 ⟨rfl, hb0⟩
  have HB_8 := Lib.hid (below_ext HB_7.out hb0)
  clear zc0 zc1 zc2
  clear hb0
  obtain ⟨zc0, zc1, zc2⟩ := kC.out _ HB_8
  go_wp2_with fail
  refine (respond_any P Q G k cc x z 0 HZ1 HE2 (by omega) _ (kV.out _ HB_8)).mono ?_
  rintro e w9 ⟨rfl, hb0⟩
  have HB_9 := Lib.hid (below_ext HB_8.out hb0)
  clear zc0 zc1 zc2
  clear hb0
  obtain ⟨zc0, zc1, zc2⟩ := kC.out _ HB_9
  have HOa : Hid (One (w9.alloc (.cells #[.int .i64 a] 3)) (some ⟨w9.heap.size, 0, none⟩) 1 a) := Lib.hid (fun _ => ⟨_, _, rfl, (cells1 w9 3 a) 0 (by simp)⟩)
  have HOa2 : Hid (One ((w9.alloc (.cells #[.int .i64 a] 3)).alloc (.cells #[.int .i64 z] 3)) (some ⟨w9.heap.size, 0, none⟩) 1 a) := Lib.hid (HOa.out.below (below_box0 _ _))
  have HOz2 : Hid (One ((w9.alloc (.cells #[.int .i64 a] 3)).alloc (.cells #[.int .i64 z] 3)) (some ⟨w9.heap.size + 1, 0, none⟩) 1 z) := Lib.hid (fun _ => ⟨_, _, rfl, (cells1' w9 (.cells #[.int .i64 a] 3) 3 z) 0 (by simp)⟩)
  have hq := below_box0 w9 (.cells #[.int .i64 a] 3)
  have HB_10 := Lib.hid (below_ext HB_9.out hq)
  clear hq
  have hq := below_box0 (w9.alloc (.cells #[.int .i64 a] 3)) (.cells #[.int .i64 z] 3)
  have HB_11 := Lib.hid (below_ext HB_10.out hq)
  clear hq
  go_wp2_with fail
  refine (check_any16 P Q G b y (some ⟨w9.heap.size, 0, none⟩) 1 1 a cc (some ⟨w9.heap.size + 1, 0, none⟩) 1 1 z true HON hQ _ (kV.out _ HB_11) HOa2 HOz2).mono ?_
  rintro e w12 ⟨rfl, hb0⟩
  have HB_12 := Lib.hid (below_ext HB_11.out hb0)
  clear zc0 zc1 zc2
  clear hb0
  obtain ⟨zc0, zc1, zc2⟩ := kC.out _ HB_12
  clear HOa HOa2 HOz2
  have HTk := kT.out _ HB_12
  go_wp2_with ((with_reducible show wpList _ _ _ (⟨some 109, _, _, _, _, _⟩ :: _) _ _); refine wpList_load_row_g (by rfl) 74 _ rfl (w.heap.size + 1) rfl _ _ _ _ HTk.out Tryd.underlying74 rfl (dr_info hl.out) ?_)
  refine (kp_o P Q G b x s h c (by omega) hl hhb HVG hob hex hr hdr kk rc HN kk0 kk1 y a2 HY HA2 V HVV V0 V1 z2 HZ2 _ (kV.out _ HB_12) (kD.out _ HB_12)).mono ?_
  intro e w13 hP
  obtain ⟨gA, gZ, rfl, hA5, hZ5, hb0⟩ := hP
  have HA5 := Lib.hid hA5
  have HZ5 := Lib.hid hZ5
  clear hA5 hZ5
  have HB_13 := Lib.hid (below_ext HB_12.out hb0)
  clear zc0 zc1 zc2
  clear hb0 HTk
  rw [show PrvE (.agg #[.slice (some ⟨gA, 0, none⟩) 1 1, .int .i64 V, .slice (some ⟨gZ, 0, none⟩) 1 1]) h rc 0 = .tuple #[.agg #[.slice (some ⟨gA, 0, none⟩) 1 1, .int .i64 V, .slice (some ⟨gZ, 0, none⟩) 1 1], .agg (tcs h rc), .int .i64 0] from rfl]
  have HDa14 : Hid (DBlk ((w13.alloc (.cells #[.slice (some ⟨gA, 0, none⟩) 1 1, .int .i64 V, .slice (some ⟨gZ, 0, none⟩) 1 1] 32)).alloc (.cells #[.int .u8 0, .int .u8 0, .int .u8 0, .int .u8 0, .int .u8 0, .int .u8 0, .int .u8 0, .int .u8 0, .int .u8 0, .int .u8 0, .int .u8 0, .int .u8 0, .int .u8 0, .int .u8 0, .int .u8 0, .int .u8 0, .int .u8 0, .int .u8 0, .int .u8 0, .int .u8 0, .int .u8 0, .int .u8 0, .int .u8 0, .int .u8 0, .int .u8 0, .int .u8 0, .int .u8 0, .int .u8 0, .int .u8 0, .int .u8 0, .int .u8 0, .int .u8 0, .int .i64 0] 74)) (w13.heap.size + 1) (zer 32) 0) := Lib.hid (by rw [ztr]; exact heap_alloc2_new _ _ _)
  have HQe14 : Hid (QBlk (((w13.alloc (.cells #[.slice (some ⟨gA, 0, none⟩) 1 1, .int .i64 V, .slice (some ⟨gZ, 0, none⟩) 1 1] 32)).alloc (.cells #[.int .u8 0, .int .u8 0, .int .u8 0, .int .u8 0, .int .u8 0, .int .u8 0, .int .u8 0, .int .u8 0, .int .u8 0, .int .u8 0, .int .u8 0, .int .u8 0, .int .u8 0, .int .u8 0, .int .u8 0, .int .u8 0, .int .u8 0, .int .u8 0, .int .u8 0, .int .u8 0, .int .u8 0, .int .u8 0, .int .u8 0, .int .u8 0, .int .u8 0, .int .u8 0, .int .u8 0, .int .u8 0, .int .u8 0, .int .u8 0, .int .u8 0, .int .u8 0, .int .i64 0] 74)).setRow (w13.heap.size + 1) (tcs h rc)) w13.heap.size (.slice (some ⟨gA, 0, none⟩) 1 1) (.int .i64 V) (.slice (some ⟨gZ, 0, none⟩) 1 1)) := Lib.hid ((setRow_other _ _ _ _ (by omega)).trans (heap_alloc2_old _ _ _))
  have HDe14 : Hid (DBlk (((w13.alloc (.cells #[.slice (some ⟨gA, 0, none⟩) 1 1, .int .i64 V, .slice (some ⟨gZ, 0, none⟩) 1 1] 32)).alloc (.cells #[.int .u8 0, .int .u8 0, .int .u8 0, .int .u8 0, .int .u8 0, .int .u8 0, .int .u8 0, .int .u8 0, .int .u8 0, .int .u8 0, .int .u8 0, .int .u8 0, .int .u8 0, .int .u8 0, .int .u8 0, .int .u8 0, .int .u8 0, .int .u8 0, .int .u8 0, .int .u8 0, .int .u8 0, .int .u8 0, .int .u8 0, .int .u8 0, .int .u8 0, .int .u8 0, .int .u8 0, .int .u8 0, .int .u8 0, .int .u8 0, .int .u8 0, .int .u8 0, .int .i64 0] 74)).setRow (w13.heap.size + 1) (tcs h rc)) (w13.heap.size + 1) h rc) := Lib.hid (DBlk.setRow HDa14.out)
  have hq : Below w13.heap.size w13 (((w13.alloc (.cells #[.slice (some ⟨gA, 0, none⟩) 1 1, .int .i64 V, .slice (some ⟨gZ, 0, none⟩) 1 1] 32)).alloc (.cells #[.int .u8 0, .int .u8 0, .int .u8 0, .int .u8 0, .int .u8 0, .int .u8 0, .int .u8 0, .int .u8 0, .int .u8 0, .int .u8 0, .int .u8 0, .int .u8 0, .int .u8 0, .int .u8 0, .int .u8 0, .int .u8 0, .int .u8 0, .int .u8 0, .int .u8 0, .int .u8 0, .int .u8 0, .int .u8 0, .int .u8 0, .int .u8 0, .int .u8 0, .int .u8 0, .int .u8 0, .int .u8 0, .int .u8 0, .int .u8 0, .int .u8 0, .int .u8 0, .int .i64 0] 74)).setRow (w13.heap.size + 1) (tcs h rc)) := below_setRow' (below_two (Below.refl _ _)) (Nat.le_succ _)
  have HQW := Lib.hid hq
  go_upto_region 11 with ((with_reducible show wpList _ _ _ (⟨none, _, _, _, _, _⟩ :: _) _ _); refine wpList_store_row rfl 74 _ _ rfl (w13.heap.size + 1) (tcs h rc) rfl rfl _ _ HDa14.out (dr_info hl.out) (tcs_sz (h := zer 32) (c := 0) rfl hl.out) (tcs_one _ _) ?_)
  clear HDa14
  have HB_14 := Lib.hid (below_ext HB_13.out hq)
  obtain ⟨w14, hw⟩ : ∃ x, (((w13.alloc (.cells #[.slice (some ⟨gA, 0, none⟩) 1 1, .int .i64 V, .slice (some ⟨gZ, 0, none⟩) 1 1] 32)).alloc (.cells #[.int .u8 0, .int .u8 0, .int .u8 0, .int .u8 0, .int .u8 0, .int .u8 0, .int .u8 0, .int .u8 0, .int .u8 0, .int .u8 0, .int .u8 0, .int .u8 0, .int .u8 0, .int .u8 0, .int .u8 0, .int .u8 0, .int .u8 0, .int .u8 0, .int .u8 0, .int .u8 0, .int .u8 0, .int .u8 0, .int .u8 0, .int .u8 0, .int .u8 0, .int .u8 0, .int .u8 0, .int .u8 0, .int .u8 0, .int .u8 0, .int .u8 0, .int .u8 0, .int .i64 0] 74)).setRow (w13.heap.size + 1) (tcs h rc)) = x := ⟨_, rfl⟩
  rw [hw] at HQW HQe14 HDe14 HB_14 ⊢
  clear hw hq
  have HB_w14_14 : Hid (Below w14.heap.size w14 w14) := Lib.hid (Below.refl _ _)
  have kS := Lib.hid (show ∀ u : World, Hid (Below w14.heap.size w14 u) → u.cell? ⟨w13.heap.size, 0, none⟩ = some (.slice (some ⟨gA, 0, none⟩) 1 1) ∧ u.cell? ⟨w13.heap.size, 1, none⟩ = some (.int .i64 V) ∧ u.cell? ⟨w13.heap.size, 2, none⟩ = some (.slice (some ⟨gZ, 0, none⟩) 1 1) from fun u hh => ⟨cell_below HQe14.out.cells.1.1 hh.out, cell_below HQe14.out.cells.1.2.1 hh.out, cell_below HQe14.out.cells.1.2.2 hh.out⟩)
  have kS2 := Lib.hid (show ∀ u : World, Hid (Below w14.heap.size w14 u) → Hid (DBlk u (w13.heap.size + 1) h rc) from fun u h => Lib.hid (HDe14.out.below h.out))
  obtain ⟨zc0, zc1, zc2⟩ := kC.out _ HB_14
  obtain ⟨kS_0, kS_1, kS_2⟩ := kS.out _ HB_w14_14
  have kA5 := Lib.hid (show ∀ u : World, Hid (Below w14.heap.size w14 u) → Hid (Cells u gA [a2]) from fun u h => Lib.hid (HA5.out.below (below_ext HQW h.out)))
  have kZ5 := Lib.hid (show ∀ u : World, Hid (Below w14.heap.size w14 u) → Hid (Cells u gZ [z2]) from fun u h => Lib.hid (HZ5.out.below (below_ext HQW h.out)))
  go_wp2_with fail
  refine (rlabel_any s (by omega) true hr _).mono ?_
  rintro e wz ⟨rfl, rfl⟩
  have HTk := kT.out _ HB_14
  go_wp2_with ((with_reducible show wpList _ _ _ (⟨some 118, _, _, _, _, _⟩ :: _) _ _); refine wpList_load_row_g (by rfl) 74 _ rfl (w.heap.size + 1) rfl _ _ _ _ HTk.out Tryd.underlying74 rfl (dr_info hl.out) ?_)
  refine (dvalid_any h hl c true hdr _).mono ?_
  rintro e w15 ⟨rfl, hb0⟩
  have HB_15 := Lib.hid (below_ext HB_14.out hb0)
  have HB_w14_15 := Lib.hid (below_ext HB_w14_14.out hb0)
  clear zc0 zc1 zc2 kS_0 kS_1 kS_2
  clear hb0
  obtain ⟨zc0, zc1, zc2⟩ := kC.out _ HB_15
  obtain ⟨kS_0, kS_1, kS_2⟩ := kS.out _ HB_w14_15
  clear HTk
  go_wp2_with fail
  refine (kver_any P Q G b y (some ⟨gA, 0, none⟩) [a2] 1 1 V (some ⟨gZ, 0, none⟩) [z2] 1 1 (Lib.hid rfl) (Lib.hid rfl) hQ s (by omega) true HVS _ (kV.out _ HB_15) (kD.out _ HB_15) (Lib.hid (sl_of_cells ((kA5.out _ HB_w14_15)).out)) (Lib.hid (sl_of_cells ((kZ5.out _ HB_w14_15)).out))).mono ?_
  rintro e w16 ⟨rfl, hb0⟩
  have HB_16 := Lib.hid (below_ext HB_15.out hb0)
  have HB_w14_16 := Lib.hid (below_ext HB_w14_15.out hb0)
  clear zc0 zc1 zc2 kS_0 kS_1 kS_2
  clear hb0
  obtain ⟨zc0, zc1, zc2⟩ := kC.out _ HB_16
  obtain ⟨kS_0, kS_1, kS_2⟩ := kS.out _ HB_w14_16
  have n1 := ((kS2.out _ HB_w14_16)).out.count hl.out
  have n2 := ((kT.out _ HB_16)).out.count hl.out
  go_upto_region 17 with (fail)
  clear n1 n2
  have qz := ((kZ5.out _ HB_w14_16)).out 0 (by simp)
  have htm := HTM.out
  have hq0 : ¬ (Q = 0) := by omega
  have hq0b : (Q == 0) = false := by simp; omega
  have hwa : IntKind.i64.wrap (z2 + 1) = z2 + 1 := IntWalk.i64_in _ (by omega)
  have hwb : IntKind.i64.wrap z3 = z3 := IntWalk.i64_in _ (by omega)
  have hS := Lib.hid (show ∀ u1 u2 : World, (Hid (Below w0.heap.size w0 u1) ∧ Hid (Below w14.heap.size w14 u1)) → Below u1.heap.size u1 u2 → (u2.cell? ⟨w.heap.size, 0, none⟩ = some (.int .i64 P) ∧ u2.cell? ⟨w.heap.size, 1, none⟩ = some (.int .i64 Q) ∧ u2.cell? ⟨w.heap.size, 2, none⟩ = some (.int .i64 G) ∧ u2.cell? ⟨w13.heap.size, 0, none⟩ = some (.slice (some ⟨gA, 0, none⟩) 1 1) ∧ u2.cell? ⟨w13.heap.size, 1, none⟩ = some (.int .i64 V) ∧ u2.cell? ⟨w13.heap.size, 2, none⟩ = some (.slice (some ⟨gZ, 0, none⟩) 1 1) ∧ u2.cell? ⟨gZ, 0, none⟩ = some (.int .i64 z2) ∧ Hid (Below w0.heap.size w0 u2) ∧ Hid (Below w14.heap.size w14 u2)) from fun u1 u2 h1 h2 => by
    obtain ⟨q0, q1⟩ := h1
    have r0 := Lib.hid (below_ext q0.out h2)
    have r1 := Lib.hid (below_ext q1.out h2)
    obtain ⟨y0, y1, y2⟩ := kC.out _ r0
    obtain ⟨kS_0, kS_1, kS_2⟩ := kS.out _ r1
    have yz := (kZ5.out _ r1).out 0 (by simp)
    exact ⟨y0, y1, y2, kS_0, kS_1, kS_2, yz, r0, r1⟩)
  have HR := Lib.hid (show Hid (Below w0.heap.size w0 w16.drew) ∧ Hid (Below w14.heap.size w14 w16.drew) from ⟨Lib.hid (below_ext HB_16.out (Below.refl _ _).drew), Lib.hid (below_ext HB_w14_16.out (Below.refl _ _).drew)⟩)
  clear qz
  clear zc0 zc1 zc2 kS_0 kS_1 kS_2
  refine wp_region_T (S := fun w' => w'.cell? ⟨w.heap.size, 0, none⟩ = some (.int .i64 P) ∧ w'.cell? ⟨w.heap.size, 1, none⟩ = some (.int .i64 Q) ∧ w'.cell? ⟨w.heap.size, 2, none⟩ = some (.int .i64 G) ∧ w'.cell? ⟨w13.heap.size, 0, none⟩ = some (.slice (some ⟨gA, 0, none⟩) 1 1) ∧ w'.cell? ⟨w13.heap.size, 1, none⟩ = some (.int .i64 V) ∧ w'.cell? ⟨w13.heap.size, 2, none⟩ = some (.slice (some ⟨gZ, 0, none⟩) 1 1) ∧ w'.cell? ⟨gZ, 0, none⟩ = some (.int .i64 z2) ∧ Hid (Below w0.heap.size w0 w') ∧ Hid (Below w14.heap.size w14 w')) (E := [15]) (by kernel_rfl) (hS.out _ _ HR.out (Below.refl _ _)) (fun hHeld => ?_)
  obtain ⟨wD, hwD⟩ : ∃ u, w16.drew = u := ⟨_, rfl⟩
  rw [hwD] at HR hHeld ⊢
  clear hwD
  refine wpT_take (i := 0) (oi := _) (v := ?_) rfl (by kernel_rfl) (by kernel_rfl) (by kernel_rfl) (by kernel_rfl) (fun _ _ _ h => h) (Or.inl ⟨by rfl, ?_⟩) (by assumption) ?_
  rotate_left; (intro wS hSw; (try dsimp only at hSw); go_simp <;> with_reducible rfl)
  try simp only [List.getElem_toArray, List.getElem_cons_zero, List.getElem_cons_succ, Act.put, List.setIfInBounds_toArray, List.set_cons_zero, List.set_cons_succ]
  refine wpT_take (i := 1) (oi := _) (v := ?_) rfl (by kernel_rfl) (by kernel_rfl) (by kernel_rfl) (by kernel_rfl) (fun _ _ _ h => h) (Or.inl ⟨by rfl, ?_⟩) (by assumption) ?_
  rotate_left; (intro wS hSw; (try dsimp only at hSw); go_simp <;> with_reducible rfl)
  try simp only [List.getElem_toArray, List.getElem_cons_zero, List.getElem_cons_succ, Act.put, List.setIfInBounds_toArray, List.set_cons_zero, List.set_cons_succ]
  refine wpT_take (i := 2) (oi := _) (v := ?_) rfl (by kernel_rfl) (by kernel_rfl) (by kernel_rfl) (by kernel_rfl) (fun _ _ _ h => h) (Or.inl ⟨by rfl, ?_⟩) (by assumption) ?_
  rotate_left; (intro wS hSw; (try dsimp only at hSw); go_simp <;> with_reducible rfl)
  try simp only [List.getElem_toArray, List.getElem_cons_zero, List.getElem_cons_succ, Act.put, List.setIfInBounds_toArray, List.set_cons_zero, List.set_cons_succ]
  refine wpT_take (i := 3) (oi := _) (v := ?_) rfl (by kernel_rfl) (by kernel_rfl) (by kernel_rfl) (by kernel_rfl) (fun _ _ _ h => h) (Or.inl ⟨by rfl, ?_⟩) (by assumption) ?_
  rotate_left; (intro wS hSw; (try dsimp only at hSw); go_simp <;> with_reducible rfl)
  try simp only [List.getElem_toArray, List.getElem_cons_zero, List.getElem_cons_succ, Act.put, List.setIfInBounds_toArray, List.set_cons_zero, List.set_cons_succ]
  refine wpT_take (i := 4) (oi := _) (v := ?_) rfl (by kernel_rfl) (by kernel_rfl) (by kernel_rfl) (by kernel_rfl) (fun _ _ _ h => h) (Or.inl ⟨by rfl, ?_⟩) (by assumption) ?_
  rotate_left; (intro wS hSw; (try dsimp only at hSw); go_simp <;> with_reducible rfl)
  try simp only [List.getElem_toArray, List.getElem_cons_zero, List.getElem_cons_succ, Act.put, List.setIfInBounds_toArray, List.set_cons_zero, List.set_cons_succ]
  refine wpT_take (i := 5) (oi := _) (v := ?_) rfl (by kernel_rfl) (by kernel_rfl) (by kernel_rfl) (by kernel_rfl) (fun _ _ _ h => h) (Or.inl ⟨by rfl, ?_⟩) (by assumption) ?_
  rotate_left; (intro wS hSw; (try dsimp only at hSw); go_simp <;> with_reducible rfl)
  try simp only [List.getElem_toArray, List.getElem_cons_zero, List.getElem_cons_succ, Act.put, List.setIfInBounds_toArray, List.set_cons_zero, List.set_cons_succ]
  refine wpT_take (i := 6) (oi := _) (v := ?_) rfl (by kernel_rfl) (by kernel_rfl) (by kernel_rfl) (by kernel_rfl) (fun _ _ _ h => h) (Or.inl ⟨by rfl, ?_⟩) (by assumption) ?_
  rotate_left; (intro wS hSw; (try dsimp only at hSw); go_simp <;> with_reducible rfl)
  try simp only [List.getElem_toArray, List.getElem_cons_zero, List.getElem_cons_succ, Act.put, List.setIfInBounds_toArray, List.set_cons_zero, List.set_cons_succ]
  refine wpT_take (i := 7) (oi := _) (v := ?_) rfl (by kernel_rfl) (by kernel_rfl) (by kernel_rfl) (by kernel_rfl) (fun _ _ _ h => h) (Or.inl ⟨by rfl, ?_⟩) (by assumption) ?_
  rotate_left; (intro wS hSw; (try dsimp only at hSw); go_simp <;> with_reducible rfl)
  try simp only [List.getElem_toArray, List.getElem_cons_zero, List.getElem_cons_succ, Act.put, List.setIfInBounds_toArray, List.set_cons_zero, List.set_cons_succ]
  refine wpT_take (i := 8) (oi := _) (v := ?_) rfl (by kernel_rfl) (by kernel_rfl) (by kernel_rfl) (by kernel_rfl) (fun _ _ _ h => h) (Or.inl ⟨by rfl, ?_⟩) (by assumption) ?_
  rotate_left; (intro wS hSw; (try dsimp only at hSw); go_simp <;> with_reducible rfl)
  try simp only [List.getElem_toArray, List.getElem_cons_zero, List.getElem_cons_succ, Act.put, List.setIfInBounds_toArray, List.set_cons_zero, List.set_cons_succ]
  refine wpT_take (i := 9) (oi := _) (v := ?_) rfl (by kernel_rfl) (by kernel_rfl) (by kernel_rfl) (by kernel_rfl) (fun _ _ _ h => h) (Or.inl ⟨by rfl, ?_⟩) (by assumption) ?_
  rotate_left; (intro wS hSw; (try dsimp only at hSw); go_simp <;> with_reducible rfl)
  try simp only [List.getElem_toArray, List.getElem_cons_zero, List.getElem_cons_succ, Act.put, List.setIfInBounds_toArray, List.set_cons_zero, List.set_cons_succ]
  refine wpT_take (i := 10) (oi := _) (v := ?_) rfl (by kernel_rfl) (by kernel_rfl) (by kernel_rfl) (by kernel_rfl) (fun _ _ _ h => h) (Or.inl ⟨by rfl, ?_⟩) (by assumption) ?_
  rotate_left; (intro wS hSw; (try dsimp only at hSw); go_simp <;> with_reducible rfl)
  try simp only [List.getElem_toArray, List.getElem_cons_zero, List.getElem_cons_succ, Act.put, List.setIfInBounds_toArray, List.set_cons_zero, List.set_cons_succ]
  refine wpT_take (i := 11) (oi := _) (v := ?_) rfl (by kernel_rfl) (by kernel_rfl) (by kernel_rfl) (by kernel_rfl) (fun _ _ _ h => h) (Or.inl ⟨by rfl, ?_⟩) (by assumption) ?_
  rotate_left; (intro wS hSw; (try dsimp only at hSw); go_simp <;> with_reducible rfl)
  try simp only [List.getElem_toArray, List.getElem_cons_zero, List.getElem_cons_succ, Act.put, List.setIfInBounds_toArray, List.set_cons_zero, List.set_cons_succ]
  refine wpT_two (i1 := 12) (i2 := 14) (by kernel_rfl) rfl rfl (fun K hK => ?_) (fun K hK => ?_)
  · skip
    go_simp
    refine hK.out _ _ ?_ (fun hHeld => ?_)
    · exact hS.out _ _ HR.out (below_box0 wD (.cells #[.int .i64 z3] 3))
    clear hK K
    try simp only [List.getElem_toArray, List.getElem_cons_zero, List.getElem_cons_succ, Act.put, List.setIfInBounds_toArray, List.set_cons_zero, List.set_cons_succ]
    refine wpT_take (i := 13) (oi := _) (v := ?_) rfl (by kernel_rfl) (by kernel_rfl) (by kernel_rfl) (by kernel_rfl) (fun _ _ _ h => h) (Or.inl ⟨by rfl, ?_⟩) (by assumption) ?_
    rotate_left; (intro wS hSw; (try dsimp only at hSw); go_simp <;> with_reducible rfl)
    try simp only [List.getElem_toArray, List.getElem_cons_zero, List.getElem_cons_succ, Act.put, List.setIfInBounds_toArray, List.set_cons_zero, List.set_cons_succ]
    refine wpT_one (i := 14) (by kernel_rfl) rfl (fun K hK => ?_)
    go_simp
    refine hK.out _ _ ?_ (fun hHeld => ?_)
    · exact hS.out _ _ HR.out (below_ext (below_box0 wD (.cells #[.int .i64 z3] 3)) (below_box0 (wD.alloc (.cells #[.int .i64 z3] 3)) (.cells #[.slice none 0 0, .int .i64 0, .slice none 0 0] 32)))
    clear hK K
    try simp only [List.getElem_toArray, List.getElem_cons_zero, List.getElem_cons_succ, Act.put, List.setIfInBounds_toArray, List.set_cons_zero, List.set_cons_succ]
    have HPz : Hid (QBlk ((wD.alloc (.cells #[.int .i64 z3] 3)).alloc (.cells #[.slice none 0 0, .int .i64 0, .slice none 0 0] 32)) (wD.heap.size + 1) (.slice none 0 0) (.int .i64 0) (.slice none 0 0)) := Lib.hid (heap_alloc2_new _ _ _)
    refine wpT_pass (i := 15) (by kernel_rfl) (by simp) rfl (fun K hK => ?_)
    rw [show (if Region.wanted _ _ = true then _ else _ : Prop) = _ from if_pos rfl]
    refine wp_store_row 32 _ _ rfl (wD.heap.size + 1) #[.slice (some ⟨gA, 0, none⟩) 1 1, .int .i64 V, .slice (some ⟨wD.heap.size, 0, none⟩) 1 1] rfl rfl 32 _ HPz.out infoP rfl (by simp [Value.oneCell']) ?_
    refine hK.out _ _ ?_
    clear hK K
    try simp only [List.getElem_toArray, List.getElem_cons_zero, List.getElem_cons_succ, Act.put, List.setIfInBounds_toArray, List.set_cons_zero, List.set_cons_succ]
    refine wpT_done (by kernel_rfl) ?_ _
    have HZw : Hid (Cells (((wD.alloc (.cells #[.int .i64 z3] 3)).alloc (.cells #[.slice none 0 0, .int .i64 0, .slice none 0 0] 32)).setRow (wD.heap.size + 1) #[.slice (some ⟨gA, 0, none⟩) 1 1, .int .i64 V, .slice (some ⟨wD.heap.size, 0, none⟩) 1 1]) (wD.heap.size) [z3]) := Lib.hid (cells_far (w := ((wD.alloc (.cells #[.int .i64 z3] 3)).alloc (.cells #[.slice none 0 0, .int .i64 0, .slice none 0 0] 32))) ((cells1 wD 3 z3).below (below_box0 _ _)) (setRow_other _ _ _ _ (by omega)))
    have HPw : Hid (QBlk (((wD.alloc (.cells #[.int .i64 z3] 3)).alloc (.cells #[.slice none 0 0, .int .i64 0, .slice none 0 0] 32)).setRow (wD.heap.size + 1) #[.slice (some ⟨gA, 0, none⟩) 1 1, .int .i64 V, .slice (some ⟨wD.heap.size, 0, none⟩) 1 1]) (wD.heap.size + 1) (.slice (some ⟨gA, 0, none⟩) 1 1) (.int .i64 V) (.slice (some ⟨wD.heap.size, 0, none⟩) 1 1)) := Lib.hid HPz.out.setRow
    have hq : Below wD.heap.size wD (((wD.alloc (.cells #[.int .i64 z3] 3)).alloc (.cells #[.slice none 0 0, .int .i64 0, .slice none 0 0] 32)).setRow (wD.heap.size + 1) #[.slice (some ⟨gA, 0, none⟩) 1 1, .int .i64 V, .slice (some ⟨wD.heap.size, 0, none⟩) 1 1]) := below_setRow' (below_two (Below.refl _ _)) (by omega)
    have HE0 := Lib.hid (below_ext (HR.out.1).out hq)
    have HE1 := Lib.hid (below_ext (HR.out.2).out hq)
    obtain ⟨wE, hwE⟩ : ∃ u, (((wD.alloc (.cells #[.int .i64 z3] 3)).alloc (.cells #[.slice none 0 0, .int .i64 0, .slice none 0 0] 32)).setRow (wD.heap.size + 1) #[.slice (some ⟨gA, 0, none⟩) 1 1, .int .i64 V, .slice (some ⟨wD.heap.size, 0, none⟩) 1 1]) = u := ⟨_, rfl⟩
    rw [hwE] at HZw HPw HE0 HE1 ⊢
    clear hwE hq HPz hS HR hHeld
    have HB_wE_17 : Hid (Below wE.heap.size wE wE) := Lib.hid (Below.refl _ _)
    have kW := Lib.hid (show ∀ u : World, Hid (Below wE.heap.size wE u) → u.cell? ⟨wD.heap.size + 1, 0, none⟩ = some (.slice (some ⟨gA, 0, none⟩) 1 1) ∧ u.cell? ⟨wD.heap.size + 1, 1, none⟩ = some (.int .i64 V) ∧ u.cell? ⟨wD.heap.size + 1, 2, none⟩ = some (.slice (some ⟨wD.heap.size, 0, none⟩) 1 1) from fun u hh => ⟨cell_below HPw.out.cells.1.1 hh.out, cell_below HPw.out.cells.1.2.1 hh.out, cell_below HPw.out.cells.1.2.2 hh.out⟩)
    have kZw := Lib.hid (show ∀ u : World, Hid (Below wE.heap.size wE u) → Hid (Cells u (wD.heap.size) [z3]) from fun u h => Lib.hid (HZw.out.below h.out))
    have kOA := Lib.hid (show ∀ u : World, Hid (Below w14.heap.size w14 u) → Hid (One u (some ⟨gA, 0, none⟩) 1 a2) from fun u h => Lib.hid (fun _ => ⟨_, _, rfl, ((HA5.out.below (below_ext HQW h.out)) 0 (by simp))⟩))
    obtain ⟨zc0, zc1, zc2⟩ := kC.out _ HE0
    obtain ⟨kS_0, kS_1, kS_2⟩ := kS.out _ HE1
    obtain ⟨kW_0, kW_1, kW_2⟩ := kW.out _ HB_wE_17
    go_wp2_with fail
    refine (check_any16 P Q G b y (some ⟨gA, 0, none⟩) 1 1 a2 V (some ⟨wD.heap.size, 0, none⟩) 1 1 z3 false HWR hQ _ (kV.out _ HE0) (kOA.out _ HE1) (Lib.hid (fun _ => ⟨_, _, rfl, ((kZw.out _ HB_wE_17)).out 0 (by simp)⟩))).mono ?_
    rintro e w18 ⟨rfl, hb0⟩
    have HB_18 := Lib.hid (below_ext HE0.out hb0)
    have HB_w14_18 := Lib.hid (below_ext HE1.out hb0)
    have HB_wE_18 := Lib.hid (below_ext HB_wE_17.out hb0)
    clear zc0 zc1 zc2 kS_0 kS_1 kS_2 kW_0 kW_1 kW_2
    clear hb0
    obtain ⟨zc0, zc1, zc2⟩ := kC.out _ HB_18
    obtain ⟨kS_0, kS_1, kS_2⟩ := kS.out _ HB_w14_18
    obtain ⟨kW_0, kW_1, kW_2⟩ := kW.out _ HB_wE_18
    go_wp2_with fail
    refine (kver_any P Q G b y (some ⟨gA, 0, none⟩) [a2] 1 1 V (some ⟨wD.heap.size, 0, none⟩) [z3] 1 1 (Lib.hid rfl) (Lib.hid rfl) hQ s (by omega) false HVW _ (kV.out _ HB_18) (kD.out _ HB_18) (Lib.hid (sl_of_cells ((kA5.out _ HB_w14_18)).out)) (Lib.hid (sl_of_cells ((kZw.out _ HB_wE_18)).out))).mono ?_
    rintro e w19 ⟨rfl, hb0⟩
    have HB_19 := Lib.hid (below_ext HB_18.out hb0)
    have HB_w14_19 := Lib.hid (below_ext HB_w14_18.out hb0)
    have HB_wE_19 := Lib.hid (below_ext HB_wE_18.out hb0)
    clear zc0 zc1 zc2 kS_0 kS_1 kS_2 kW_0 kW_1 kW_2
    clear hb0
    obtain ⟨zc0, zc1, zc2⟩ := kC.out _ HB_19
    obtain ⟨kS_0, kS_1, kS_2⟩ := kS.out _ HB_w14_19
    obtain ⟨kW_0, kW_1, kW_2⟩ := kW.out _ HB_wE_19
    have hbF := below_ext HBw.out HB_19.out
    go_wp2
    go_ret
    exact ⟨rfl, hbF⟩
  · skip
    go_simp
    refine hK.out _ _ ?_ (fun hHeld => ?_)
    · exact hS.out _ _ HR.out (below_box0 wD (.cells #[.slice none 0 0, .int .i64 0, .slice none 0 0] 32))
    clear hK K
    try simp only [List.getElem_toArray, List.getElem_cons_zero, List.getElem_cons_succ, Act.put, List.setIfInBounds_toArray, List.set_cons_zero, List.set_cons_succ]
    refine wpT_one (i := 12) (by kernel_rfl) rfl (fun K hK => ?_)
    go_simp
    refine hK.out _ _ ?_ (fun hHeld => ?_)
    · exact hS.out _ _ HR.out (below_ext (below_box0 wD (.cells #[.slice none 0 0, .int .i64 0, .slice none 0 0] 32)) (below_box0 (wD.alloc (.cells #[.slice none 0 0, .int .i64 0, .slice none 0 0] 32)) (.cells #[.int .i64 z3] 3)))
    clear hK K
    try simp only [List.getElem_toArray, List.getElem_cons_zero, List.getElem_cons_succ, Act.put, List.setIfInBounds_toArray, List.set_cons_zero, List.set_cons_succ]
    refine wpT_take (i := 13) (oi := _) (v := ?_) rfl (by kernel_rfl) (by kernel_rfl) (by kernel_rfl) (by kernel_rfl) (fun _ _ _ h => h) (Or.inl ⟨by rfl, ?_⟩) (by assumption) ?_
    rotate_left; (intro wS hSw; (try dsimp only at hSw); go_simp <;> with_reducible rfl)
    try simp only [List.getElem_toArray, List.getElem_cons_zero, List.getElem_cons_succ, Act.put, List.setIfInBounds_toArray, List.set_cons_zero, List.set_cons_succ]
    have HPz : Hid (QBlk ((wD.alloc (.cells #[.slice none 0 0, .int .i64 0, .slice none 0 0] 32)).alloc (.cells #[.int .i64 z3] 3)) (wD.heap.size) (.slice none 0 0) (.int .i64 0) (.slice none 0 0)) := Lib.hid (heap_alloc2_old _ _ _)
    refine wpT_pass (i := 15) (by kernel_rfl) (by simp) rfl (fun K hK => ?_)
    rw [show (if Region.wanted _ _ = true then _ else _ : Prop) = _ from if_pos rfl]
    refine wp_store_row 32 _ _ rfl (wD.heap.size) #[.slice (some ⟨gA, 0, none⟩) 1 1, .int .i64 V, .slice (some ⟨wD.heap.size + 1, 0, none⟩) 1 1] rfl rfl 32 _ HPz.out infoP rfl (by simp [Value.oneCell']) ?_
    refine hK.out _ _ ?_
    clear hK K
    try simp only [List.getElem_toArray, List.getElem_cons_zero, List.getElem_cons_succ, Act.put, List.setIfInBounds_toArray, List.set_cons_zero, List.set_cons_succ]
    refine wpT_done (by kernel_rfl) ?_ _
    have HZw : Hid (Cells (((wD.alloc (.cells #[.slice none 0 0, .int .i64 0, .slice none 0 0] 32)).alloc (.cells #[.int .i64 z3] 3)).setRow (wD.heap.size) #[.slice (some ⟨gA, 0, none⟩) 1 1, .int .i64 V, .slice (some ⟨wD.heap.size + 1, 0, none⟩) 1 1]) (wD.heap.size + 1) [z3]) := Lib.hid (cells_far (w := ((wD.alloc (.cells #[.slice none 0 0, .int .i64 0, .slice none 0 0] 32)).alloc (.cells #[.int .i64 z3] 3))) (cells1' wD (.cells #[.slice none 0 0, .int .i64 0, .slice none 0 0] 32) 3 z3) (setRow_other _ _ _ _ (by omega)))
    have HPw : Hid (QBlk (((wD.alloc (.cells #[.slice none 0 0, .int .i64 0, .slice none 0 0] 32)).alloc (.cells #[.int .i64 z3] 3)).setRow (wD.heap.size) #[.slice (some ⟨gA, 0, none⟩) 1 1, .int .i64 V, .slice (some ⟨wD.heap.size + 1, 0, none⟩) 1 1]) (wD.heap.size) (.slice (some ⟨gA, 0, none⟩) 1 1) (.int .i64 V) (.slice (some ⟨wD.heap.size + 1, 0, none⟩) 1 1)) := Lib.hid HPz.out.setRow
    have hq : Below wD.heap.size wD (((wD.alloc (.cells #[.slice none 0 0, .int .i64 0, .slice none 0 0] 32)).alloc (.cells #[.int .i64 z3] 3)).setRow (wD.heap.size) #[.slice (some ⟨gA, 0, none⟩) 1 1, .int .i64 V, .slice (some ⟨wD.heap.size + 1, 0, none⟩) 1 1]) := below_setRow' (below_two (Below.refl _ _)) (by omega)
    have HE0 := Lib.hid (below_ext (HR.out.1).out hq)
    have HE1 := Lib.hid (below_ext (HR.out.2).out hq)
    obtain ⟨wE, hwE⟩ : ∃ u, (((wD.alloc (.cells #[.slice none 0 0, .int .i64 0, .slice none 0 0] 32)).alloc (.cells #[.int .i64 z3] 3)).setRow (wD.heap.size) #[.slice (some ⟨gA, 0, none⟩) 1 1, .int .i64 V, .slice (some ⟨wD.heap.size + 1, 0, none⟩) 1 1]) = u := ⟨_, rfl⟩
    rw [hwE] at HZw HPw HE0 HE1 ⊢
    clear hwE hq HPz hS HR hHeld
    have HB_wE_17 : Hid (Below wE.heap.size wE wE) := Lib.hid (Below.refl _ _)
    have kW := Lib.hid (show ∀ u : World, Hid (Below wE.heap.size wE u) → u.cell? ⟨wD.heap.size, 0, none⟩ = some (.slice (some ⟨gA, 0, none⟩) 1 1) ∧ u.cell? ⟨wD.heap.size, 1, none⟩ = some (.int .i64 V) ∧ u.cell? ⟨wD.heap.size, 2, none⟩ = some (.slice (some ⟨wD.heap.size + 1, 0, none⟩) 1 1) from fun u hh => ⟨cell_below HPw.out.cells.1.1 hh.out, cell_below HPw.out.cells.1.2.1 hh.out, cell_below HPw.out.cells.1.2.2 hh.out⟩)
    have kZw := Lib.hid (show ∀ u : World, Hid (Below wE.heap.size wE u) → Hid (Cells u (wD.heap.size + 1) [z3]) from fun u h => Lib.hid (HZw.out.below h.out))
    have kOA := Lib.hid (show ∀ u : World, Hid (Below w14.heap.size w14 u) → Hid (One u (some ⟨gA, 0, none⟩) 1 a2) from fun u h => Lib.hid (fun _ => ⟨_, _, rfl, ((HA5.out.below (below_ext HQW h.out)) 0 (by simp))⟩))
    obtain ⟨zc0, zc1, zc2⟩ := kC.out _ HE0
    obtain ⟨kS_0, kS_1, kS_2⟩ := kS.out _ HE1
    obtain ⟨kW_0, kW_1, kW_2⟩ := kW.out _ HB_wE_17
    go_wp2_with fail
    refine (check_any16 P Q G b y (some ⟨gA, 0, none⟩) 1 1 a2 V (some ⟨wD.heap.size + 1, 0, none⟩) 1 1 z3 false HWR hQ _ (kV.out _ HE0) (kOA.out _ HE1) (Lib.hid (fun _ => ⟨_, _, rfl, ((kZw.out _ HB_wE_17)).out 0 (by simp)⟩))).mono ?_
    rintro e w18 ⟨rfl, hb0⟩
    have HB_18 := Lib.hid (below_ext HE0.out hb0)
    have HB_w14_18 := Lib.hid (below_ext HE1.out hb0)
    have HB_wE_18 := Lib.hid (below_ext HB_wE_17.out hb0)
    clear zc0 zc1 zc2 kS_0 kS_1 kS_2 kW_0 kW_1 kW_2
    clear hb0
    obtain ⟨zc0, zc1, zc2⟩ := kC.out _ HB_18
    obtain ⟨kS_0, kS_1, kS_2⟩ := kS.out _ HB_w14_18
    obtain ⟨kW_0, kW_1, kW_2⟩ := kW.out _ HB_wE_18
    go_wp2_with fail
    refine (kver_any P Q G b y (some ⟨gA, 0, none⟩) [a2] 1 1 V (some ⟨wD.heap.size + 1, 0, none⟩) [z3] 1 1 (Lib.hid rfl) (Lib.hid rfl) hQ s (by omega) false HVW _ (kV.out _ HB_18) (kD.out _ HB_18) (Lib.hid (sl_of_cells ((kA5.out _ HB_w14_18)).out)) (Lib.hid (sl_of_cells ((kZw.out _ HB_wE_18)).out))).mono ?_
    rintro e w19 ⟨rfl, hb0⟩
    have HB_19 := Lib.hid (below_ext HB_18.out hb0)
    have HB_w14_19 := Lib.hid (below_ext HB_w14_18.out hb0)
    have HB_wE_19 := Lib.hid (below_ext HB_wE_18.out hb0)
    clear zc0 zc1 zc2 kS_0 kS_1 kS_2 kW_0 kW_1 kW_2
    clear hb0
    obtain ⟨zc0, zc1, zc2⟩ := kC.out _ HB_19
    obtain ⟨kS_0, kS_1, kS_2⟩ := kS.out _ HB_w14_19
    obtain ⟨kW_0, kW_1, kW_2⟩ := kW.out _ HB_wE_19
    have hbF := below_ext HBw.out HB_19.out
    go_wp2
    go_ret
    exact ⟨rfl, hbF⟩
/-- THE LAW: true for every input. -/
theorem kc_true (P Q G b x k cc : Int) (s : ByteArray) (h : List Int) (c : Int) (hl : Hid (h.length = 32)) (hhb : Hid (bytesB h = true)) (hQ : Q < 9223372036854775808) (w : World) (hv : Hid (Vars w)) (hd : Hid (VarsD w)) :
    Calls Tryd.prog 6 #[gv P Q G, .int .i64 b, .int .i64 x, .int .i64 k, .int .i64 cc, .string s, .agg (tcs h c)] w fun e' w' => e' = .returned (.bool true) ∧ Below w.heap.size w w' := by
  by_cases hs : 100 < s.size
  · exact kc_s P Q G b x k cc s h c hl hhb hQ hs w hv hd
  have hs : s.size ≤ 100 := by omega
  cases hvg : validG P Q G with
  | false => exact kc_v P Q G b x k cc s h c hl hhb hQ hs (Lib.hid hvg) w hv hd
  | true =>
    cases hob : okB P Q b with
    | false => exact kc_b P Q G b x k cc s h c hl hhb hQ hs (Lib.hid hvg) (Lib.hid hob) w hv hd
    | true =>
      cases hex : expB Q x with
      | false => exact kc_x P Q G b x k cc s h c hl hhb hQ hs (Lib.hid hvg) (Lib.hid hob) (Lib.hid hex) w hv hd
      | true =>
        cases hek : expB Q k with
        | false => exact kc_k P Q G b x k cc s h c hl hhb hQ hs (Lib.hid hvg) (Lib.hid hob) (Lib.hid hex) (Lib.hid hek) w hv hd
        | true =>
          cases hec : expB Q cc with
          | false => exact kc_c P Q G b x k cc s h c hl hhb hQ hs (Lib.hid hvg) (Lib.hid hob) (Lib.hid hex) (Lib.hid hek) (Lib.hid hec) w hv hd
          | true =>
            cases hr : labB (bys s) with
            | false => exact kc_l P Q G b x k cc s h c hl hhb hQ hs (Lib.hid hvg) (Lib.hid hob) (Lib.hid hex) (Lib.hid hek) (Lib.hid hec) (Lib.hid hr) w hv hd
            | true =>
              cases hdr : drB c with
              | false => exact kc_d P Q G b x k cc s h c hl hhb hQ hs (Lib.hid hvg) (Lib.hid hob) (Lib.hid hex) (Lib.hid hek) (Lib.hid hec) (Lib.hid hr) (Lib.hid hdr) w hv hd
              | true =>
                obtain ⟨r, hN⟩ : ∃ r, numD h Q (maskD Q) 256 c 0 = r := ⟨_, rfl⟩
                obtain ⟨kk, rc, f⟩ := r
                obtain ⟨hp2, hp, hq3, hqp⟩ := validG_P hvg
                have hlo := numD_lo (h := h) (q := Q) (m := maskD Q) (by omega) 256 c 0 (Int.le_refl 0)
                rw [hN] at hlo
                have hc1 : c ≤ 1099511627776 := by simp [drB] at hdr; exact hdr.2
                cases f with
                | true => exact kc_f P Q G b x k cc s h c hl hhb hQ hs (Lib.hid hvg) (Lib.hid hob) (Lib.hid hex) (Lib.hid hek) (Lib.hid hec) (Lib.hid hr) (Lib.hid hdr) kk rc ⟨hN⟩ w hv hd
                | false => exact kc_o P Q G b x k cc s h c hl hhb hQ hs (Lib.hid hvg) (Lib.hid hob) (Lib.hid hex) (Lib.hid hek) (Lib.hid hec) (Lib.hid hr) (Lib.hid hdr) kk rc ⟨hN⟩ hlo.1 hlo.2 (numD_more hc1 hN) w hv hd
end Go.Proofs.YtdlhodbiaoafiaaDoor
