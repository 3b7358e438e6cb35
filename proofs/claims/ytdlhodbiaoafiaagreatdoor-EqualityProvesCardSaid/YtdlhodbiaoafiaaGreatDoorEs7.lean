/- Contracts and lemmas: EqM, EqH, RInv, EqI, EqJ, StrEq. -/
import Derived.Maps.OwnSet
import Derived.OwnWalk
import Derived.Laws.StructEq
import Derived.Test.YtdlhodbiaoafiaaGreatDoorEs6
namespace Go.Proofs.YtdlhodbiaoafiaaGreatDoor
open Go.RowKit SpM
set_option linter.unusedVariables false
set_option linter.unusedSimpArgs false
set_option maxRecDepth 100000
theorem eq_holds {P Q G a b x ya yb : Int} (h : chkG P Q G [a, b] = 0) (x0 : 0 ≤ x) (x1 : x < Q) (ha : pw a (x % Q) P = ya) (hb : pw b (x % Q) P = yb) :
    holdsB P Q G [ya, yb] (eqRows none none a b) [x] = true ∧ chkR P Q G [ya, yb] (eqRows none none a b) [x] [] = 0 ∧ chkG P Q G [a, ya, b, yb] = 0 := by
  obtain ⟨hv, hm⟩ := chkG_zero h
  simp only [List.all_cons, List.all_nil, Bool.and_true, Bool.and_eq_true] at hm
  obtain ⟨m1, m2⟩ := hm
  obtain ⟨p1, p2, p3, p4⟩ := validG_P hv
  have k0 : 0 ≤ x % Q := Int.emod_nonneg _ (by omega)
  have n1 : memG P Q ya = true := by rw [← ha]; exact mem_pw p1 (by omega) k0 m1
  have n2 : memG P Q yb = true := by rw [← hb]; exact mem_pw p1 (by omega) k0 m2
  have hx : scB Q x = true := by simp [scB]; omega
  have hV : validR P Q G [ya, yb] (eqRows none none a b) = true := by
    simp [validR, eqRows, rowN, rowB, hv, m1, m2, n1, n2]
  refine ⟨?_, ?_, chkG_ok hv (by simp [m1, m2, n1, n2])⟩
  · have ex : x % Q = x := Int.emod_eq_of_lt x0 x1
    rw [ex] at ha hb
    have l1 := memG_lo n1
    have u1 := memG_hi n1
    have l2 := memG_lo n2
    have u2 := memG_hi n2
    rw [holdsB, hV]
    simp [eqRows, rowN, hx, prodF, ha, hb]
    exact ⟨Int.emod_eq_of_lt (by omega) u1, Int.emod_eq_of_lt (by omega) u2⟩
  · rw [chkR, if_pos hV, if_pos (show [x].length = rowN (eqRows none none a b) from rfl)]
    simp [hx]
set_option maxHeartbeats 12800000 in
theorem eqp_f (P Q G a b x : Int) (s : ByteArray) (h : List Int) (c : Int) (hs : s.size ≤ 1000) (hl : Hid (h.length = 32)) (hQ : Q < 9223372036854775808) (hck : Hid (chkG P Q G [a, b] = 0)) (hhb : Hid (bytesB h = true)) (hdr : Hid (drB c = true)) (hr : Hid (labB (bys s) = true)) (x0 : 0 ≤ x) (x1 : x < Q) (ya yb : Int) (hya : Hid (pw a (x % Q) P = ya)) (hyb : Hid (pw b (x % Q) P = yb)) (HST : Hid ((stD h Q c 1).2 = true)) (w : World) (hv : Hid (Vars w)) (hd : Hid (VarsD w)) :
    Calls Tryz.prog 25 #[gv P Q G, .int .i64 a, .int .i64 b, .int .i64 x, .string s, .agg (tcs h c)] w fun e w' => e = .returned (PrvE (.agg #[.slice none 0 0, .int .i64 0, .slice none 0 0]) (zer 32) 0 5) ∧ Below w.heap.size w w' := by
  have dx0 : decide (x < 0) = false := by simp; omega
  have dx1 : decide (Q ≤ x) = false := by simp; omega
  obtain ⟨hho, hcr, hcy⟩ := eq_holds hck.out x0 x1 hya.out hyb.out
  obtain ⟨hvg, hmm⟩ := chkG_zero hck.out
  simp only [List.all_cons, List.all_nil, Bool.and_true, Bool.and_eq_true] at hmm
  have HA := Lib.hid (chkG_ok (xs := [a]) hvg (by simp [hmm.1]))
  have HB := Lib.hid (chkG_ok (xs := [b]) hvg (by simp [hmm.2]))
  have HHO := Lib.hid hho
  have HCR := Lib.hid hcr
  clear hho hcr hcy hvg hmm
  obtain ⟨W, hW⟩ : ∃ W, ((((w.alloc (gObj P Q G)).alloc (.cells (tcs h c) 56)).alloc (.cells #[.slice none 0 0, .int .i64 0, .slice none 0 0] 28)).alloc (.cells #[.int .u8 0, .int .u8 0, .int .u8 0, .int .u8 0, .int .u8 0, .int .u8 0, .int .u8 0, .int .u8 0, .int .u8 0, .int .u8 0, .int .u8 0, .int .u8 0, .int .u8 0, .int .u8 0, .int .u8 0, .int .u8 0, .int .u8 0, .int .u8 0, .int .u8 0, .int .u8 0, .int .u8 0, .int .u8 0, .int .u8 0, .int .u8 0, .int .u8 0, .int .u8 0, .int .u8 0, .int .u8 0, .int .u8 0, .int .u8 0, .int .u8 0, .int .u8 0, .int .i64 0] 56)) = W := ⟨_, rfl⟩
  have HI0 : Hid (PvK w P Q G h c W) := Lib.hid (by rw [← hW]; exact PvK.start w P Q G h c)
  have HV := Lib.hid (hv.out.below HI0.out.b)
  have HDV := Lib.hid (hd.out.below HI0.out.b)
  have HW := Lib.hid hW
  clear hW hv hd
  go_enter Tryz.func25, Tryz.ntmps25
  go_upto_region 1 with (fail)
  rw [HW.out]
  clear HW
  obtain ⟨g0, g1, g2⟩ := HI0.out.g
  have hq := below_box0 W (.cells #[.int .i64 a, .int .i64 b] 3)
  have HC := Lib.hid (cells2 W 3 a b)
  have HIa := Lib.hid (HI0.out.below hq)
  have HVa := Lib.hid (HV.out.below hq)
  have HBa := Lib.hid hq
  clear hq
  go_wp2_with fail
  refine (eqcheck_any P Q G W.heap.size [a, b] 2 2 (Lib.hid rfl) (by omega) 0 hck hQ _ HVa HC).mono ?_
  rintro e w1 ⟨rfl, hb1⟩
  have HI1 := Lib.hid (HIa.out.below hb1)
  have HB1 : Hid (Below W.heap.size W w1) := Lib.hid (below_ext HBa.out hb1)
  clear g0 g1 g2 hb1 HC HIa HVa HBa
  go_wp2_with ((with_reducible show wpList _ _ _ (⟨some 28, _, _, _, _, _⟩ :: _) _ _); refine wpList_load_row_g (by rfl) 56 _ rfl (w.heap.size + 1) rfl _ _ _ _ HI1.out.d Tryz.underlying56 rfl (dr_info hl.out) ?_)
  refine (dvalid_any h hl c true hdr _).mono ?_
  rintro e w2 ⟨rfl, hb2⟩
  have HI2 := Lib.hid (HI1.out.below hb2)
  have HB2 : Hid (Below W.heap.size W w2) := Lib.hid (below_ext HB1.out hb2)
  clear hb2
  go_wp2_with fail
  refine (eqright_any s hs true hr _).mono ?_
  rintro e w3 ⟨rfl, rfl⟩
  obtain ⟨g0, g1, g2⟩ := HI2.out.g
  go_wp2_with fail
  refine (gpow_ok P Q G a x ya HA hya (by omega) (by omega) _ (Lib.hid (HV.out.below HB2.out))).mono ?_
  rintro e w4 ⟨rfl, hb4⟩
  have HI4 := Lib.hid (HI2.out.below hb4)
  have HB4 : Hid (Below W.heap.size W w4) := Lib.hid (below_ext HB2.out hb4)
  clear hb4 g0 g1 g2
  obtain ⟨g0, g1, g2⟩ := HI4.out.g
  go_wp2_with fail
  refine (gpow_ok P Q G b x yb HB hyb (by omega) (by omega) _ (Lib.hid (HV.out.below HB4.out))).mono ?_
  rintro e w5 ⟨rfl, hb5⟩
  have HI5 := Lib.hid (HI4.out.below hb5)
  have HB5 : Hid (Below W.heap.size W w5) := Lib.hid (below_ext HB4.out hb5)
  clear hb5 g0 g1 g2
  have HId := Lib.hid (HI5.out.below (Below.refl _ _).drew)
  have HBd : Hid (Below W.heap.size W w5.drew) := Lib.hid (below_ext HB5.out (Below.refl _ _).drew)
  obtain ⟨g0, g1, g2⟩ := HI5.out.g
  go_wp2_with fail
  clear g0 g1 g2
  refine wp_region_T (S := fun w' => w'.cell? ⟨w.heap.size, 0, none⟩ = some (.int .i64 P) ∧ w'.cell? ⟨w.heap.size, 1, none⟩ = some (.int .i64 Q) ∧ w'.cell? ⟨w.heap.size, 2, none⟩ = some (.int .i64 G) ∧ w'.heap[w.heap.size + 1]? = some (.cells (tcs h c) 56 (0, 0))) (E := [15, 16]) (by kernel_rfl) (by exact ⟨HId.out.g.1, HId.out.g.2.1, HId.out.g.2.2, HId.out.d⟩) (fun hHeld => ?_)
  refine wpT_take (i := 0) (oi := _) (v := ?_) rfl (by kernel_rfl) (by kernel_rfl) (by kernel_rfl) (by kernel_rfl) (fun _ _ _ h => h) (Or.inl ⟨by rfl, ?_⟩) (by assumption) ?_
  rotate_left; (intro wS hSw; (try dsimp only at hSw); go_simp <;> with_reducible rfl)
  try simp only [List.getElem_toArray, List.getElem_cons_zero, List.getElem_cons_succ, Act.put, List.setIfInBounds_toArray, List.set_cons_zero, List.set_cons_succ]
  refine wpT_take (i := 1) (oi := _) (v := ?_) rfl (by kernel_rfl) (by kernel_rfl) (by kernel_rfl) (by kernel_rfl) (fun _ _ _ h => h) (Or.inl ⟨by rfl, ?_⟩) (by assumption) ?_
  rotate_left; (intro wS hSw; (try dsimp only at hSw); go_simp <;> with_reducible rfl)
  try simp only [List.getElem_toArray, List.getElem_cons_zero, List.getElem_cons_succ, Act.put, List.setIfInBounds_toArray, List.set_cons_zero, List.set_cons_succ]
  refine wpT_take (i := 2) (oi := _) (v := ?_) rfl (by kernel_rfl) (by kernel_rfl) (by kernel_rfl) (by kernel_rfl) (fun _ _ _ h => h) (Or.inl ⟨by rfl, ?_⟩) (by assumption) ?_
  rotate_left; (intro wS hSw; (try dsimp only at hSw); go_simp <;> with_reducible rfl)
  try simp only [List.getElem_toArray, List.getElem_cons_zero, List.getElem_cons_succ, Act.put, List.setIfInBounds_toArray, List.set_cons_zero, List.set_cons_succ]
  refine wpT_take (i := 3) (oi := _) (v := ?_) rfl (by kernel_rfl) (by kernel_rfl) (by kernel_rfl) (by kernel_rfl) (fun _ _ _ h => h) (Or.inl ⟨by rfl, ?_⟩) (by assumption) ?_
  rotate_left; (intro wS hSw; (try dsimp only at hSw); go_simp <;> with_reducible rfl)
  try simp only [List.getElem_toArray, List.getElem_cons_zero, List.getElem_cons_succ, Act.put, List.setIfInBounds_toArray, List.set_cons_zero, List.set_cons_succ]
  refine wpT_take (i := 4) (oi := _) (v := ?_) rfl (by kernel_rfl) (by kernel_rfl) (by kernel_rfl) (by kernel_rfl) (fun _ _ _ h => h) (Or.inl ⟨by rfl, ?_⟩) (by assumption) ?_
  rotate_left; (intro wS hSw; (try dsimp only at hSw); go_simp <;> with_reducible rfl)
  try simp only [List.getElem_toArray, List.getElem_cons_zero, List.getElem_cons_succ, Act.put, List.setIfInBounds_toArray, List.set_cons_zero, List.set_cons_succ]
  refine wpT_take (i := 6) (oi := _) (v := ?_) rfl (by kernel_rfl) (by kernel_rfl) (by kernel_rfl) (by kernel_rfl) (fun _ _ _ h => h) (Or.inl ⟨by rfl, ?_⟩) (by assumption) ?_
  rotate_left; (intro wS hSw; (try dsimp only at hSw); go_simp <;> with_reducible rfl)
  try simp only [List.getElem_toArray, List.getElem_cons_zero, List.getElem_cons_succ, Act.put, List.setIfInBounds_toArray, List.set_cons_zero, List.set_cons_succ]
  refine wpT_take (i := 8) (oi := _) (v := ?_) rfl (by kernel_rfl) (by kernel_rfl) (by kernel_rfl) (by kernel_rfl) (fun _ _ _ h => h) (Or.inl ⟨by rfl, ?_⟩) (by assumption) ?_
  rotate_left; (intro wS hSw; (try dsimp only at hSw); go_simp <;> with_reducible rfl)
  try simp only [List.getElem_toArray, List.getElem_cons_zero, List.getElem_cons_succ, Act.put, List.setIfInBounds_toArray, List.set_cons_zero, List.set_cons_succ]
  refine wpT_take (i := 9) (oi := _) (v := (.agg (tcs h c))) rfl (by kernel_rfl) (by kernel_rfl) (by kernel_rfl) (by kernel_rfl) (fun _ _ _ h => h) (Or.inl ⟨by rfl, yields_row 56 _ rfl (w.heap.size + 1) rfl _ _ _ _ (fun _ h => h.2.2.2) Tryz.underlying56 rfl (dr_info hl.out)⟩) (by assumption) ?_
  try simp only [List.getElem_toArray, List.getElem_cons_zero, List.getElem_cons_succ, Act.put, List.setIfInBounds_toArray, List.set_cons_zero, List.set_cons_succ]
  refine wpT_two (i1 := 5) (i2 := 7) (by kernel_rfl) rfl rfl (fun K hK => ?_) (fun K hK => ?_)
  · skip
    go_simp
    refine (erelation_any a ya b yb _).mono ?_
    intro e wB hR
    obtain ⟨Y, B, A1, B1, rfl, hY, hB, hbA⟩ := hR
    have HI6 := Lib.hid (HId.out.below hbA)
    have HB6 : Hid (Below W.heap.size W wB) := Lib.hid (below_ext HBd.out hbA)
    have HY6 := Lib.hid hY
    have HW6 := Lib.hid hB
    clear hbA hY hB
    refine hK.out _ _ ?_ (fun hHeld => ?_)
    · exact ⟨HI6.out.g.1, HI6.out.g.2.1, HI6.out.g.2.2, HI6.out.d⟩
    clear hK K
    try simp only [List.getElem_toArray, List.getElem_cons_zero, List.getElem_cons_succ, Act.put, List.setIfInBounds_toArray, List.set_cons_zero, List.set_cons_succ]
    refine wpT_one (i := 7) (by kernel_rfl) rfl (fun K hK => ?_)
    go_simp
    refine hK.out _ _ ?_ (fun hHeld => ?_)
    · have hz := HI6.out.below (below_box0 wB (.cells #[.int .i64 x] 3))
      exact ⟨hz.g.1, hz.g.2.1, hz.g.2.2, hz.d⟩
    clear hK K
    try simp only [List.getElem_toArray, List.getElem_cons_zero, List.getElem_cons_succ, Act.put, List.setIfInBounds_toArray, List.set_cons_zero, List.set_cons_succ]
    refine wpT_one (i := 10) (by kernel_rfl) rfl (fun K hK => ?_)
    go_simp
    have hq := below_box0 wB (.cells #[.int .i64 x] 3)
    have HI7 := Lib.hid (HI6.out.below hq)
    have HB7 : Hid (Below W.heap.size W (wB.alloc (.cells #[.int .i64 x] 3))) := Lib.hid (below_ext HB6.out hq)
    have HY7 := Lib.hid (HY6.out.below hq)
    have HW7 := Lib.hid (HW6.out.below hq)
    have HX7 := Lib.hid (sl_of_cells (cells1 wB 3 x))
    have adr : wB.heap.size = wB.heap.size := rfl
    clear hq
    refine (lprove_f P Q G Y [ya, yb] 2 2 B (eqRows A1 B1 a b) 2 2 (some ⟨wB.heap.size, 0, none⟩) [x] 1 1 s h c (Lib.hid rfl) (Lib.hid rfl) (Lib.hid rfl) (by omega) hs hl hQ hhb hr hdr HCR HHO HST _ (Lib.hid (HV.out.below HB7.out)) (Lib.hid (HDV.out.below HB7.out)) HY7 HW7 HX7).mono ?_
    rintro e wC ⟨rfl, hbC⟩
    rw [show PrvE (.agg #[.slice none 0 0, .int .i64 0, .slice none 0 0]) (zer 32) 0 5 = .tuple #[.agg #[.slice none 0 0, .int .i64 0, .slice none 0 0], .agg (tcs (zer 32) 0), .int .i64 5] from rfl]
    have HIc := Lib.hid (HI7.out.below hbC)
    clear hbC
    have HE15 : Hid (DBlk (wC.setRow (w.heap.size + 2) #[.slice none 0 0, .int .i64 0, .slice none 0 0]) (w.heap.size + 3) (zer 32) 0) := Lib.hid ((setRow_other _ _ _ _ (by omega)).trans HIc.out.e)
    have HPF : Hid (QBlk ((wC.setRow (w.heap.size + 2) #[.slice none 0 0, .int .i64 0, .slice none 0 0]).setRow (w.heap.size + 3) (tcs (zer 32) 0)) (w.heap.size + 2) (.slice none 0 0) (.int .i64 0) (.slice none 0 0)) := Lib.hid ((setRow_other _ _ _ _ (by omega)).trans HIc.out.p.setRow)
    have HDF : Hid (DBlk ((wC.setRow (w.heap.size + 2) #[.slice none 0 0, .int .i64 0, .slice none 0 0]).setRow (w.heap.size + 3) (tcs (zer 32) 0)) (w.heap.size + 3) (zer 32) 0) := Lib.hid HE15.out.setRow
    have HBF : Hid (Below w.heap.size w ((wC.setRow (w.heap.size + 2) #[.slice none 0 0, .int .i64 0, .slice none 0 0]).setRow (w.heap.size + 3) (tcs (zer 32) 0))) := Lib.hid (below_setRow' (below_setRow' HIc.out.b (by omega)) (by omega))
    refine hK.out _ _ ?_ (fun hHeld => ?_)
    · exact ⟨HIc.out.g.1, HIc.out.g.2.1, HIc.out.g.2.2, HIc.out.d⟩
    clear hK K
    try simp only [List.getElem_toArray, List.getElem_cons_zero, List.getElem_cons_succ, Act.put, List.setIfInBounds_toArray, List.set_cons_zero, List.set_cons_succ]
    refine wpT_take (i := 11) (oi := _) (v := ?_) rfl (by kernel_rfl) (by kernel_rfl) (by kernel_rfl) (by kernel_rfl) (fun _ _ _ h => h) (Or.inl ⟨by rfl, ?_⟩) (by assumption) ?_
    rotate_left; (intro wS hSw; (try dsimp only at hSw); go_simp <;> with_reducible rfl)
    try simp only [List.getElem_toArray, List.getElem_cons_zero, List.getElem_cons_succ, Act.put, List.setIfInBounds_toArray, List.set_cons_zero, List.set_cons_succ]
    refine wpT_take (i := 12) (oi := _) (v := ?_) rfl (by kernel_rfl) (by kernel_rfl) (by kernel_rfl) (by kernel_rfl) (fun _ _ _ h => h) (Or.inl ⟨by rfl, ?_⟩) (by assumption) ?_
    rotate_left; (intro wS hSw; (try dsimp only at hSw); go_simp <;> with_reducible rfl)
    try simp only [List.getElem_toArray, List.getElem_cons_zero, List.getElem_cons_succ, Act.put, List.setIfInBounds_toArray, List.set_cons_zero, List.set_cons_succ]
    refine wpT_take (i := 13) (oi := _) (v := ?_) rfl (by kernel_rfl) (by kernel_rfl) (by kernel_rfl) (by kernel_rfl) (fun _ _ _ h => h) (Or.inl ⟨by rfl, ?_⟩) (by assumption) ?_
    rotate_left; (intro wS hSw; (try dsimp only at hSw); go_simp <;> with_reducible rfl)
    try simp only [List.getElem_toArray, List.getElem_cons_zero, List.getElem_cons_succ, Act.put, List.setIfInBounds_toArray, List.set_cons_zero, List.set_cons_succ]
    refine wpT_one (i := 14) (by kernel_rfl) rfl (fun K hK => ?_)
    rw [show (if Region.wanted _ _ = true then _ else _ : Prop) = _ from if_pos rfl]
    refine wp_store_row 28 _ _ rfl (w.heap.size + 2) #[.slice none 0 0, .int .i64 0, .slice none 0 0] rfl rfl 28 _ HIc.out.p infoP rfl (by simp [Value.oneCell']) ?_
    refine hK.out _ _ ?_ (fun hHeld => ?_)
    · exact ⟨(cell_setRow_other _ _ _ _ (by simp)).trans HIc.out.g.1, (cell_setRow_other _ _ _ _ (by simp)).trans HIc.out.g.2.1, (cell_setRow_other _ _ _ _ (by simp)).trans HIc.out.g.2.2, (setRow_other _ _ _ _ (by omega)).trans HIc.out.d⟩
    clear hK K
    try simp only [List.getElem_toArray, List.getElem_cons_zero, List.getElem_cons_succ, Act.put, List.setIfInBounds_toArray, List.set_cons_zero, List.set_cons_succ]
    refine wpT_pass (i := 15) (by kernel_rfl) (by simp) rfl (fun K hK => ?_)
    rw [show (if Region.wanted _ _ = true then _ else _ : Prop) = _ from if_pos rfl]
    refine wp_store_row 56 _ _ rfl (w.heap.size + 3) (tcs (zer 32) 0) rfl rfl 56 _ HE15.out (dr_info rfl) (tcs_sz rfl rfl) (tcs_one _ _) ?_
    refine hK.out _ _ ?_
    clear hK K
    try simp only [List.getElem_toArray, List.getElem_cons_zero, List.getElem_cons_succ, Act.put, List.setIfInBounds_toArray, List.set_cons_zero, List.set_cons_succ]
    refine wpT_pass (i := 16) (by kernel_rfl) (by simp) rfl (fun K hK => ?_)
    go_simp
    refine hK.out _ _ ?_
    clear hK K
    try simp only [List.getElem_toArray, List.getElem_cons_zero, List.getElem_cons_succ, Act.put, List.setIfInBounds_toArray, List.set_cons_zero, List.set_cons_succ]
    refine wpT_done (by kernel_rfl) ?_ _
    go_wp2
    exact bodyPost_ret (v := PrvE (.agg #[.slice none 0 0, .int .i64 0, .slice none 0 0]) (zer 32) 0 5) (results_cell2_tmp (p := 12) (q := 13) (r := 14) (ty := 28) (ty2 := 56) rfl _ _ ⟨w.heap.size + 2, 0, none⟩ ⟨w.heap.size + 3, 0, none⟩ _ _ _ rfl rfl rfl (run_loadVar_row _ _ _ _ _ _ _ HPF.out Tryz.underlying28 rfl infoP) (run_loadVar_row _ _ _ _ _ _ _ HDF.out Tryz.underlying56 rfl (dr_info rfl))) rfl ⟨rfl, HBF.out⟩
  · skip
    go_simp
    refine hK.out _ _ ?_ (fun hHeld => ?_)
    · have hz := HId.out.below (below_box0 w5.drew (.cells #[.int .i64 x] 3))
      exact ⟨hz.g.1, hz.g.2.1, hz.g.2.2, hz.d⟩
    clear hK K
    try simp only [List.getElem_toArray, List.getElem_cons_zero, List.getElem_cons_succ, Act.put, List.setIfInBounds_toArray, List.set_cons_zero, List.set_cons_succ]
    refine wpT_one (i := 5) (by kernel_rfl) rfl (fun K hK => ?_)
    go_simp
    refine (erelation_any a ya b yb _).mono ?_
    intro e wB hR
    obtain ⟨Y, B, A1, B1, rfl, hY, hB, hbA⟩ := hR
    have HI6 := Lib.hid ((HId.out.below (below_box0 w5.drew (.cells #[.int .i64 x] 3))).below hbA)
    have HB6 : Hid (Below W.heap.size W wB) := Lib.hid (below_ext (below_ext HBd.out (below_box0 w5.drew (.cells #[.int .i64 x] 3))) hbA)
    have HY6 := Lib.hid hY
    have HW6 := Lib.hid hB
    have HX6 := Lib.hid ((sl_of_cells (cells1 w5.drew 3 x)).below hbA)
    clear hbA hY hB
    refine hK.out _ _ ?_ (fun hHeld => ?_)
    · exact ⟨HI6.out.g.1, HI6.out.g.2.1, HI6.out.g.2.2, HI6.out.d⟩
    clear hK K
    try simp only [List.getElem_toArray, List.getElem_cons_zero, List.getElem_cons_succ, Act.put, List.setIfInBounds_toArray, List.set_cons_zero, List.set_cons_succ]
    refine wpT_one (i := 10) (by kernel_rfl) rfl (fun K hK => ?_)
    go_simp
    have HI7 := HI6
    have HB7 := HB6
    have HY7 := HY6
    have HW7 := HW6
    have HX7 := HX6
    refine (lprove_f P Q G Y [ya, yb] 2 2 B (eqRows A1 B1 a b) 2 2 (some ⟨w5.drew.heap.size, 0, none⟩) [x] 1 1 s h c (Lib.hid rfl) (Lib.hid rfl) (Lib.hid rfl) (by omega) hs hl hQ hhb hr hdr HCR HHO HST _ (Lib.hid (HV.out.below HB7.out)) (Lib.hid (HDV.out.below HB7.out)) HY7 HW7 HX7).mono ?_
    rintro e wC ⟨rfl, hbC⟩
    rw [show PrvE (.agg #[.slice none 0 0, .int .i64 0, .slice none 0 0]) (zer 32) 0 5 = .tuple #[.agg #[.slice none 0 0, .int .i64 0, .slice none 0 0], .agg (tcs (zer 32) 0), .int .i64 5] from rfl]
    have HIc := Lib.hid (HI7.out.below hbC)
    clear hbC
    have HE15 : Hid (DBlk (wC.setRow (w.heap.size + 2) #[.slice none 0 0, .int .i64 0, .slice none 0 0]) (w.heap.size + 3) (zer 32) 0) := Lib.hid ((setRow_other _ _ _ _ (by omega)).trans HIc.out.e)
    have HPF : Hid (QBlk ((wC.setRow (w.heap.size + 2) #[.slice none 0 0, .int .i64 0, .slice none 0 0]).setRow (w.heap.size + 3) (tcs (zer 32) 0)) (w.heap.size + 2) (.slice none 0 0) (.int .i64 0) (.slice none 0 0)) := Lib.hid ((setRow_other _ _ _ _ (by omega)).trans HIc.out.p.setRow)
    have HDF : Hid (DBlk ((wC.setRow (w.heap.size + 2) #[.slice none 0 0, .int .i64 0, .slice none 0 0]).setRow (w.heap.size + 3) (tcs (zer 32) 0)) (w.heap.size + 3) (zer 32) 0) := Lib.hid HE15.out.setRow
    have HBF : Hid (Below w.heap.size w ((wC.setRow (w.heap.size + 2) #[.slice none 0 0, .int .i64 0, .slice none 0 0]).setRow (w.heap.size + 3) (tcs (zer 32) 0))) := Lib.hid (below_setRow' (below_setRow' HIc.out.b (by omega)) (by omega))
    refine hK.out _ _ ?_ (fun hHeld => ?_)
    · exact ⟨HIc.out.g.1, HIc.out.g.2.1, HIc.out.g.2.2, HIc.out.d⟩
    clear hK K
    try simp only [List.getElem_toArray, List.getElem_cons_zero, List.getElem_cons_succ, Act.put, List.setIfInBounds_toArray, List.set_cons_zero, List.set_cons_succ]
    refine wpT_take (i := 11) (oi := _) (v := ?_) rfl (by kernel_rfl) (by kernel_rfl) (by kernel_rfl) (by kernel_rfl) (fun _ _ _ h => h) (Or.inl ⟨by rfl, ?_⟩) (by assumption) ?_
    rotate_left; (intro wS hSw; (try dsimp only at hSw); go_simp <;> with_reducible rfl)
    try simp only [List.getElem_toArray, List.getElem_cons_zero, List.getElem_cons_succ, Act.put, List.setIfInBounds_toArray, List.set_cons_zero, List.set_cons_succ]
    refine wpT_take (i := 12) (oi := _) (v := ?_) rfl (by kernel_rfl) (by kernel_rfl) (by kernel_rfl) (by kernel_rfl) (fun _ _ _ h => h) (Or.inl ⟨by rfl, ?_⟩) (by assumption) ?_
    rotate_left; (intro wS hSw; (try dsimp only at hSw); go_simp <;> with_reducible rfl)
    try simp only [List.getElem_toArray, List.getElem_cons_zero, List.getElem_cons_succ, Act.put, List.setIfInBounds_toArray, List.set_cons_zero, List.set_cons_succ]
    refine wpT_take (i := 13) (oi := _) (v := ?_) rfl (by kernel_rfl) (by kernel_rfl) (by kernel_rfl) (by kernel_rfl) (fun _ _ _ h => h) (Or.inl ⟨by rfl, ?_⟩) (by assumption) ?_
    rotate_left; (intro wS hSw; (try dsimp only at hSw); go_simp <;> with_reducible rfl)
    try simp only [List.getElem_toArray, List.getElem_cons_zero, List.getElem_cons_succ, Act.put, List.setIfInBounds_toArray, List.set_cons_zero, List.set_cons_succ]
    refine wpT_one (i := 14) (by kernel_rfl) rfl (fun K hK => ?_)
    rw [show (if Region.wanted _ _ = true then _ else _ : Prop) = _ from if_pos rfl]
    refine wp_store_row 28 _ _ rfl (w.heap.size + 2) #[.slice none 0 0, .int .i64 0, .slice none 0 0] rfl rfl 28 _ HIc.out.p infoP rfl (by simp [Value.oneCell']) ?_
    refine hK.out _ _ ?_ (fun hHeld => ?_)
    · exact ⟨(cell_setRow_other _ _ _ _ (by simp)).trans HIc.out.g.1, (cell_setRow_other _ _ _ _ (by simp)).trans HIc.out.g.2.1, (cell_setRow_other _ _ _ _ (by simp)).trans HIc.out.g.2.2, (setRow_other _ _ _ _ (by omega)).trans HIc.out.d⟩
    clear hK K
    try simp only [List.getElem_toArray, List.getElem_cons_zero, List.getElem_cons_succ, Act.put, List.setIfInBounds_toArray, List.set_cons_zero, List.set_cons_succ]
    refine wpT_pass (i := 15) (by kernel_rfl) (by simp) rfl (fun K hK => ?_)
    rw [show (if Region.wanted _ _ = true then _ else _ : Prop) = _ from if_pos rfl]
    refine wp_store_row 56 _ _ rfl (w.heap.size + 3) (tcs (zer 32) 0) rfl rfl 56 _ HE15.out (dr_info rfl) (tcs_sz rfl rfl) (tcs_one _ _) ?_
    refine hK.out _ _ ?_
    clear hK K
    try simp only [List.getElem_toArray, List.getElem_cons_zero, List.getElem_cons_succ, Act.put, List.setIfInBounds_toArray, List.set_cons_zero, List.set_cons_succ]
    refine wpT_pass (i := 16) (by kernel_rfl) (by simp) rfl (fun K hK => ?_)
    go_simp
    refine hK.out _ _ ?_
    clear hK K
    try simp only [List.getElem_toArray, List.getElem_cons_zero, List.getElem_cons_succ, Act.put, List.setIfInBounds_toArray, List.set_cons_zero, List.set_cons_succ]
    refine wpT_done (by kernel_rfl) ?_ _
    go_wp2
    exact bodyPost_ret (v := PrvE (.agg #[.slice none 0 0, .int .i64 0, .slice none 0 0]) (zer 32) 0 5) (results_cell2_tmp (p := 12) (q := 13) (r := 14) (ty := 28) (ty2 := 56) rfl _ _ ⟨w.heap.size + 2, 0, none⟩ ⟨w.heap.size + 3, 0, none⟩ _ _ _ rfl rfl rfl (run_loadVar_row _ _ _ _ _ _ _ HPF.out Tryz.underlying28 rfl infoP) (run_loadVar_row _ _ _ _ _ _ _ HDF.out Tryz.underlying56 rfl (dr_info rfl))) rfl ⟨rfl, HBF.out⟩
set_option maxHeartbeats 12800000 in
theorem eqp_o (P Q G a b x : Int) (s : ByteArray) (h : List Int) (c : Int) (hs : s.size ≤ 1000) (hl : Hid (h.length = 32)) (hQ : Q < 9223372036854775808) (hck : Hid (chkG P Q G [a, b] = 0)) (hhb : Hid (bytesB h = true)) (hdr : Hid (drB c = true)) (hr : Hid (labB (bys s) = true)) (x0 : 0 ≤ x) (x1 : x < Q) (ya yb : Int) (hya : Hid (pw a (x % Q) P = ya)) (hyb : Hid (pw b (x % Q) P = yb)) (HST : Hid ((stD h Q c 1).2 = false)) (c2 : Int) (hc2 : Hid ((stD h Q c 1).1 = c2)) (ks : List Int) (hks : Hid (lstD h Q c 1 = ks)) (w : World) (hv : Hid (Vars w)) (hd : Hid (VarsD w)) :
    Calls Tryz.prog 25 #[gv P Q G, .int .i64 a, .int .i64 b, .int .i64 x, .string s, .agg (tcs h c)] w (ProvOut P Q G (bys s) [ya, yb] (eqRows none none a b) ks [x] 2 h c2 w) := by
  have dx0 : decide (x < 0) = false := by simp; omega
  have dx1 : decide (Q ≤ x) = false := by simp; omega
  obtain ⟨hho, hcr, hcy⟩ := eq_holds hck.out x0 x1 hya.out hyb.out
  obtain ⟨hvg, hmm⟩ := chkG_zero hck.out
  simp only [List.all_cons, List.all_nil, Bool.and_true, Bool.and_eq_true] at hmm
  have HA := Lib.hid (chkG_ok (xs := [a]) hvg (by simp [hmm.1]))
  have HB := Lib.hid (chkG_ok (xs := [b]) hvg (by simp [hmm.2]))
  have HHO := Lib.hid hho
  have HCR := Lib.hid hcr
  clear hho hcr hcy hvg hmm
  obtain ⟨W, hW⟩ : ∃ W, ((((w.alloc (gObj P Q G)).alloc (.cells (tcs h c) 56)).alloc (.cells #[.slice none 0 0, .int .i64 0, .slice none 0 0] 28)).alloc (.cells #[.int .u8 0, .int .u8 0, .int .u8 0, .int .u8 0, .int .u8 0, .int .u8 0, .int .u8 0, .int .u8 0, .int .u8 0, .int .u8 0, .int .u8 0, .int .u8 0, .int .u8 0, .int .u8 0, .int .u8 0, .int .u8 0, .int .u8 0, .int .u8 0, .int .u8 0, .int .u8 0, .int .u8 0, .int .u8 0, .int .u8 0, .int .u8 0, .int .u8 0, .int .u8 0, .int .u8 0, .int .u8 0, .int .u8 0, .int .u8 0, .int .u8 0, .int .u8 0, .int .i64 0] 56)) = W := ⟨_, rfl⟩
  have HI0 : Hid (PvK w P Q G h c W) := Lib.hid (by rw [← hW]; exact PvK.start w P Q G h c)
  have HV := Lib.hid (hv.out.below HI0.out.b)
  have HDV := Lib.hid (hd.out.below HI0.out.b)
  have HW := Lib.hid hW
  clear hW hv hd
  go_enter Tryz.func25, Tryz.ntmps25
  go_upto_region 1 with (fail)
  rw [HW.out]
  clear HW
  obtain ⟨g0, g1, g2⟩ := HI0.out.g
  have hq := below_box0 W (.cells #[.int .i64 a, .int .i64 b] 3)
  have HC := Lib.hid (cells2 W 3 a b)
  have HIa := Lib.hid (HI0.out.below hq)
  have HVa := Lib.hid (HV.out.below hq)
  have HBa := Lib.hid hq
  clear hq
  go_wp2_with fail
  refine (eqcheck_any P Q G W.heap.size [a, b] 2 2 (Lib.hid rfl) (by omega) 0 hck hQ _ HVa HC).mono ?_
  rintro e w1 ⟨rfl, hb1⟩
  have HI1 := Lib.hid (HIa.out.below hb1)
  have HB1 : Hid (Below W.heap.size W w1) := Lib.hid (below_ext HBa.out hb1)
  clear g0 g1 g2 hb1 HC HIa HVa HBa
  go_wp2_with ((with_reducible show wpList _ _ _ (⟨some 28, _, _, _, _, _⟩ :: _) _ _); refine wpList_load_row_g (by rfl) 56 _ rfl (w.heap.size + 1) rfl _ _ _ _ HI1.out.d Tryz.underlying56 rfl (dr_info hl.out) ?_)
  refine (dvalid_any h hl c true hdr _).mono ?_
  rintro e w2 ⟨rfl, hb2⟩
  have HI2 := Lib.hid (HI1.out.below hb2)
  have HB2 : Hid (Below W.heap.size W w2) := Lib.hid (below_ext HB1.out hb2)
  clear hb2
  go_wp2_with fail
  refine (eqright_any s hs true hr _).mono ?_
  rintro e w3 ⟨rfl, rfl⟩
  obtain ⟨g0, g1, g2⟩ := HI2.out.g
  go_wp2_with fail
  refine (gpow_ok P Q G a x ya HA hya (by omega) (by omega) _ (Lib.hid (HV.out.below HB2.out))).mono ?_
  rintro e w4 ⟨rfl, hb4⟩
  have HI4 := Lib.hid (HI2.out.below hb4)
  have HB4 : Hid (Below W.heap.size W w4) := Lib.hid (below_ext HB2.out hb4)
  clear hb4 g0 g1 g2
  obtain ⟨g0, g1, g2⟩ := HI4.out.g
  go_wp2_with fail
  refine (gpow_ok P Q G b x yb HB hyb (by omega) (by omega) _ (Lib.hid (HV.out.below HB4.out))).mono ?_
  rintro e w5 ⟨rfl, hb5⟩
  have HI5 := Lib.hid (HI4.out.below hb5)
  have HB5 : Hid (Below W.heap.size W w5) := Lib.hid (below_ext HB4.out hb5)
  clear hb5 g0 g1 g2
  have HId := Lib.hid (HI5.out.below (Below.refl _ _).drew)
  have HBd : Hid (Below W.heap.size W w5.drew) := Lib.hid (below_ext HB5.out (Below.refl _ _).drew)
  obtain ⟨g0, g1, g2⟩ := HI5.out.g
  go_wp2_with fail
  clear g0 g1 g2
  refine wp_region_T (S := fun w' => w'.cell? ⟨w.heap.size, 0, none⟩ = some (.int .i64 P) ∧ w'.cell? ⟨w.heap.size, 1, none⟩ = some (.int .i64 Q) ∧ w'.cell? ⟨w.heap.size, 2, none⟩ = some (.int .i64 G) ∧ w'.heap[w.heap.size + 1]? = some (.cells (tcs h c) 56 (0, 0))) (E := [15, 16]) (by kernel_rfl) (by exact ⟨HId.out.g.1, HId.out.g.2.1, HId.out.g.2.2, HId.out.d⟩) (fun hHeld => ?_)
  refine wpT_take (i := 0) (oi := _) (v := ?_) rfl (by kernel_rfl) (by kernel_rfl) (by kernel_rfl) (by kernel_rfl) (fun _ _ _ h => h) (Or.inl ⟨by rfl, ?_⟩) (by assumption) ?_
  rotate_left; (intro wS hSw; (try dsimp only at hSw); go_simp <;> with_reducible rfl)
  try simp only [List.getElem_toArray, List.getElem_cons_zero, List.getElem_cons_succ, Act.put, List.setIfInBounds_toArray, List.set_cons_zero, List.set_cons_succ]
  refine wpT_take (i := 1) (oi := _) (v := ?_) rfl (by kernel_rfl) (by kernel_rfl) (by kernel_rfl) (by kernel_rfl) (fun _ _ _ h => h) (Or.inl ⟨by rfl, ?_⟩) (by assumption) ?_
  rotate_left; (intro wS hSw; (try dsimp only at hSw); go_simp <;> with_reducible rfl)
  try simp only [List.getElem_toArray, List.getElem_cons_zero, List.getElem_cons_succ, Act.put, List.setIfInBounds_toArray, List.set_cons_zero, List.set_cons_succ]
  refine wpT_take (i := 2) (oi := _) (v := ?_) rfl (by kernel_rfl) (by kernel_rfl) (by kernel_rfl) (by kernel_rfl) (fun _ _ _ h => h) (Or.inl ⟨by rfl, ?_⟩) (by assumption) ?_
  rotate_left; (intro wS hSw; (try dsimp only at hSw); go_simp <;> with_reducible rfl)
  try simp only [List.getElem_toArray, List.getElem_cons_zero, List.getElem_cons_succ, Act.put, List.setIfInBounds_toArray, List.set_cons_zero, List.set_cons_succ]
  refine wpT_take (i := 3) (oi := _) (v := ?_) rfl (by kernel_rfl) (by kernel_rfl) (by kernel_rfl) (by kernel_rfl) (fun _ _ _ h => h) (Or.inl ⟨by rfl, ?_⟩) (by assumption) ?_
  rotate_left; (intro wS hSw; (try dsimp only at hSw); go_simp <;> with_reducible rfl)
  try simp only [List.getElem_toArray, List.getElem_cons_zero, List.getElem_cons_succ, Act.put, List.setIfInBounds_toArray, List.set_cons_zero, List.set_cons_succ]
  refine wpT_take (i := 4) (oi := _) (v := ?_) rfl (by kernel_rfl) (by kernel_rfl) (by kernel_rfl) (by kernel_rfl) (fun _ _ _ h => h) (Or.inl ⟨by rfl, ?_⟩) (by assumption) ?_
  rotate_left; (intro wS hSw; (try dsimp only at hSw); go_simp <;> with_reducible rfl)
  try simp only [List.getElem_toArray, List.getElem_cons_zero, List.getElem_cons_succ, Act.put, List.setIfInBounds_toArray, List.set_cons_zero, List.set_cons_succ]
  refine wpT_take (i := 6) (oi := _) (v := ?_) rfl (by kernel_rfl) (by kernel_rfl) (by kernel_rfl) (by kernel_rfl) (fun _ _ _ h => h) (Or.inl ⟨by rfl, ?_⟩) (by assumption) ?_
  rotate_left; (intro wS hSw; (try dsimp only at hSw); go_simp <;> with_reducible rfl)
  try simp only [List.getElem_toArray, List.getElem_cons_zero, List.getElem_cons_succ, Act.put, List.setIfInBounds_toArray, List.set_cons_zero, List.set_cons_succ]
  refine wpT_take (i := 8) (oi := _) (v := ?_) rfl (by kernel_rfl) (by kernel_rfl) (by kernel_rfl) (by kernel_rfl) (fun _ _ _ h => h) (Or.inl ⟨by rfl, ?_⟩) (by assumption) ?_
  rotate_left; (intro wS hSw; (try dsimp only at hSw); go_simp <;> with_reducible rfl)
  try simp only [List.getElem_toArray, List.getElem_cons_zero, List.getElem_cons_succ, Act.put, List.setIfInBounds_toArray, List.set_cons_zero, List.set_cons_succ]
  refine wpT_take (i := 9) (oi := _) (v := (.agg (tcs h c))) rfl (by kernel_rfl) (by kernel_rfl) (by kernel_rfl) (by kernel_rfl) (fun _ _ _ h => h) (Or.inl ⟨by rfl, yields_row 56 _ rfl (w.heap.size + 1) rfl _ _ _ _ (fun _ h => h.2.2.2) Tryz.underlying56 rfl (dr_info hl.out)⟩) (by assumption) ?_
  try simp only [List.getElem_toArray, List.getElem_cons_zero, List.getElem_cons_succ, Act.put, List.setIfInBounds_toArray, List.set_cons_zero, List.set_cons_succ]
  refine wpT_two (i1 := 5) (i2 := 7) (by kernel_rfl) rfl rfl (fun K hK => ?_) (fun K hK => ?_)
  · skip
    go_simp
    refine (erelation_any a ya b yb _).mono ?_
    intro e wB hR
    obtain ⟨Y, B, A1, B1, rfl, hY, hB, hbA⟩ := hR
    have HI6 := Lib.hid (HId.out.below hbA)
    have HB6 : Hid (Below W.heap.size W wB) := Lib.hid (below_ext HBd.out hbA)
    have HY6 := Lib.hid hY
    have HW6 := Lib.hid hB
    clear hbA hY hB
    refine hK.out _ _ ?_ (fun hHeld => ?_)
    · exact ⟨HI6.out.g.1, HI6.out.g.2.1, HI6.out.g.2.2, HI6.out.d⟩
    clear hK K
    try simp only [List.getElem_toArray, List.getElem_cons_zero, List.getElem_cons_succ, Act.put, List.setIfInBounds_toArray, List.set_cons_zero, List.set_cons_succ]
    refine wpT_one (i := 7) (by kernel_rfl) rfl (fun K hK => ?_)
    go_simp
    refine hK.out _ _ ?_ (fun hHeld => ?_)
    · have hz := HI6.out.below (below_box0 wB (.cells #[.int .i64 x] 3))
      exact ⟨hz.g.1, hz.g.2.1, hz.g.2.2, hz.d⟩
    clear hK K
    try simp only [List.getElem_toArray, List.getElem_cons_zero, List.getElem_cons_succ, Act.put, List.setIfInBounds_toArray, List.set_cons_zero, List.set_cons_succ]
    refine wpT_one (i := 10) (by kernel_rfl) rfl (fun K hK => ?_)
    go_simp
    have hq := below_box0 wB (.cells #[.int .i64 x] 3)
    have HI7 := Lib.hid (HI6.out.below hq)
    have HB7 : Hid (Below W.heap.size W (wB.alloc (.cells #[.int .i64 x] 3))) := Lib.hid (below_ext HB6.out hq)
    have HY7 := Lib.hid (HY6.out.below hq)
    have HW7 := Lib.hid (HW6.out.below hq)
    have HX7 := Lib.hid (sl_of_cells (cells1 wB 3 x))
    have adr : wB.heap.size = wB.heap.size := rfl
    clear hq
    refine (lprove_oF P Q G Y [ya, yb] 2 2 B (eqRows A1 B1 a b) 2 2 (some ⟨wB.heap.size, 0, none⟩) [x] 1 1 s h c (Lib.hid rfl) (Lib.hid rfl) (Lib.hid rfl) (by omega) hs hl hQ hhb hr hdr HCR HHO HST c2 hc2 ks hks _ (Lib.hid (HV.out.below HB7.out)) (Lib.hid (HDV.out.below HB7.out)) HY7 HW7 HX7).mono ?_
    intro e wC hP
    obtain ⟨gA, ca, gZ, cz, V, HVV, rfl, hgA, hgZ, hA8, hZ8, hbC⟩ := hP
    rw [show PrvE (.agg #[.slice (some ⟨gA, 0, none⟩) 2 ca, .int .i64 V, .slice (some ⟨gZ, 0, none⟩) (rowN (eqRows A1 B1 a b)) cz]) h c2 0 = .tuple #[.agg #[.slice (some ⟨gA, 0, none⟩) 2 ca, .int .i64 V, .slice (some ⟨gZ, 0, none⟩) 1 cz], .agg (tcs h c2), .int .i64 0] from rfl]
    have hz7 := HI7.out.z
    have HgA : Hid (w.heap.size + 4 ≤ gA) := Lib.hid (Nat.le_trans hz7 hgA)
    have HgZ : Hid (w.heap.size + 4 ≤ gZ) := Lib.hid (Nat.le_trans hz7 hgZ)
    have HA8 := Lib.hid hA8
    have HZ8 := Lib.hid hZ8
    have HV8 := HVV
    clear hgA hgZ hA8 hZ8 hz7 HVV
    have HIc := Lib.hid (HI7.out.below hbC)
    clear hbC
    have HE15 : Hid (DBlk (wC.setRow (w.heap.size + 2) #[.slice (some ⟨gA, 0, none⟩) 2 ca, .int .i64 V, .slice (some ⟨gZ, 0, none⟩) 1 cz]) (w.heap.size + 3) (zer 32) 0) := Lib.hid ((setRow_other _ _ _ _ (by omega)).trans HIc.out.e)
    have HPF : Hid (QBlk ((wC.setRow (w.heap.size + 2) #[.slice (some ⟨gA, 0, none⟩) 2 ca, .int .i64 V, .slice (some ⟨gZ, 0, none⟩) 1 cz]).setRow (w.heap.size + 3) (tcs h c2)) (w.heap.size + 2) (.slice (some ⟨gA, 0, none⟩) 2 ca) (.int .i64 V) (.slice (some ⟨gZ, 0, none⟩) 1 cz)) := Lib.hid ((setRow_other _ _ _ _ (by omega)).trans HIc.out.p.setRow)
    have HDF : Hid (DBlk ((wC.setRow (w.heap.size + 2) #[.slice (some ⟨gA, 0, none⟩) 2 ca, .int .i64 V, .slice (some ⟨gZ, 0, none⟩) 1 cz]).setRow (w.heap.size + 3) (tcs h c2)) (w.heap.size + 3) h c2) := Lib.hid HE15.out.setRow
    have HBF : Hid (Below w.heap.size w ((wC.setRow (w.heap.size + 2) #[.slice (some ⟨gA, 0, none⟩) 2 ca, .int .i64 V, .slice (some ⟨gZ, 0, none⟩) 1 cz]).setRow (w.heap.size + 3) (tcs h c2))) := Lib.hid (below_setRow' (below_setRow' HIc.out.b (by omega)) (by omega))
    have HAF : Hid (Sl ((wC.setRow (w.heap.size + 2) #[.slice (some ⟨gA, 0, none⟩) 2 ca, .int .i64 V, .slice (some ⟨gZ, 0, none⟩) 1 cz]).setRow (w.heap.size + 3) (tcs h c2)) (some ⟨gA, 0, none⟩) _) := Lib.hid (sl_far HA8.out (by have := HgA.out; exact (setRow_other _ _ _ _ (by omega)).trans (setRow_other _ _ _ _ (by omega))))
    have HZF : Hid (Sl ((wC.setRow (w.heap.size + 2) #[.slice (some ⟨gA, 0, none⟩) 2 ca, .int .i64 V, .slice (some ⟨gZ, 0, none⟩) 1 cz]).setRow (w.heap.size + 3) (tcs h c2)) (some ⟨gZ, 0, none⟩) _) := Lib.hid (sl_far HZ8.out (by have := HgZ.out; exact (setRow_other _ _ _ _ (by omega)).trans (setRow_other _ _ _ _ (by omega))))
    refine hK.out _ _ ?_ (fun hHeld => ?_)
    · exact ⟨HIc.out.g.1, HIc.out.g.2.1, HIc.out.g.2.2, HIc.out.d⟩
    clear hK K
    try simp only [List.getElem_toArray, List.getElem_cons_zero, List.getElem_cons_succ, Act.put, List.setIfInBounds_toArray, List.set_cons_zero, List.set_cons_succ]
    refine wpT_take (i := 11) (oi := _) (v := ?_) rfl (by kernel_rfl) (by kernel_rfl) (by kernel_rfl) (by kernel_rfl) (fun _ _ _ h => h) (Or.inl ⟨by rfl, ?_⟩) (by assumption) ?_
    rotate_left; (intro wS hSw; (try dsimp only at hSw); go_simp <;> with_reducible rfl)
    try simp only [List.getElem_toArray, List.getElem_cons_zero, List.getElem_cons_succ, Act.put, List.setIfInBounds_toArray, List.set_cons_zero, List.set_cons_succ]
    refine wpT_take (i := 12) (oi := _) (v := ?_) rfl (by kernel_rfl) (by kernel_rfl) (by kernel_rfl) (by kernel_rfl) (fun _ _ _ h => h) (Or.inl ⟨by rfl, ?_⟩) (by assumption) ?_
    rotate_left; (intro wS hSw; (try dsimp only at hSw); go_simp <;> with_reducible rfl)
    try simp only [List.getElem_toArray, List.getElem_cons_zero, List.getElem_cons_succ, Act.put, List.setIfInBounds_toArray, List.set_cons_zero, List.set_cons_succ]
    refine wpT_take (i := 13) (oi := _) (v := ?_) rfl (by kernel_rfl) (by kernel_rfl) (by kernel_rfl) (by kernel_rfl) (fun _ _ _ h => h) (Or.inl ⟨by rfl, ?_⟩) (by assumption) ?_
    rotate_left; (intro wS hSw; (try dsimp only at hSw); go_simp <;> with_reducible rfl)
    try simp only [List.getElem_toArray, List.getElem_cons_zero, List.getElem_cons_succ, Act.put, List.setIfInBounds_toArray, List.set_cons_zero, List.set_cons_succ]
    refine wpT_one (i := 14) (by kernel_rfl) rfl (fun K hK => ?_)
    rw [show (if Region.wanted _ _ = true then _ else _ : Prop) = _ from if_pos rfl]
    refine wp_store_row 28 _ _ rfl (w.heap.size + 2) #[.slice (some ⟨gA, 0, none⟩) 2 ca, .int .i64 V, .slice (some ⟨gZ, 0, none⟩) 1 cz] rfl rfl 28 _ HIc.out.p infoP rfl (by simp [Value.oneCell']) ?_
    refine hK.out _ _ ?_ (fun hHeld => ?_)
    · exact ⟨(cell_setRow_other _ _ _ _ (by simp)).trans HIc.out.g.1, (cell_setRow_other _ _ _ _ (by simp)).trans HIc.out.g.2.1, (cell_setRow_other _ _ _ _ (by simp)).trans HIc.out.g.2.2, (setRow_other _ _ _ _ (by omega)).trans HIc.out.d⟩
    clear hK K
    try simp only [List.getElem_toArray, List.getElem_cons_zero, List.getElem_cons_succ, Act.put, List.setIfInBounds_toArray, List.set_cons_zero, List.set_cons_succ]
    refine wpT_pass (i := 15) (by kernel_rfl) (by simp) rfl (fun K hK => ?_)
    rw [show (if Region.wanted _ _ = true then _ else _ : Prop) = _ from if_pos rfl]
    refine wp_store_row 56 _ _ rfl (w.heap.size + 3) (tcs h c2) rfl rfl 56 _ HE15.out (dr_info hl.out) (tcs_sz rfl hl.out) (tcs_one _ _) ?_
    refine hK.out _ _ ?_
    clear hK K
    try simp only [List.getElem_toArray, List.getElem_cons_zero, List.getElem_cons_succ, Act.put, List.setIfInBounds_toArray, List.set_cons_zero, List.set_cons_succ]
    refine wpT_pass (i := 16) (by kernel_rfl) (by simp) rfl (fun K hK => ?_)
    go_simp
    refine hK.out _ _ ?_
    clear hK K
    try simp only [List.getElem_toArray, List.getElem_cons_zero, List.getElem_cons_succ, Act.put, List.setIfInBounds_toArray, List.set_cons_zero, List.set_cons_succ]
    refine wpT_done (by kernel_rfl) ?_ _
    go_wp2
    exact bodyPost_ret (v := PrvE (.agg #[.slice (some ⟨gA, 0, none⟩) 2 ca, .int .i64 V, .slice (some ⟨gZ, 0, none⟩) 1 cz]) h c2 0) (results_cell2_tmp (p := 12) (q := 13) (r := 14) (ty := 28) (ty2 := 56) rfl _ _ ⟨w.heap.size + 2, 0, none⟩ ⟨w.heap.size + 3, 0, none⟩ _ _ _ rfl rfl rfl (run_loadVar_row _ _ _ _ _ _ _ HPF.out Tryz.underlying28 rfl infoP) (run_loadVar_row _ _ _ _ _ _ _ HDF.out Tryz.underlying56 rfl (dr_info hl.out))) rfl ⟨_, ca, _, cz, V, HV8, rfl, HAF.out, HZF.out, HBF.out⟩
  · skip
    go_simp
    refine hK.out _ _ ?_ (fun hHeld => ?_)
    · have hz := HId.out.below (below_box0 w5.drew (.cells #[.int .i64 x] 3))
      exact ⟨hz.g.1, hz.g.2.1, hz.g.2.2, hz.d⟩
    clear hK K
    try simp only [List.getElem_toArray, List.getElem_cons_zero, List.getElem_cons_succ, Act.put, List.setIfInBounds_toArray, List.set_cons_zero, List.set_cons_succ]
    refine wpT_one (i := 5) (by kernel_rfl) rfl (fun K hK => ?_)
    go_simp
    refine (erelation_any a ya b yb _).mono ?_
    intro e wB hR
    obtain ⟨Y, B, A1, B1, rfl, hY, hB, hbA⟩ := hR
    have HI6 := Lib.hid ((HId.out.below (below_box0 w5.drew (.cells #[.int .i64 x] 3))).below hbA)
    have HB6 : Hid (Below W.heap.size W wB) := Lib.hid (below_ext (below_ext HBd.out (below_box0 w5.drew (.cells #[.int .i64 x] 3))) hbA)
    have HY6 := Lib.hid hY
    have HW6 := Lib.hid hB
    have HX6 := Lib.hid ((sl_of_cells (cells1 w5.drew 3 x)).below hbA)
    clear hbA hY hB
    refine hK.out _ _ ?_ (fun hHeld => ?_)
    · exact ⟨HI6.out.g.1, HI6.out.g.2.1, HI6.out.g.2.2, HI6.out.d⟩
    clear hK K
    try simp only [List.getElem_toArray, List.getElem_cons_zero, List.getElem_cons_succ, Act.put, List.setIfInBounds_toArray, List.set_cons_zero, List.set_cons_succ]
    refine wpT_one (i := 10) (by kernel_rfl) rfl (fun K hK => ?_)
    go_simp
    have HI7 := HI6
    have HB7 := HB6
    have HY7 := HY6
    have HW7 := HW6
    have HX7 := HX6
    refine (lprove_oF P Q G Y [ya, yb] 2 2 B (eqRows A1 B1 a b) 2 2 (some ⟨w5.drew.heap.size, 0, none⟩) [x] 1 1 s h c (Lib.hid rfl) (Lib.hid rfl) (Lib.hid rfl) (by omega) hs hl hQ hhb hr hdr HCR HHO HST c2 hc2 ks hks _ (Lib.hid (HV.out.below HB7.out)) (Lib.hid (HDV.out.below HB7.out)) HY7 HW7 HX7).mono ?_
    intro e wC hP
    obtain ⟨gA, ca, gZ, cz, V, HVV, rfl, hgA, hgZ, hA8, hZ8, hbC⟩ := hP
    rw [show PrvE (.agg #[.slice (some ⟨gA, 0, none⟩) 2 ca, .int .i64 V, .slice (some ⟨gZ, 0, none⟩) (rowN (eqRows A1 B1 a b)) cz]) h c2 0 = .tuple #[.agg #[.slice (some ⟨gA, 0, none⟩) 2 ca, .int .i64 V, .slice (some ⟨gZ, 0, none⟩) 1 cz], .agg (tcs h c2), .int .i64 0] from rfl]
    have hz7 := HI7.out.z
    have HgA : Hid (w.heap.size + 4 ≤ gA) := Lib.hid (Nat.le_trans hz7 hgA)
    have HgZ : Hid (w.heap.size + 4 ≤ gZ) := Lib.hid (Nat.le_trans hz7 hgZ)
    have HA8 := Lib.hid hA8
    have HZ8 := Lib.hid hZ8
    have HV8 := HVV
    clear hgA hgZ hA8 hZ8 hz7 HVV
    have HIc := Lib.hid (HI7.out.below hbC)
    clear hbC
    have HE15 : Hid (DBlk (wC.setRow (w.heap.size + 2) #[.slice (some ⟨gA, 0, none⟩) 2 ca, .int .i64 V, .slice (some ⟨gZ, 0, none⟩) 1 cz]) (w.heap.size + 3) (zer 32) 0) := Lib.hid ((setRow_other _ _ _ _ (by omega)).trans HIc.out.e)
    have HPF : Hid (QBlk ((wC.setRow (w.heap.size + 2) #[.slice (some ⟨gA, 0, none⟩) 2 ca, .int .i64 V, .slice (some ⟨gZ, 0, none⟩) 1 cz]).setRow (w.heap.size + 3) (tcs h c2)) (w.heap.size + 2) (.slice (some ⟨gA, 0, none⟩) 2 ca) (.int .i64 V) (.slice (some ⟨gZ, 0, none⟩) 1 cz)) := Lib.hid ((setRow_other _ _ _ _ (by omega)).trans HIc.out.p.setRow)
    have HDF : Hid (DBlk ((wC.setRow (w.heap.size + 2) #[.slice (some ⟨gA, 0, none⟩) 2 ca, .int .i64 V, .slice (some ⟨gZ, 0, none⟩) 1 cz]).setRow (w.heap.size + 3) (tcs h c2)) (w.heap.size + 3) h c2) := Lib.hid HE15.out.setRow
    have HBF : Hid (Below w.heap.size w ((wC.setRow (w.heap.size + 2) #[.slice (some ⟨gA, 0, none⟩) 2 ca, .int .i64 V, .slice (some ⟨gZ, 0, none⟩) 1 cz]).setRow (w.heap.size + 3) (tcs h c2))) := Lib.hid (below_setRow' (below_setRow' HIc.out.b (by omega)) (by omega))
    have HAF : Hid (Sl ((wC.setRow (w.heap.size + 2) #[.slice (some ⟨gA, 0, none⟩) 2 ca, .int .i64 V, .slice (some ⟨gZ, 0, none⟩) 1 cz]).setRow (w.heap.size + 3) (tcs h c2)) (some ⟨gA, 0, none⟩) _) := Lib.hid (sl_far HA8.out (by have := HgA.out; exact (setRow_other _ _ _ _ (by omega)).trans (setRow_other _ _ _ _ (by omega))))
    have HZF : Hid (Sl ((wC.setRow (w.heap.size + 2) #[.slice (some ⟨gA, 0, none⟩) 2 ca, .int .i64 V, .slice (some ⟨gZ, 0, none⟩) 1 cz]).setRow (w.heap.size + 3) (tcs h c2)) (some ⟨gZ, 0, none⟩) _) := Lib.hid (sl_far HZ8.out (by have := HgZ.out; exact (setRow_other _ _ _ _ (by omega)).trans (setRow_other _ _ _ _ (by omega))))
    refine hK.out _ _ ?_ (fun hHeld => ?_)
    · exact ⟨HIc.out.g.1, HIc.out.g.2.1, HIc.out.g.2.2, HIc.out.d⟩
    clear hK K
    try simp only [List.getElem_toArray, List.getElem_cons_zero, List.getElem_cons_succ, Act.put, List.setIfInBounds_toArray, List.set_cons_zero, List.set_cons_succ]
    refine wpT_take (i := 11) (oi := _) (v := ?_) rfl (by kernel_rfl) (by kernel_rfl) (by kernel_rfl) (by kernel_rfl) (fun _ _ _ h => h) (Or.inl ⟨by rfl, ?_⟩) (by assumption) ?_
    rotate_left; (intro wS hSw; (try dsimp only at hSw); go_simp <;> with_reducible rfl)
    try simp only [List.getElem_toArray, List.getElem_cons_zero, List.getElem_cons_succ, Act.put, List.setIfInBounds_toArray, List.set_cons_zero, List.set_cons_succ]
    refine wpT_take (i := 12) (oi := _) (v := ?_) rfl (by kernel_rfl) (by kernel_rfl) (by kernel_rfl) (by kernel_rfl) (fun _ _ _ h => h) (Or.inl ⟨by rfl, ?_⟩) (by assumption) ?_
    rotate_left; (intro wS hSw; (try dsimp only at hSw); go_simp <;> with_reducible rfl)
    try simp only [List.getElem_toArray, List.getElem_cons_zero, List.getElem_cons_succ, Act.put, List.setIfInBounds_toArray, List.set_cons_zero, List.set_cons_succ]
    refine wpT_take (i := 13) (oi := _) (v := ?_) rfl (by kernel_rfl) (by kernel_rfl) (by kernel_rfl) (by kernel_rfl) (fun _ _ _ h => h) (Or.inl ⟨by rfl, ?_⟩) (by assumption) ?_
    rotate_left; (intro wS hSw; (try dsimp only at hSw); go_simp <;> with_reducible rfl)
    try simp only [List.getElem_toArray, List.getElem_cons_zero, List.getElem_cons_succ, Act.put, List.setIfInBounds_toArray, List.set_cons_zero, List.set_cons_succ]
    refine wpT_one (i := 14) (by kernel_rfl) rfl (fun K hK => ?_)
    rw [show (if Region.wanted _ _ = true then _ else _ : Prop) = _ from if_pos rfl]
    refine wp_store_row 28 _ _ rfl (w.heap.size + 2) #[.slice (some ⟨gA, 0, none⟩) 2 ca, .int .i64 V, .slice (some ⟨gZ, 0, none⟩) 1 cz] rfl rfl 28 _ HIc.out.p infoP rfl (by simp [Value.oneCell']) ?_
    refine hK.out _ _ ?_ (fun hHeld => ?_)
    · exact ⟨(cell_setRow_other _ _ _ _ (by simp)).trans HIc.out.g.1, (cell_setRow_other _ _ _ _ (by simp)).trans HIc.out.g.2.1, (cell_setRow_other _ _ _ _ (by simp)).trans HIc.out.g.2.2, (setRow_other _ _ _ _ (by omega)).trans HIc.out.d⟩
    clear hK K
    try simp only [List.getElem_toArray, List.getElem_cons_zero, List.getElem_cons_succ, Act.put, List.setIfInBounds_toArray, List.set_cons_zero, List.set_cons_succ]
    refine wpT_pass (i := 15) (by kernel_rfl) (by simp) rfl (fun K hK => ?_)
    rw [show (if Region.wanted _ _ = true then _ else _ : Prop) = _ from if_pos rfl]
    refine wp_store_row 56 _ _ rfl (w.heap.size + 3) (tcs h c2) rfl rfl 56 _ HE15.out (dr_info hl.out) (tcs_sz rfl hl.out) (tcs_one _ _) ?_
    refine hK.out _ _ ?_
    clear hK K
    try simp only [List.getElem_toArray, List.getElem_cons_zero, List.getElem_cons_succ, Act.put, List.setIfInBounds_toArray, List.set_cons_zero, List.set_cons_succ]
    refine wpT_pass (i := 16) (by kernel_rfl) (by simp) rfl (fun K hK => ?_)
    go_simp
    refine hK.out _ _ ?_
    clear hK K
    try simp only [List.getElem_toArray, List.getElem_cons_zero, List.getElem_cons_succ, Act.put, List.setIfInBounds_toArray, List.set_cons_zero, List.set_cons_succ]
    refine wpT_done (by kernel_rfl) ?_ _
    go_wp2
    exact bodyPost_ret (v := PrvE (.agg #[.slice (some ⟨gA, 0, none⟩) 2 ca, .int .i64 V, .slice (some ⟨gZ, 0, none⟩) 1 cz]) h c2 0) (results_cell2_tmp (p := 12) (q := 13) (r := 14) (ty := 28) (ty2 := 56) rfl _ _ ⟨w.heap.size + 2, 0, none⟩ ⟨w.heap.size + 3, 0, none⟩ _ _ _ rfl rfl rfl (run_loadVar_row _ _ _ _ _ _ _ HPF.out Tryz.underlying28 rfl infoP) (run_loadVar_row _ _ _ _ _ _ _ HDF.out Tryz.underlying56 rfl (dr_info hl.out))) rfl ⟨_, ca, _, cz, V, HV8, rfl, HAF.out, HZF.out, HBF.out⟩
end Go.Proofs.YtdlhodbiaoafiaaGreatDoor
namespace Go.Proofs.YtdlhodbiaoafiaaGreatDoor
open Go.RowKit SpM Go.Maps
set_option linter.unusedVariables false
set_option linter.unusedSimpArgs false
set_option maxRecDepth 100000
theorem lawI : Keyed Tryz.prog 3 := int_keyed Tryz.underlying3
theorem zeroI (w : World) : (zeroValue 3).run Tryz.prog w = .ok (.int .i64 0) w := by kernel_rfl
theorem int_neI {a b : Int} (h : a ≠ b) : (Lit.int .i64 a) ≠ Lit.int .i64 b := fun e => h (by injection e)
theorem lit_injI {a b : Int} (h : (DataW.lit (.int .i64 a) : DataW Unit) = .lit (.int .i64 b)) : a = b := by
  injection h with h1
  injection h1
theorem grown_belowI {a w : World} (h : Below a.heap.size a w) : a.grownBy w none := ⟨h.os, h.tape, h.output, h.size, fun i hi _ => h.block i hi⟩
/-- x times the k-th power of b. -/
def yL (P b x : Int) : Nat → Int
  | 0 => x
  | k + 1 => yL P b x k * b % P
theorem yL_lo {P b x : Int} (hP : 2 ≤ P) (h0 : 0 ≤ x) (h1 : x < P) : ∀ k, 0 ≤ yL P b x k ∧ yL P b x k < P
  | 0 => ⟨h0, h1⟩
  | k + 1 => ⟨Int.emod_nonneg _ (by omega), Int.emod_lt_of_pos _ (by omega)⟩
theorem yL_eq {P b x : Int} (hP : 2 ≤ P) (h0 : 0 ≤ x) (h1 : x < P) : ∀ k : Nat, yL P b x k = x * pw b k P % P
  | 0 => by rw [yL, show ((0 : Nat) : Int) = 0 from rfl, pw_zero _ _ hP, Int.mul_one, Int.emod_eq_of_lt h0 h1]
  | k + 1 => by
    rw [yL, yL_eq hP h0 h1 k, show (((k + 1 : Nat)) : Int) = (k : Int) + 1 by omega, pw_add _ _ _ _ (by omega) (by omega), pw_one_exp]
    rw [Int.mul_emod (x * pw b k P % P) b P, Int.emod_emod_of_dvd _ (Int.dvd_refl P), ← Int.mul_emod, Int.mul_emod x (pw b k P * (b % P) % P) P, Int.emod_emod_of_dvd _ (Int.dvd_refl P), ← Int.mul_emod, ← Int.mul_assoc, Int.mul_emod (x * pw b k P) (b % P) P, Int.emod_emod_of_dvd _ (Int.dvd_refl P), ← Int.mul_emod]
/-- what the map says of 1. -/
def LogRel (P b x : Int) (wr : World) (B k : Nat) : Prop :=
  ∃ D : DataW Unit, wr.ownsMap Tryz.prog 3 (plainElem Tryz.prog 3) B k D ∧ (Maps.has D (.int .i64 1) = true → ∃ j : Nat, j < k ∧ yL P b x j = 1 ∧ D.atKey (.int .i64 1) (.lit (.int .i64 0)) = .lit (.int .i64 j)) ∧ (∀ j, j < k → yL P b x j = 1 → Maps.has D (.int .i64 1) = true)
theorem logRel_made (P b x : Int) (w : World) : LogRel P b x (w.alloc (.map #[] 0)) w.heap.size 0 :=
  ⟨.map [], World.ownsMap_made _ _ _ _, fun h => by simp [Maps.has] at h, fun j h => absurd h (by omega)⟩
theorem LogRel.lt {P b x : Int} {w : World} {B k : Nat} (h : LogRel P b x w B k) : B < w.heap.size := by
  obtain ⟨D, h1, _⟩ := h
  exact h1.lt
theorem LogRel.below {P b x : Int} {w w' : World} {B k : Nat} (h : LogRel P b x w B k) (hb : Below w.heap.size w w') : LogRel P b x w' B k := by
  obtain ⟨D, h1, h2⟩ := h
  exact ⟨D, h1.kept (grown_belowI hb) (by simp), h2⟩
theorem logRel_put {P b x : Int} {w' : World} {B k : Nat} {D : DataW Unit} (ht : Tidy D)
    (h1 : w'.ownsMap Tryz.prog 3 (plainElem Tryz.prog 3) B (k + 1) (D.put (.int .i64 (yL P b x k)) (.lit (.int .i64 k))))
    (hA : Maps.has D (.int .i64 1) = true → ∃ j : Nat, j < k ∧ yL P b x j = 1 ∧ D.atKey (.int .i64 1) (.lit (.int .i64 0)) = .lit (.int .i64 j)) (hB : ∀ j, j < k → yL P b x j = 1 → Maps.has D (.int .i64 1) = true) : LogRel P b x w' B (k + 1) := by
  by_cases hy : yL P b x k = 1
  · refine ⟨_, h1, fun _ => ⟨k, by omega, hy, ?_⟩, fun _ _ _ => ?_⟩
    · rw [hy]; exact atKey_put_same ht.isMap (by simp [WideAt.IsKeyLit]) _ _
    · rw [hy]; exact has_put_same ht.isMap (by simp [WideAt.IsKeyLit]) _
  · have hne : (1 : Int) ≠ yL P b x k := fun e => hy e.symm
    refine ⟨_, h1, fun hh => ?_, fun j hj h => ?_⟩
    · rw [has_put_other (int_neI hne)] at hh
      obtain ⟨j, hj, e1, e2⟩ := hA hh
      exact ⟨j, by omega, e1, by rw [atKey_put_other (int_neI hne)]; exact e2⟩
    · rw [has_put_other (int_neI hne)]
      have hjk : j ≠ k := fun e => hy (e ▸ h)
      exact hB j (by omega) h
/-- the logarithm out of the round. -/
theorem log_of {P Q b x : Int} {j : Nat} (hP : 2 ≤ P) (hQ : 1 ≤ Q) (hb : memG P Q b = true) (hx : memG P Q x = true) (h : yL P b x j = 1) : pw b ((-(j : Int)) % Q) P = x := by
  have l0 := memG_lo hx
  have l1 := memG_hi hx
  rw [yL_eq hP (by omega) l1] at h
  have e0 : 0 ≤ (-(j : Int)) % Q := Int.emod_nonneg _ (by omega)
  have e1 : pw b j P * pw b ((-(j : Int)) % Q) P % P = 1 := by
    rw [← pw_add _ _ _ _ (by omega) e0, pw_mod hP hQ (by omega) (memG_pw hb), Int.add_emod, Int.emod_emod_of_dvd _ (Int.dvd_refl Q), ← Int.add_emod, show (j : Int) + -(j : Int) = 0 by omega, Int.zero_emod, pw_zero _ _ hP]
  have hw := pw_lt b ((-(j : Int)) % Q) P (by omega)
  have e2 : x * (pw b j P * pw b ((-(j : Int)) % Q) P) % P = x := by
    rw [Int.mul_emod, e1, Int.mul_one, Int.emod_emod_of_dvd _ (Int.dvd_refl P), Int.emod_eq_of_lt (by omega) l1]
  have e3 : x * (pw b j P * pw b ((-(j : Int)) % Q) P) % P = pw b ((-(j : Int)) % Q) P := by
    rw [← Int.mul_assoc, Int.mul_emod, h, Int.one_mul, Int.emod_emod_of_dvd _ (Int.dvd_refl P), Int.emod_eq_of_lt hw.1 hw.2]
  rw [← e3, e2]
theorem tmod_lit {Q m : Int} (h0 : 3 ≤ Q) (h : (1024 : Int) % Q = m) : (1024 : Int).tmod Q = m := by rw [Int.tmod_eq_emod_of_nonneg (by omega)]; exact h
set_option maxHeartbeats 6400000 in
theorem glog_hit (P Q G b x : Int) (hr : Hid (chkG P Q G [b, x] = 0)) (hb1 : (b == 1) = false) (hQ20 : Q ≤ 1048576) (j0 : Nat) (hj0 : j0 < 1024) (hy0 : Hid (yL P b x j0 = 1)) (v : Int) (hu : Hid (∀ u, 0 ≤ u → u < Q → pw b u P = x → u = v)) (w : World) (hv : Hid (Vars w)) :
    Calls Tryz.prog 106 #[gv P Q G, .int .i64 b, .int .i64 x] w fun e' w' => e' = .returned (.tuple #[.int .i64 v, .int .i64 0]) ∧ Below w.heap.size w w' := by
  obtain ⟨hval, hall⟩ := chkG_zero hr.out
  obtain ⟨hp2, hp, hq3, hqp⟩ := validG_P hval
  simp only [List.all_cons, List.all_nil, Bool.and_true, Bool.and_eq_true] at hall
  obtain ⟨ma, mb⟩ := hall
  have la := memG_lo ma
  have ha := memG_hi ma
  have lb := memG_lo mb
  have hb := memG_hi mb
  have HYB : Hid (∀ k, 0 ≤ yL P b x k ∧ yL P b x k < P) := Lib.hid (yL_lo hp2 (by omega) hb)
  have HLO : Hid (∀ j : Nat, yL P b x j = 1 → (-(j : Int)) % Q = v) := Lib.hid (fun j h => hu.out _ (Int.emod_nonneg _ (by omega)) (Int.emod_lt_of_pos _ (by omega)) (log_of hp2 (by omega) ma mb h))
  clear ma mb hval hu
  have d1 : decide ((1048576 : Int) < Q) = false := by simp; omega
  obtain ⟨mq, hmq⟩ : ∃ m, (1024 : Int) % Q = m := ⟨_, rfl⟩
  have mq0 : 0 ≤ mq := by rw [← hmq]; exact Int.emod_nonneg _ (by omega)
  have mq1 : mq < Q := by rw [← hmq]; exact Int.emod_lt_of_pos _ (by omega)
  have HMQ := Lib.hid (tmod_lit hq3 hmq)
  clear hmq
  obtain ⟨dq, hdq⟩ : ∃ d, Q.tdiv 1024 = d := ⟨_, rfl⟩
  have hdq2 : dq = Q / 1024 := by rw [← hdq, Int.tdiv_eq_ediv_of_nonneg (by omega)]
  have dq0 : 0 ≤ dq := by rw [hdq2]; omega
  have dq1 : dq ≤ 1024 := by rw [hdq2]; omega
  have HDQ := Lib.hid hdq
  clear hdq hdq2
  have HV1 := Lib.hid (hv.out.below (below_two (w := w) (o1 := gObj P Q G) (o2 := .cells #[.int .i64 b, .int .i64 x] 3) (Below.refl _ _)))
  have HC := Lib.hid (cells2' w (gObj P Q G) 3 b x)
  have HB0 := Lib.hid ((gbox_alloc w P Q G).below (below_box0 (w.alloc (gObj P Q G)) (.cells #[.int .i64 b, .int .i64 x] 3)))
  have hmm := fun t w => run_makeMap (P := Tryz.prog) t w
  go_enter Tryz.func106, Tryz.ntmps106
  go_wp2_with fail
  refine (gcheck_any P Q G _ [b, x] 2 2 (Lib.hid rfl) (by decide) 0 hr (by omega) _ HV1 HC).mono ?_
  rintro e w1 ⟨rfl, hb0⟩
  have hbN := below_two hb0
  have HX1 := Lib.hid (HB0.out.below hb0)
  clear hb0 HV1 HC HB0
  obtain ⟨c0, c1, c2⟩ := HX1.out
  have HM0 := Lib.hid (logRel_made P b x w1)
  obtain ⟨m0, m1, m2⟩ := HX1.out.below (below_box0 w1 (.map #[] 0))
  go_wp2
  clear c0 c1 c2 m0 m1 m2
  have HBl : Hid (Below w1.heap.size w1 (w1.alloc (.map #[] 0))) := Lib.hid (below_box0 _ _)
  obtain ⟨B, hBe⟩ : ∃ B, w1.heap.size = B := ⟨_, rfl⟩
  rw [hBe] at HM0 HBl ⊢
  have HBe := Lib.hid hBe
  clear hBe
  go_loopw [10, 35] (fun o i wr => ∃ (k : Nat) (y : Int), k ≤ 1024 ∧ i = .int .i64 k ∧ o = .int .i64 y ∧ 0 ≤ y ∧ y < P ∧ Hid (yL P b x k = y) ∧ Hid (LogRel P b x wr B k) ∧ Hid (Below B w1 wr)) (fun _ i _ => 1024 - (intOf i).toNat)
  case atStart => exact ⟨0, x, by omega, rfl, rfl, by omega, hb, Lib.hid rfl, HM0, HBl⟩
  case round =>
    obtain ⟨k, y, hk, rfl, rfl, hy0', hy1, HY, HMr, HBr⟩ := hrel
    have hbr : Below w1.heap.size w1 wr := by rw [HBe.out]; exact HBr.out
    have HX7 := Lib.hid (HX1.out.below hbr)
    have hbF := below_ext hbN hbr
    obtain ⟨c0, c1, c2⟩ := HX7.out
    clear hbr
    have lt7 := HMr.out.lt
    by_cases hlt : k < 1024
    · obtain ⟨D, hown, hA, hBB⟩ := HMr.out
      have HA := Lib.hid hA
      have HBB := Lib.hid hBB
      have HT := Lib.hid (hown.tidy lawI)
      clear hA hBB
      have wf1 : (Lit.int .i64 y).wf = true := WalkArith.wf_i64 (by omega)
      have wf2 : (Lit.int .i64 (k : Int)).wf = true := WalkArith.wf_i64 (by omega)
      have HYN : Hid (yL P b x (k + 1) = y * b % P) := Lib.hid (by rw [yL, HY.out])
      have l1 : 0 ≤ y * b % P := Int.emod_nonneg _ (by omega)
      have u1 : y * b % P < P := Int.emod_lt_of_pos _ (by omega)
      go_upto_region 16 with (at_mapUpdate; refine wpList_mapUpdate_own _ rfl _ _ _ 168 rfl 3 3 lawI Tryz.underlying168 _ B k _ rfl hown (by unfold maxLen; omega) _ _ _ rfl rfl (keyOf_int_mk Tryz.underlying3 wf1) _ [] (plainElem_int Tryz.underlying3 wf2) ?_; intro w10 hown1 hgrow1)
      have HM10 : Hid (LogRel P b x w10 B (k + 1)) := Lib.hid (logRel_put HT.out (by rw [HY.out]; exact hown1) HA.out HBB.out)
      have HB10 : Hid (Below B w1 w10) := Lib.hid (HBr.out.grown hgrow1 (by omega) (fun j hj => by cases hj; exact Nat.le_refl _))
      have hbr2 : Below w1.heap.size w1 w10 := by rw [HBe.out]; exact HB10.out
      have HX8 := Lib.hid (HX1.out.below hbr2)
      clear hown hown1 hgrow1 c0 c1 c2 HX7 hbF hbr2
      obtain ⟨c0, c1, c2⟩ := HX8.out
      go_wp2_with fail
      refine (wmul_ok y b P hp hy0' hy1 (by omega) ha _).mono ?_
      rintro e w9 ⟨rfl, nq, rfl⟩
      have HM11 := Lib.hid (HM10.out.below (below_drawN (Below.refl _ _) nq))
      have HB11 := Lib.hid (below_drawN HB10.out nq)
      go_wp2
      go_roundw
      case rel => exact ⟨k + 1, y * b % P, by omega, by go_num, rfl, l1, u1, HYN, HM11, HB11⟩
      case measure => simp [intOf]; omega
    · have hjk : j0 < k := by omega
      have HB1 := Lib.hid hbF
      clear hbF HY HBr HX7
      obtain ⟨gp, hgp⟩ : ∃ g, pw b mq P = g := ⟨_, rfl⟩
      have HGP := Lib.hid hgp
      clear hgp
      go_wp2_with fail
      have hq0 : ¬ (Q = 0) := by omega
      have hq0b : (Q == 0) = false := by simp; omega
      have hmq := HMQ.out
      have hdq := HDQ.out
      go_quiet ((go_at_call 63; exact Calls.quiet_of (pow_eq b mq P gp HGP (by omega) hp (by omega) ha mq0 (by omega) _)))
      go_upto_region 21 with (fail)
      clear hmq hdq
      obtain ⟨W2, hW2⟩ : ∃ u, wr.drewN nq = u := ⟨_, rfl⟩
      have hbq : Below wr.heap.size wr W2 := by rw [← hW2]; exact below_drawN (Below.refl _ _) nq
      rw [hW2]
      have HM2 := Lib.hid (HMr.out.below hbq)
      have HX2 := Lib.hid (GBox.below (w := wr) ⟨c0, c1, c2⟩ hbq)
      have HB2 := Lib.hid (below_ext HB1.out hbq)
      clear hW2 hbq HMr c0 c1 c2
      go_loopw [14, 64] (fun z i u => i = .int .i64 0 ∧ z = .int .i64 1 ∧ Hid (u = W2)) (fun _ _ _ => 0)
      case atStart => exact ⟨rfl, rfl, Lib.hid rfl⟩
      case round =>
        obtain ⟨rfl, rfl, HU⟩ := hrel
        have hU := HU.out
        subst hU
        obtain ⟨c0, c1, c2⟩ := HX2.out
        obtain ⟨D, hown, hA, hBB⟩ := HM2.out
        have h1 := hBB j0 hjk hy0.out
        obtain ⟨j, hj, hyj, hat⟩ := hA h1
        have HAt := Lib.hid hat
        have HHs := Lib.hid h1
        have HJv := Lib.hid (HLO.out j hyj)
        clear hA hBB h1 hyj hat
        have wf1 : (Lit.int .i64 1).wf = true := by decide
        have d2 : decide ((0 : Int) < dq + 2) = true := by simp; omega
        go_wp2_with (at_lookup; refine wpList_lookup_own_ok_int _ rfl _ _ 168 rfl 3 3 .i64 lawI Tryz.underlying168 Tryz.underlying3 (zeroI _) B k _ rfl hown _ _ rfl (keyOf_int_mk Tryz.underlying3 wf1) ?_; intro c' hat2 hwc; have hcz := lit_injI (hat2.symm.trans HAt.out); subst hcz; rw [HHs.out]; clear hat2 hwc)
        clear hown
        refine (reduce_ok (-(j : Int)) Q (by omega) (by omega) (by omega) (by omega) _).mono ?_
        rintro e w3 ⟨rfl, rfl⟩
        rw [HJv.out]
        have hbF := HB2.out
        go_wp2
        go_ret2
        exact ⟨rfl, hbF⟩
end Go.Proofs.YtdlhodbiaoafiaaGreatDoor
namespace Go.Proofs.YtdlhodbiaoafiaaGreatDoor
open Go.RowKit SpM
set_option linter.unusedVariables false
/-- the inverse of a residue; 0: there is none. -/
def IsInv (a m x : Int) : Prop := 0 ≤ x ∧ x < m ∧ (x * a % m = 1 ∨ (x = 0 ∧ ∀ y, y * a % m ≠ 1))
theorem isInv_unique {a m x y : Int} (hx : IsInv a m x) (hy : IsInv a m y) : x = y := by
  obtain ⟨x0, x1, hx⟩ := hx
  obtain ⟨y0, y1, hy⟩ := hy
  rcases hx with hx | ⟨rfl, hx⟩
  · rcases hy with hy | ⟨rfl, hy⟩
    · have h1 : x * (y * a) % m = x % m := by rw [Int.mul_emod, hy, Int.mul_one, Int.emod_emod_of_dvd _ (Int.dvd_refl m)]
      have h2 : x * (y * a) % m = y % m := by
        rw [show x * (y * a) = y * (x * a) by rw [← Int.mul_assoc, ← Int.mul_assoc, Int.mul_comm x y], Int.mul_emod, hx, Int.mul_one, Int.emod_emod_of_dvd _ (Int.dvd_refl m)]
      have h3 := h1.symm.trans h2
      rwa [Int.emod_eq_of_lt x0 x1, Int.emod_eq_of_lt y0 y1] at h3
    · exact absurd hx (hy x)
  · rcases hy with hy | ⟨rfl, hy⟩
    · exact absurd hy (hx y)
    · rfl
theorem no_inv {a m d : Int} (h1 : d ∣ a) (h2 : d ∣ m) (h0 : 0 < d) (hne : d ≠ 1) (y : Int) : y * a % m ≠ 1 := by
  intro h
  have h3 : d ∣ y * a := Int.dvd_mul_of_dvd_right h1
  have h4 : d ∣ m * (y * a / m) := Int.dvd_mul_of_dvd_left h2
  have h5 : d ∣ y * a - m * (y * a / m) := Int.dvd_sub h3 h4
  have h6 : y * a - m * (y * a / m) = 1 := by have := Int.emod_add_mul_ediv (y * a) m; omega
  rw [h6] at h5
  have := Int.le_of_dvd (by omega) h5
  omega
/-- what word.Inverse answers. -/
def WInvOut (a m : Int) (w : World) (e : Ending) (w' : World) : Prop :=
  ∃ x r : Int, e = .returned (.tuple #[.int .i64 x, .int .i64 r]) ∧ IsInv a m x ∧ ∃ n, w' = w.drewN n
set_option maxHeartbeats 800000 in
theorem winv_any (a m : Int) (h1 : 2 ≤ m) (h2 : m < 2305843009213693952) (ha0 : 0 ≤ a) (ha : a < m) (w : World) :
    Calls Tryz.prog 74 #[.int .i64 a, .int .i64 m] w (WInvOut a m w) := by
  have hc := Lib.hid (chk_ok (by omega) h2 ha0 ha ha0 ha)
  go_enter Tryz.func74, Tryz.ntmps74
  go_wp2_with (go_at_call 96; refine (check_any _ _ _ _).mono ?_; rintro e w' ⟨rfl, rfl⟩; rw [hc.out])
  refine (euclid_any a m (by omega) h2 ha0 ha _).mono ?_
  rintro e w' ⟨d, x, k, rfl, hx0, hx1, hd1, hd2, hd0, hd, hk, n, rfl⟩
  by_cases hd1' : d = 1
  · have h1d : (d == 1) = true := by simp [hd1']
    have h1n : (d != 1) = false := by simp [hd1']
    have HX : Hid (IsInv a m x) := Lib.hid ⟨hx0, hx1, .inl (by rw [hk, hd1', Int.add_mul_emod_self_left]; exact emod_one_of h1)⟩
    clear hk hd1 hd2 hd0 hd hd1'
    go_wp2
    go_ret2
    exact ⟨x, 0, rfl, HX.out, n, rfl⟩
  · have h1d : (d == 1) = false := by simp [hd1']
    have h1n : (d != 1) = true := by simp [hd1']
    have HX : Hid (IsInv a m 0) := Lib.hid ⟨by omega, by omega, .inr ⟨rfl, no_inv hd1 hd2 hd0 hd1'⟩⟩
    clear hk hd1 hd2 hd0 hd hd1'
    go_wp2
    go_ret2
    exact ⟨0, 10, rfl, HX.out, n, rfl⟩
end Go.Proofs.YtdlhodbiaoafiaaGreatDoor
namespace Go.Proofs.YtdlhodbiaoafiaaGreatDoor
open Go.RowKit SpM
set_option linter.unusedVariables false
set_option linter.unusedSimpArgs false
set_option maxRecDepth 100000
theorem log_small {b x v : Int} (h : ((List.range 11).all fun u : Nat => pw b u 23 != x || (u : Int) == v) = true) : ∀ u, 0 ≤ u → u < 11 → pw b u 23 = x → u = v := fun u h0 h1 he => by
  obtain ⟨n, rfl⟩ := Int.eq_ofNat_of_zero_le h0
  have h2 := List.all_eq_true.1 h n (List.mem_range.2 (by omega))
  have e : (pw b (n : Int) 23 != x) = false := by simpa using he
  rw [e, Bool.false_or] at h2
  simpa using h2
def Lg (b x v : Int) : Prop := Hid (chkG 23 11 4 [b, x] = 0) ∧ (b == 1) = false ∧ (∃ j, j < 1024 ∧ Hid (yL 23 b x j = 1)) ∧ Hid (∀ u, 0 ≤ u → u < 11 → pw b u 23 = x → u = v)
theorem lg_any (b x v : Int) (h : Lg b x v) (w : World) (hv : Hid (Vars w)) :
    Calls Tryz.prog 106 #[gv 23 11 4, .int .i64 b, .int .i64 x] w fun e' w' => e' = .returned (.tuple #[.int .i64 v, .int .i64 0]) ∧ Below w.heap.size w w' := by
  obtain ⟨h1, h2, ⟨j, h3, h4⟩, h5⟩ := h
  exact glog_hit 23 11 4 b x h1 h2 (by omega) j h3 h4 v h5 w hv
theorem lg_4_18 : Lg 4 18 3 := ⟨Lib.hid (by kernel_rfl), rfl, ⟨8, by omega, Lib.hid (by kernel_rfl)⟩, Lib.hid (log_small (by kernel_rfl))⟩
theorem lg_4_1 : Lg 4 1 0 := ⟨Lib.hid (by kernel_rfl), rfl, ⟨0, by omega, Lib.hid (by kernel_rfl)⟩, Lib.hid (log_small (by kernel_rfl))⟩
theorem lg_4_4 : Lg 4 4 1 := ⟨Lib.hid (by kernel_rfl), rfl, ⟨10, by omega, Lib.hid (by kernel_rfl)⟩, Lib.hid (log_small (by kernel_rfl))⟩
theorem lg_2_4 : Lg 2 4 2 := ⟨Lib.hid (by kernel_rfl), rfl, ⟨9, by omega, Lib.hid (by kernel_rfl)⟩, Lib.hid (log_small (by kernel_rfl))⟩
theorem lg_2_8 : Lg 2 8 3 := ⟨Lib.hid (by kernel_rfl), rfl, ⟨8, by omega, Lib.hid (by kernel_rfl)⟩, Lib.hid (log_small (by kernel_rfl))⟩
theorem lg_2_1 : Lg 2 1 0 := ⟨Lib.hid (by kernel_rfl), rfl, ⟨0, by omega, Lib.hid (by kernel_rfl)⟩, Lib.hid (log_small (by kernel_rfl))⟩
set_option maxHeartbeats 3200000 in
theorem logs_any (a x b y v u : Int) (h1 : Lg a x v) (h2 : Lg b y u) (w : World) (hv : Hid (Vars w)) :
    Calls Tryz.prog 72 #[gv 23 11 4, .int .i64 a, .int .i64 x, .int .i64 b, .int .i64 y] w fun e' w' => e' = .returned (.tuple #[.int .i64 v, .int .i64 u, .int .i64 0]) ∧ Below w.heap.size w w' := by
  obtain ⟨w0, hW⟩ : ∃ W, (w.alloc (gObj 23 11 4)) = W := ⟨_, rfl⟩
  have HBw : Hid (Below w.heap.size w w0) := Lib.hid (by rw [← hW]; exact below_box0 _ _)
  have hc : w0.cell? ⟨w.heap.size, 0, none⟩ = some (.int .i64 23) ∧ w0.cell? ⟨w.heap.size, 1, none⟩ = some (.int .i64 11) ∧ w0.cell? ⟨w.heap.size, 2, none⟩ = some (.int .i64 4) := by rw [← hW]; exact ⟨allocs_cell (by simp) (by rfl), allocs_cell (by simp) (by rfl), allocs_cell (by simp) (by rfl)⟩
  have kC := Lib.hid (show ∀ u : World, Hid (Below w0.heap.size w0 u) → u.cell? ⟨w.heap.size, 0, none⟩ = some (.int .i64 23) ∧ u.cell? ⟨w.heap.size, 1, none⟩ = some (.int .i64 11) ∧ u.cell? ⟨w.heap.size, 2, none⟩ = some (.int .i64 4) from fun u h => ⟨cell_below hc.1 h.out, cell_below hc.2.1 h.out, cell_below hc.2.2 h.out⟩)
  have kV := Lib.hid (show ∀ u : World, Hid (Below w0.heap.size w0 u) → Hid (Vars u) from fun u h => Lib.hid ((hv.out.below) (below_ext HBw.out h.out)))
  have HB_0 : Hid (Below w0.heap.size w0 w0) := Lib.hid (Below.refl _ _)
  have HW := Lib.hid hW
  clear hW hc hv
  go_enter Tryz.func72, Tryz.ntmps72
  go_wp2_with fail
  rw [HW.out]
  obtain ⟨zc0, zc1, zc2⟩ := kC.out _ HB_0
  go_wp2_with fail
  refine (lg_any a x v h1 _ (kV.out _ HB_0)).mono ?_
  rintro e w1 ⟨rfl, hb0⟩
  have HB_1 := Lib.hid (below_ext HB_0.out hb0)
  clear zc0 zc1 zc2
  clear hb0
  obtain ⟨zc0, zc1, zc2⟩ := kC.out _ HB_1
  go_wp2_with fail
  refine (lg_any b y u h2 _ (kV.out _ HB_1)).mono ?_
  rintro e w2 ⟨rfl, hb0⟩
  have HB_2 := Lib.hid (below_ext HB_1.out hb0)
  clear zc0 zc1 zc2
  clear hb0
  obtain ⟨zc0, zc1, zc2⟩ := kC.out _ HB_2
  have hbF := below_ext HBw.out HB_2.out
  go_wp2
  go_ret3
  exact ⟨rfl, hbF⟩
set_option maxHeartbeats 6400000 in
theorem false_same (a ya b yb s t : Int) (pb ca : Nat) (C : Int) (Z : Option Addr) (nz cz : Nat) (vx vy vs vt : Int) (h1 : Lg a ya vx) (h2 : Lg b yb vy) (h3 : Lg a s vs) (h4 : Lg b t vt) (hr : Hid (chkG 23 11 4 [a, ya, b, yb] = 0)) (hr2 : Hid (chkG 23 11 4 [s, t] = 0)) (b0 : 0 ≤ vx ∧ vx < 11 ∧ 0 ≤ vy ∧ vy < 11 ∧ 0 ≤ vs ∧ vs < 11 ∧ 0 ≤ vt ∧ vt < 11) (hxy : (vx == vy) = true) (w : World) (hv : Hid (Vars w)) (hP : Hid (Cells w pb [s, t])) :
    Calls Tryz.prog 40 #[gv 23 11 4, .int .i64 a, .int .i64 ya, .int .i64 b, .int .i64 yb, prvL (some ⟨pb, 0, none⟩) 2 ca C Z nz cz] w fun e' w' => e' = .returned (.tuple #[.int .i64 0, .int .i64 20]) ∧ Below w.heap.size w w' := by
  obtain ⟨x0, x1, y0, y1, s0, s1, t0, t1⟩ := b0
  have ha1 := h1.2.1
  have hb1 := h2.2.1
  obtain ⟨w0, hW⟩ : ∃ W, ((w.alloc (gObj 23 11 4)).alloc (prObjL (some ⟨pb, 0, none⟩) 2 ca C Z nz cz)) = W := ⟨_, rfl⟩
  have HBw : Hid (Below w.heap.size w w0) := Lib.hid (by rw [← hW]; exact below_two (Below.refl _ _))
  have hc : w0.cell? ⟨w.heap.size, 0, none⟩ = some (.int .i64 23) ∧ w0.cell? ⟨w.heap.size, 1, none⟩ = some (.int .i64 11) ∧ w0.cell? ⟨w.heap.size, 2, none⟩ = some (.int .i64 4) ∧ w0.cell? ⟨w.heap.size + 1, 0, none⟩ = some (.slice (some ⟨pb, 0, none⟩) 2 ca) ∧ w0.cell? ⟨w.heap.size + 1, 1, none⟩ = some (.int .i64 C) ∧ w0.cell? ⟨w.heap.size + 1, 2, none⟩ = some (.slice Z nz cz) := by rw [← hW]; exact ⟨cell_below (allocs_cell (by simp) (by rfl)) (below_box0 _ _), cell_below (allocs_cell (by simp) (by rfl)) (below_box0 _ _), cell_below (allocs_cell (by simp) (by rfl)) (below_box0 _ _), allocs_cell (by simp) (by rfl), allocs_cell (by simp) (by rfl), allocs_cell (by simp) (by rfl)⟩
  have kC := Lib.hid (show ∀ u : World, Hid (Below w0.heap.size w0 u) → u.cell? ⟨w.heap.size, 0, none⟩ = some (.int .i64 23) ∧ u.cell? ⟨w.heap.size, 1, none⟩ = some (.int .i64 11) ∧ u.cell? ⟨w.heap.size, 2, none⟩ = some (.int .i64 4) ∧ u.cell? ⟨w.heap.size + 1, 0, none⟩ = some (.slice (some ⟨pb, 0, none⟩) 2 ca) ∧ u.cell? ⟨w.heap.size + 1, 1, none⟩ = some (.int .i64 C) ∧ u.cell? ⟨w.heap.size + 1, 2, none⟩ = some (.slice Z nz cz) from fun u h => ⟨cell_below hc.1 h.out, cell_below hc.2.1 h.out, cell_below hc.2.2.1 h.out, cell_below hc.2.2.2.1 h.out, cell_below hc.2.2.2.2.1 h.out, cell_below hc.2.2.2.2.2 h.out⟩)
  have kV := Lib.hid (show ∀ u : World, Hid (Below w0.heap.size w0 u) → Hid (Vars u) from fun u h => Lib.hid ((hv.out.below) (below_ext HBw.out h.out)))
  have kP := Lib.hid (show ∀ u : World, Hid (Below w0.heap.size w0 u) → Hid (Cells u pb [s, t]) from fun u h => Lib.hid ((hP.out.below) (below_ext HBw.out h.out)))
  have HB_0 : Hid (Below w0.heap.size w0 w0) := Lib.hid (Below.refl _ _)
  have HW := Lib.hid hW
  clear hW hc hv hP
  go_enter Tryz.func40, Tryz.ntmps40
  go_wp2_with fail
  rw [HW.out]
  obtain ⟨zc0, zc1, zc2, zc3, zc4, zc5⟩ := kC.out _ HB_0
  have hq := below_box0 w0 (.cells #[.int .i64 a, .int .i64 ya, .int .i64 b, .int .i64 yb] 3)
  have HO := Lib.hid (show Cells (w0.alloc (.cells #[.int .i64 a, .int .i64 ya, .int .i64 b, .int .i64 yb] 3)) (w.heap.size + 1 + 1) [a, ya, b, yb] from by
    have e : w.heap.size + 1 + 1 = w0.heap.size := by rw [← HW.out]; simp
    rw [e]
    exact cells4 w0 3 a ya b yb)
  have HBa := Lib.hid (below_ext HB_0.out hq)
  clear hq
  go_wp2_with fail
  refine (eqcheck_any 23 11 4 _ [a, ya, b, yb] 4 4 (Lib.hid rfl) (by omega) 0 hr (by omega) _ (kV.out _ HBa) HO).mono ?_
  rintro e w1 ⟨rfl, hb0⟩
  have HB_1 := Lib.hid (below_ext HBa.out hb0)
  clear zc0 zc1 zc2 zc3 zc4 zc5
  clear hb0
  obtain ⟨zc0, zc1, zc2, zc3, zc4, zc5⟩ := kC.out _ HB_1
  go_wp2_with fail
  refine (eqcheck_any 23 11 4 pb [s, t] 2 ca (Lib.hid rfl) (by omega) 0 hr2 (by omega) _ (kV.out _ HB_1) (kP.out _ HB_1)).mono ?_
  rintro e w2 ⟨rfl, hb0⟩
  have HB_2 := Lib.hid (below_ext HB_1.out hb0)
  clear zc0 zc1 zc2 zc3 zc4 zc5
  clear hb0
  obtain ⟨zc0, zc1, zc2, zc3, zc4, zc5⟩ := kC.out _ HB_2
  go_wp2_with fail
  refine (logs_any a ya b yb vx vy h1 h2 _ (kV.out _ HB_2)).mono ?_
  rintro e w3 ⟨rfl, hb0⟩
  have HB_3 := Lib.hid (below_ext HB_2.out hb0)
  clear zc0 zc1 zc2 zc3 zc4 zc5
  clear hb0
  obtain ⟨zc0, zc1, zc2, zc3, zc4, zc5⟩ := kC.out _ HB_3
  go_wp2_with fail
  clear zc0 zc1 zc2 zc3 zc4 zc5
  have hS := Lib.hid (show ∀ u1 u2 : World, Hid (Below w0.heap.size w0 u1) → Below u1.heap.size u1 u2 → (u2.cell? ⟨w.heap.size, 0, none⟩ = some (.int .i64 23) ∧ u2.cell? ⟨w.heap.size, 1, none⟩ = some (.int .i64 11) ∧ u2.cell? ⟨w.heap.size, 2, none⟩ = some (.int .i64 4) ∧ u2.cell? ⟨w.heap.size + 1, 0, none⟩ = some (.slice (some ⟨pb, 0, none⟩) 2 ca) ∧ u2.cell? ⟨w.heap.size + 1, 1, none⟩ = some (.int .i64 C) ∧ u2.cell? ⟨w.heap.size + 1, 2, none⟩ = some (.slice Z nz cz) ∧ u2.cell? ⟨pb, 0, none⟩ = some (.int .i64 s) ∧ u2.cell? ⟨pb, 1, none⟩ = some (.int .i64 t) ∧ Hid (Below w0.heap.size w0 u2)) from fun u1 u2 h1 h2 => by
    have h3 := Lib.hid (below_ext h1.out h2)
    obtain ⟨y0, y1, y2, y3, y4, y5⟩ := kC.out _ h3
    have q0 := (kP.out _ h3).out 0 (by simp)
    have q1 := (kP.out _ h3).out 1 (by simp)
    exact ⟨y0, y1, y2, y3, y4, y5, q0, q1, h3⟩)
  refine wp_region_T (S := fun w' => w'.cell? ⟨w.heap.size, 0, none⟩ = some (.int .i64 23) ∧ w'.cell? ⟨w.heap.size, 1, none⟩ = some (.int .i64 11) ∧ w'.cell? ⟨w.heap.size, 2, none⟩ = some (.int .i64 4) ∧ w'.cell? ⟨w.heap.size + 1, 0, none⟩ = some (.slice (some ⟨pb, 0, none⟩) 2 ca) ∧ w'.cell? ⟨w.heap.size + 1, 1, none⟩ = some (.int .i64 C) ∧ w'.cell? ⟨w.heap.size + 1, 2, none⟩ = some (.slice Z nz cz) ∧ w'.cell? ⟨pb, 0, none⟩ = some (.int .i64 s) ∧ w'.cell? ⟨pb, 1, none⟩ = some (.int .i64 t) ∧ Hid (Below w0.heap.size w0 w')) (E := []) (by kernel_rfl) (hS.out _ _ HB_3 ((Below.refl _ _).drew)) (fun hHeld => ?_)
  refine wpT_take (i := 0) (oi := _) (v := ?_) rfl (by kernel_rfl) (by kernel_rfl) (by kernel_rfl) (by kernel_rfl) (fun _ _ _ h => h) (Or.inl ⟨by rfl, ?_⟩) (by assumption) ?_
  rotate_left; (intro wS hSw; (try dsimp only at hSw); go_simp <;> with_reducible rfl)
  try simp only [List.getElem_toArray, List.getElem_cons_zero, List.getElem_cons_succ, Act.put, List.setIfInBounds_toArray, List.set_cons_zero, List.set_cons_succ]
  refine wpT_take (i := 1) (oi := _) (v := ?_) rfl (by kernel_rfl) (by kernel_rfl) (by kernel_rfl) (by kernel_rfl) (fun _ _ _ h => h) (Or.inl ⟨by rfl, ?_⟩) (by assumption) ?_
  rotate_left; (intro wS hSw; (try dsimp only at hSw); go_simp <;> with_reducible rfl)
  try simp only [List.getElem_toArray, List.getElem_cons_zero, List.getElem_cons_succ, Act.put, List.setIfInBounds_toArray, List.set_cons_zero, List.set_cons_succ]
  refine wpT_take (i := 2) (oi := _) (v := ?_) rfl (by kernel_rfl) (by kernel_rfl) (by kernel_rfl) (by kernel_rfl) (fun _ _ _ h => h) (Or.inl ⟨by rfl, ?_⟩) (by assumption) ?_
  rotate_left; (intro wS hSw; (try dsimp only at hSw); go_simp <;> with_reducible rfl)
  try simp only [List.getElem_toArray, List.getElem_cons_zero, List.getElem_cons_succ, Act.put, List.setIfInBounds_toArray, List.set_cons_zero, List.set_cons_succ]
  refine wpT_take (i := 3) (oi := _) (v := ?_) rfl (by kernel_rfl) (by kernel_rfl) (by kernel_rfl) (by kernel_rfl) (fun _ _ _ h => h) (Or.inl ⟨by rfl, ?_⟩) (by assumption) ?_
  rotate_left; (intro wS hSw; (try dsimp only at hSw); go_simp <;> with_reducible rfl)
  try simp only [List.getElem_toArray, List.getElem_cons_zero, List.getElem_cons_succ, Act.put, List.setIfInBounds_toArray, List.set_cons_zero, List.set_cons_succ]
  refine wpT_take (i := 4) (oi := _) (v := ?_) rfl (by kernel_rfl) (by kernel_rfl) (by kernel_rfl) (by kernel_rfl) (fun _ _ _ h => h) (Or.inl ⟨by rfl, ?_⟩) (by assumption) ?_
  rotate_left; (intro wS hSw; (try dsimp only at hSw); go_simp <;> with_reducible rfl)
  try simp only [List.getElem_toArray, List.getElem_cons_zero, List.getElem_cons_succ, Act.put, List.setIfInBounds_toArray, List.set_cons_zero, List.set_cons_succ]
  refine wpT_take (i := 5) (oi := _) (v := ?_) rfl (by kernel_rfl) (by kernel_rfl) (by kernel_rfl) (by kernel_rfl) (fun _ _ _ h => h) (Or.inl ⟨by rfl, ?_⟩) (by assumption) ?_
  rotate_left; (intro wS hSw; (try dsimp only at hSw); go_simp <;> with_reducible rfl)
  try simp only [List.getElem_toArray, List.getElem_cons_zero, List.getElem_cons_succ, Act.put, List.setIfInBounds_toArray, List.set_cons_zero, List.set_cons_succ]
  refine wpT_take (i := 6) (oi := _) (v := ?_) rfl (by kernel_rfl) (by kernel_rfl) (by kernel_rfl) (by kernel_rfl) (fun _ _ _ h => h) (Or.inl ⟨by rfl, ?_⟩) (by assumption) ?_
  rotate_left; (intro wS hSw; (try dsimp only at hSw); go_simp <;> with_reducible rfl)
  try simp only [List.getElem_toArray, List.getElem_cons_zero, List.getElem_cons_succ, Act.put, List.setIfInBounds_toArray, List.set_cons_zero, List.set_cons_succ]
  refine wpT_take (i := 7) (oi := _) (v := ?_) rfl (by kernel_rfl) (by kernel_rfl) (by kernel_rfl) (by kernel_rfl) (fun _ _ _ h => h) (Or.inl ⟨by rfl, ?_⟩) (by assumption) ?_
  rotate_left; (intro wS hSw; (try dsimp only at hSw); go_simp <;> with_reducible rfl)
  try simp only [List.getElem_toArray, List.getElem_cons_zero, List.getElem_cons_succ, Act.put, List.setIfInBounds_toArray, List.set_cons_zero, List.set_cons_succ]
  refine wpT_take (i := 8) (oi := _) (v := ?_) rfl (by kernel_rfl) (by kernel_rfl) (by kernel_rfl) (by kernel_rfl) (fun _ _ _ h => h) (Or.inl ⟨by rfl, ?_⟩) (by assumption) ?_
  rotate_left; (intro wS hSw; (try dsimp only at hSw); go_simp <;> with_reducible rfl)
  try simp only [List.getElem_toArray, List.getElem_cons_zero, List.getElem_cons_succ, Act.put, List.setIfInBounds_toArray, List.set_cons_zero, List.set_cons_succ]
  refine wpT_take (i := 9) (oi := _) (v := ?_) rfl (by kernel_rfl) (by kernel_rfl) (by kernel_rfl) (by kernel_rfl) (fun _ _ _ h => h) (Or.inl ⟨by rfl, ?_⟩) (by assumption) ?_
  rotate_left; (intro wS hSw; (try dsimp only at hSw); go_simp <;> with_reducible rfl)
  try simp only [List.getElem_toArray, List.getElem_cons_zero, List.getElem_cons_succ, Act.put, List.setIfInBounds_toArray, List.set_cons_zero, List.set_cons_succ]
  refine wpT_take (i := 10) (oi := _) (v := ?_) rfl (by kernel_rfl) (by kernel_rfl) (by kernel_rfl) (by kernel_rfl) (fun _ _ _ h => h) (Or.inl ⟨by rfl, ?_⟩) (by assumption) ?_
  rotate_left; (intro wS hSw; (try dsimp only at hSw); go_simp <;> with_reducible rfl)
  try simp only [List.getElem_toArray, List.getElem_cons_zero, List.getElem_cons_succ, Act.put, List.setIfInBounds_toArray, List.set_cons_zero, List.set_cons_succ]
  refine wpT_one (i := 11) (by kernel_rfl) rfl (fun K hK => ?_)
  go_simp
  (with_reducible refine (logs_any a s b t vs vt h3 h4 _ ?_).mono ?_); (go_split_ands; exact kV.out _ (by assumption)); rintro e wA ⟨rfl, hbA⟩
  refine hK.out _ _ ?_ (fun hHeld => ?_)
  · (go_split_ands; exact hS.out _ _ (by assumption) hbA)
  clear hK K
  try simp only [List.getElem_toArray, List.getElem_cons_zero, List.getElem_cons_succ, Act.put, List.setIfInBounds_toArray, List.set_cons_zero, List.set_cons_succ]
  refine wpT_take (i := 12) (oi := _) (v := ?_) rfl (by kernel_rfl) (by kernel_rfl) (by kernel_rfl) (by kernel_rfl) (fun _ _ _ h => h) (Or.inl ⟨by rfl, ?_⟩) (by assumption) ?_
  rotate_left; (intro wS hSw; (try dsimp only at hSw); go_simp <;> with_reducible rfl)
  try simp only [List.getElem_toArray, List.getElem_cons_zero, List.getElem_cons_succ, Act.put, List.setIfInBounds_toArray, List.set_cons_zero, List.set_cons_succ]
  refine wpT_take (i := 13) (oi := _) (v := ?_) rfl (by kernel_rfl) (by kernel_rfl) (by kernel_rfl) (by kernel_rfl) (fun _ _ _ h => h) (Or.inl ⟨by rfl, ?_⟩) (by assumption) ?_
  rotate_left; (intro wS hSw; (try dsimp only at hSw); go_simp <;> with_reducible rfl)
  try simp only [List.getElem_toArray, List.getElem_cons_zero, List.getElem_cons_succ, Act.put, List.setIfInBounds_toArray, List.set_cons_zero, List.set_cons_succ]
  refine wpT_take (i := 14) (oi := _) (v := ?_) rfl (by kernel_rfl) (by kernel_rfl) (by kernel_rfl) (by kernel_rfl) (fun _ _ _ h => h) (Or.inl ⟨by rfl, ?_⟩) (by assumption) ?_
  rotate_left; (intro wS hSw; (try dsimp only at hSw); go_simp <;> with_reducible rfl)
  try simp only [List.getElem_toArray, List.getElem_cons_zero, List.getElem_cons_succ, Act.put, List.setIfInBounds_toArray, List.set_cons_zero, List.set_cons_succ]
  refine wpT_take (i := 15) (oi := _) (v := ?_) rfl (by kernel_rfl) (by kernel_rfl) (by kernel_rfl) (by kernel_rfl) (fun _ _ _ h => h) (Or.inl ⟨by rfl, ?_⟩) (by assumption) ?_
  rotate_left; (intro wS hSw; (try dsimp only at hSw); go_simp <;> with_reducible rfl)
  try simp only [List.getElem_toArray, List.getElem_cons_zero, List.getElem_cons_succ, Act.put, List.setIfInBounds_toArray, List.set_cons_zero, List.set_cons_succ]
  refine wpT_take (i := 16) (oi := _) (v := ?_) rfl (by kernel_rfl) (by kernel_rfl) (by kernel_rfl) (by kernel_rfl) (fun _ _ _ h => h) (Or.inl ⟨by rfl, ?_⟩) (by assumption) ?_
  rotate_left; (intro wS hSw; (try dsimp only at hSw); go_simp <;> with_reducible rfl)
  try simp only [List.getElem_toArray, List.getElem_cons_zero, List.getElem_cons_succ, Act.put, List.setIfInBounds_toArray, List.set_cons_zero, List.set_cons_succ]
  refine wpT_take (i := 17) (oi := _) (v := ?_) rfl (by kernel_rfl) (by kernel_rfl) (by kernel_rfl) (by kernel_rfl) (fun _ _ _ h => h) (Or.inl ⟨by rfl, ?_⟩) (by assumption) ?_
  rotate_left; (intro wS hSw; (try dsimp only at hSw); go_simp <;> with_reducible rfl)
  try simp only [List.getElem_toArray, List.getElem_cons_zero, List.getElem_cons_succ, Act.put, List.setIfInBounds_toArray, List.set_cons_zero, List.set_cons_succ]
  refine wpT_take (i := 18) (oi := _) (v := ?_) rfl (by kernel_rfl) (by kernel_rfl) (by kernel_rfl) (by kernel_rfl) (fun _ _ _ h => h) (Or.inl ⟨by rfl, ?_⟩) (by assumption) ?_
  rotate_left; (intro wS hSw; (try dsimp only at hSw); go_simp <;> with_reducible rfl)
  try simp only [List.getElem_toArray, List.getElem_cons_zero, List.getElem_cons_succ, Act.put, List.setIfInBounds_toArray, List.set_cons_zero, List.set_cons_succ]
  refine wpT_done (by kernel_rfl) ?_ _
  obtain ⟨z0, z1, z2, z3, z4, z5, q0, q1, HBF⟩ := hHeld
  have hbF := below_ext HBw.out HBF.out
  go_wp2
  go_ret2
  exact ⟨rfl, hbF⟩
theorem wInv_use {a m x : Int} {w w' : World} {e : Ending} (h : WInvOut a m w e w') (hx : IsInv a m x) : ∃ n r, w' = w.drewN n ∧ e = .returned (.tuple #[.int .i64 x, .int .i64 r]) := by
  obtain ⟨y, r, he, hy, n, hw⟩ := h
  exact ⟨n, r, hw, by rw [he, isInv_unique hy hx]⟩
set_option maxHeartbeats 6400000 in
theorem false_ok (a ya b yb s t : Int) (pb ca : Nat) (C : Int) (Z : Option Addr) (nz cz : Nat) (vx vy vs vt : Int) (h1 : Lg a ya vx) (h2 : Lg b yb vy) (h3 : Lg a s vs) (h4 : Lg b t vt) (hr : Hid (chkG 23 11 4 [a, ya, b, yb] = 0)) (hr2 : Hid (chkG 23 11 4 [s, t] = 0)) (b0 : 0 ≤ vx ∧ vx < 11 ∧ 0 ≤ vy ∧ vy < 11 ∧ 0 ≤ vs ∧ vs < 11 ∧ 0 ≤ vt ∧ vt < 11) (hxy : (vx == vy) = false) (be iv r : Int) (hbe : Hid ((vy - vx + 11) % 11 = be)) (be0 : 0 ≤ be) (be1 : be < 11) (iv0 : 0 ≤ iv) (iv1 : iv < 11) (hi : Hid (IsInv be 11 iv)) (hrr : Hid ((vs - vt + 11) % 11 * iv % 11 = r)) (w : World) (hv : Hid (Vars w)) (hP : Hid (Cells w pb [s, t])) :
    Calls Tryz.prog 40 #[gv 23 11 4, .int .i64 a, .int .i64 ya, .int .i64 b, .int .i64 yb, prvL (some ⟨pb, 0, none⟩) 2 ca C Z nz cz] w fun e' w' => e' = .returned (.tuple #[.int .i64 r, .int .i64 0]) ∧ Below w.heap.size w w' := by
  obtain ⟨x0, x1, y0, y1, s0, s1, t0, t1⟩ := b0
  have ha1 := h1.2.1
  have hb1 := h2.2.1
  obtain ⟨w0, hW⟩ : ∃ W, ((w.alloc (gObj 23 11 4)).alloc (prObjL (some ⟨pb, 0, none⟩) 2 ca C Z nz cz)) = W := ⟨_, rfl⟩
  have HBw : Hid (Below w.heap.size w w0) := Lib.hid (by rw [← hW]; exact below_two (Below.refl _ _))
  have hc : w0.cell? ⟨w.heap.size, 0, none⟩ = some (.int .i64 23) ∧ w0.cell? ⟨w.heap.size, 1, none⟩ = some (.int .i64 11) ∧ w0.cell? ⟨w.heap.size, 2, none⟩ = some (.int .i64 4) ∧ w0.cell? ⟨w.heap.size + 1, 0, none⟩ = some (.slice (some ⟨pb, 0, none⟩) 2 ca) ∧ w0.cell? ⟨w.heap.size + 1, 1, none⟩ = some (.int .i64 C) ∧ w0.cell? ⟨w.heap.size + 1, 2, none⟩ = some (.slice Z nz cz) := by rw [← hW]; exact ⟨cell_below (allocs_cell (by simp) (by rfl)) (below_box0 _ _), cell_below (allocs_cell (by simp) (by rfl)) (below_box0 _ _), cell_below (allocs_cell (by simp) (by rfl)) (below_box0 _ _), allocs_cell (by simp) (by rfl), allocs_cell (by simp) (by rfl), allocs_cell (by simp) (by rfl)⟩
  have kC := Lib.hid (show ∀ u : World, Hid (Below w0.heap.size w0 u) → u.cell? ⟨w.heap.size, 0, none⟩ = some (.int .i64 23) ∧ u.cell? ⟨w.heap.size, 1, none⟩ = some (.int .i64 11) ∧ u.cell? ⟨w.heap.size, 2, none⟩ = some (.int .i64 4) ∧ u.cell? ⟨w.heap.size + 1, 0, none⟩ = some (.slice (some ⟨pb, 0, none⟩) 2 ca) ∧ u.cell? ⟨w.heap.size + 1, 1, none⟩ = some (.int .i64 C) ∧ u.cell? ⟨w.heap.size + 1, 2, none⟩ = some (.slice Z nz cz) from fun u h => ⟨cell_below hc.1 h.out, cell_below hc.2.1 h.out, cell_below hc.2.2.1 h.out, cell_below hc.2.2.2.1 h.out, cell_below hc.2.2.2.2.1 h.out, cell_below hc.2.2.2.2.2 h.out⟩)
  have kV := Lib.hid (show ∀ u : World, Hid (Below w0.heap.size w0 u) → Hid (Vars u) from fun u h => Lib.hid ((hv.out.below) (below_ext HBw.out h.out)))
  have kP := Lib.hid (show ∀ u : World, Hid (Below w0.heap.size w0 u) → Hid (Cells u pb [s, t]) from fun u h => Lib.hid ((hP.out.below) (below_ext HBw.out h.out)))
  have HB_0 : Hid (Below w0.heap.size w0 w0) := Lib.hid (Below.refl _ _)
  have HW := Lib.hid hW
  clear hW hc hv hP
  go_enter Tryz.func40, Tryz.ntmps40
  go_wp2_with fail
  rw [HW.out]
  obtain ⟨zc0, zc1, zc2, zc3, zc4, zc5⟩ := kC.out _ HB_0
  have hq := below_box0 w0 (.cells #[.int .i64 a, .int .i64 ya, .int .i64 b, .int .i64 yb] 3)
  have HO := Lib.hid (show Cells (w0.alloc (.cells #[.int .i64 a, .int .i64 ya, .int .i64 b, .int .i64 yb] 3)) (w.heap.size + 1 + 1) [a, ya, b, yb] from by
    have e : w.heap.size + 1 + 1 = w0.heap.size := by rw [← HW.out]; simp
    rw [e]
    exact cells4 w0 3 a ya b yb)
  have HBa := Lib.hid (below_ext HB_0.out hq)
  clear hq
  go_wp2_with fail
  refine (eqcheck_any 23 11 4 _ [a, ya, b, yb] 4 4 (Lib.hid rfl) (by omega) 0 hr (by omega) _ (kV.out _ HBa) HO).mono ?_
  rintro e w1 ⟨rfl, hb0⟩
  have HB_1 := Lib.hid (below_ext HBa.out hb0)
  clear zc0 zc1 zc2 zc3 zc4 zc5
  clear hb0
  obtain ⟨zc0, zc1, zc2, zc3, zc4, zc5⟩ := kC.out _ HB_1
  go_wp2_with fail
  refine (eqcheck_any 23 11 4 pb [s, t] 2 ca (Lib.hid rfl) (by omega) 0 hr2 (by omega) _ (kV.out _ HB_1) (kP.out _ HB_1)).mono ?_
  rintro e w2 ⟨rfl, hb0⟩
  have HB_2 := Lib.hid (below_ext HB_1.out hb0)
  clear zc0 zc1 zc2 zc3 zc4 zc5
  clear hb0
  obtain ⟨zc0, zc1, zc2, zc3, zc4, zc5⟩ := kC.out _ HB_2
  go_wp2_with fail
  refine (logs_any a ya b yb vx vy h1 h2 _ (kV.out _ HB_2)).mono ?_
  rintro e w3 ⟨rfl, hb0⟩
  have HB_3 := Lib.hid (below_ext HB_2.out hb0)
  clear zc0 zc1 zc2 zc3 zc4 zc5
  clear hb0
  obtain ⟨zc0, zc1, zc2, zc3, zc4, zc5⟩ := kC.out _ HB_3
  go_wp2_with fail
  clear zc0 zc1 zc2 zc3 zc4 zc5
  have hS := Lib.hid (show ∀ u1 u2 : World, Hid (Below w0.heap.size w0 u1) → Below u1.heap.size u1 u2 → (u2.cell? ⟨w.heap.size, 0, none⟩ = some (.int .i64 23) ∧ u2.cell? ⟨w.heap.size, 1, none⟩ = some (.int .i64 11) ∧ u2.cell? ⟨w.heap.size, 2, none⟩ = some (.int .i64 4) ∧ u2.cell? ⟨w.heap.size + 1, 0, none⟩ = some (.slice (some ⟨pb, 0, none⟩) 2 ca) ∧ u2.cell? ⟨w.heap.size + 1, 1, none⟩ = some (.int .i64 C) ∧ u2.cell? ⟨w.heap.size + 1, 2, none⟩ = some (.slice Z nz cz) ∧ u2.cell? ⟨pb, 0, none⟩ = some (.int .i64 s) ∧ u2.cell? ⟨pb, 1, none⟩ = some (.int .i64 t) ∧ Hid (Below w0.heap.size w0 u2)) from fun u1 u2 h1 h2 => by
    have h3 := Lib.hid (below_ext h1.out h2)
    obtain ⟨y0, y1, y2, y3, y4, y5⟩ := kC.out _ h3
    have q0 := (kP.out _ h3).out 0 (by simp)
    have q1 := (kP.out _ h3).out 1 (by simp)
    exact ⟨y0, y1, y2, y3, y4, y5, q0, q1, h3⟩)
  refine wp_region_T (S := fun w' => w'.cell? ⟨w.heap.size, 0, none⟩ = some (.int .i64 23) ∧ w'.cell? ⟨w.heap.size, 1, none⟩ = some (.int .i64 11) ∧ w'.cell? ⟨w.heap.size, 2, none⟩ = some (.int .i64 4) ∧ w'.cell? ⟨w.heap.size + 1, 0, none⟩ = some (.slice (some ⟨pb, 0, none⟩) 2 ca) ∧ w'.cell? ⟨w.heap.size + 1, 1, none⟩ = some (.int .i64 C) ∧ w'.cell? ⟨w.heap.size + 1, 2, none⟩ = some (.slice Z nz cz) ∧ w'.cell? ⟨pb, 0, none⟩ = some (.int .i64 s) ∧ w'.cell? ⟨pb, 1, none⟩ = some (.int .i64 t) ∧ Hid (Below w0.heap.size w0 w')) (E := []) (by kernel_rfl) (hS.out _ _ HB_3 ((Below.refl _ _).drew)) (fun hHeld => ?_)
  refine wpT_take (i := 0) (oi := _) (v := ?_) rfl (by kernel_rfl) (by kernel_rfl) (by kernel_rfl) (by kernel_rfl) (fun _ _ _ h => h) (Or.inl ⟨by rfl, ?_⟩) (by assumption) ?_
  rotate_left; (intro wS hSw; (try dsimp only at hSw); go_simp <;> with_reducible rfl)
  try simp only [List.getElem_toArray, List.getElem_cons_zero, List.getElem_cons_succ, Act.put, List.setIfInBounds_toArray, List.set_cons_zero, List.set_cons_succ]
  refine wpT_take (i := 1) (oi := _) (v := ?_) rfl (by kernel_rfl) (by kernel_rfl) (by kernel_rfl) (by kernel_rfl) (fun _ _ _ h => h) (Or.inl ⟨by rfl, ?_⟩) (by assumption) ?_
  rotate_left; (intro wS hSw; (try dsimp only at hSw); go_simp <;> with_reducible rfl)
  try simp only [List.getElem_toArray, List.getElem_cons_zero, List.getElem_cons_succ, Act.put, List.setIfInBounds_toArray, List.set_cons_zero, List.set_cons_succ]
  refine wpT_take (i := 2) (oi := _) (v := ?_) rfl (by kernel_rfl) (by kernel_rfl) (by kernel_rfl) (by kernel_rfl) (fun _ _ _ h => h) (Or.inl ⟨by rfl, ?_⟩) (by assumption) ?_
  rotate_left; (intro wS hSw; (try dsimp only at hSw); go_simp <;> with_reducible rfl)
  try simp only [List.getElem_toArray, List.getElem_cons_zero, List.getElem_cons_succ, Act.put, List.setIfInBounds_toArray, List.set_cons_zero, List.set_cons_succ]
  refine wpT_take (i := 3) (oi := _) (v := ?_) rfl (by kernel_rfl) (by kernel_rfl) (by kernel_rfl) (by kernel_rfl) (fun _ _ _ h => h) (Or.inl ⟨by rfl, ?_⟩) (by assumption) ?_
  rotate_left; (intro wS hSw; (try dsimp only at hSw); go_simp <;> with_reducible rfl)
  try simp only [List.getElem_toArray, List.getElem_cons_zero, List.getElem_cons_succ, Act.put, List.setIfInBounds_toArray, List.set_cons_zero, List.set_cons_succ]
  refine wpT_take (i := 4) (oi := _) (v := ?_) rfl (by kernel_rfl) (by kernel_rfl) (by kernel_rfl) (by kernel_rfl) (fun _ _ _ h => h) (Or.inl ⟨by rfl, ?_⟩) (by assumption) ?_
  rotate_left; (intro wS hSw; (try dsimp only at hSw); go_simp <;> with_reducible rfl)
  try simp only [List.getElem_toArray, List.getElem_cons_zero, List.getElem_cons_succ, Act.put, List.setIfInBounds_toArray, List.set_cons_zero, List.set_cons_succ]
  refine wpT_take (i := 5) (oi := _) (v := ?_) rfl (by kernel_rfl) (by kernel_rfl) (by kernel_rfl) (by kernel_rfl) (fun _ _ _ h => h) (Or.inl ⟨by rfl, ?_⟩) (by assumption) ?_
  rotate_left; (intro wS hSw; (try dsimp only at hSw); go_simp <;> with_reducible rfl)
  try simp only [List.getElem_toArray, List.getElem_cons_zero, List.getElem_cons_succ, Act.put, List.setIfInBounds_toArray, List.set_cons_zero, List.set_cons_succ]
  refine wpT_take (i := 6) (oi := _) (v := ?_) rfl (by kernel_rfl) (by kernel_rfl) (by kernel_rfl) (by kernel_rfl) (fun _ _ _ h => h) (Or.inl ⟨by rfl, ?_⟩) (by assumption) ?_
  rotate_left; (intro wS hSw; (try dsimp only at hSw); go_simp <;> with_reducible rfl)
  try simp only [List.getElem_toArray, List.getElem_cons_zero, List.getElem_cons_succ, Act.put, List.setIfInBounds_toArray, List.set_cons_zero, List.set_cons_succ]
  refine wpT_take (i := 7) (oi := _) (v := ?_) rfl (by kernel_rfl) (by kernel_rfl) (by kernel_rfl) (by kernel_rfl) (fun _ _ _ h => h) (Or.inl ⟨by rfl, ?_⟩) (by assumption) ?_
  rotate_left; (intro wS hSw; (try dsimp only at hSw); go_simp <;> with_reducible rfl)
  try simp only [List.getElem_toArray, List.getElem_cons_zero, List.getElem_cons_succ, Act.put, List.setIfInBounds_toArray, List.set_cons_zero, List.set_cons_succ]
  refine wpT_take (i := 8) (oi := _) (v := ?_) rfl (by kernel_rfl) (by kernel_rfl) (by kernel_rfl) (by kernel_rfl) (fun _ _ _ h => h) (Or.inl ⟨by rfl, ?_⟩) (by assumption) ?_
  rotate_left; (intro wS hSw; (try dsimp only at hSw); go_simp <;> with_reducible rfl)
  try simp only [List.getElem_toArray, List.getElem_cons_zero, List.getElem_cons_succ, Act.put, List.setIfInBounds_toArray, List.set_cons_zero, List.set_cons_succ]
  refine wpT_take (i := 9) (oi := _) (v := ?_) rfl (by kernel_rfl) (by kernel_rfl) (by kernel_rfl) (by kernel_rfl) (fun _ _ _ h => h) (Or.inl ⟨by rfl, ?_⟩) (by assumption) ?_
  rotate_left; (intro wS hSw; (try dsimp only at hSw); go_simp <;> with_reducible rfl)
  try simp only [List.getElem_toArray, List.getElem_cons_zero, List.getElem_cons_succ, Act.put, List.setIfInBounds_toArray, List.set_cons_zero, List.set_cons_succ]
  refine wpT_take (i := 10) (oi := _) (v := ?_) rfl (by kernel_rfl) (by kernel_rfl) (by kernel_rfl) (by kernel_rfl) (fun _ _ _ h => h) (Or.inl ⟨by rfl, ?_⟩) (by assumption) ?_
  rotate_left; (intro wS hSw; (try dsimp only at hSw); go_simp <;> with_reducible rfl)
  try simp only [List.getElem_toArray, List.getElem_cons_zero, List.getElem_cons_succ, Act.put, List.setIfInBounds_toArray, List.set_cons_zero, List.set_cons_succ]
  refine wpT_one (i := 11) (by kernel_rfl) rfl (fun K hK => ?_)
  go_simp
  (with_reducible refine (logs_any a s b t vs vt h3 h4 _ ?_).mono ?_); (go_split_ands; exact kV.out _ (by assumption)); rintro e wA ⟨rfl, hbA⟩
  refine hK.out _ _ ?_ (fun hHeld => ?_)
  · (go_split_ands; exact hS.out _ _ (by assumption) hbA)
  clear hK K
  try simp only [List.getElem_toArray, List.getElem_cons_zero, List.getElem_cons_succ, Act.put, List.setIfInBounds_toArray, List.set_cons_zero, List.set_cons_succ]
  refine wpT_take (i := 12) (oi := _) (v := ?_) rfl (by kernel_rfl) (by kernel_rfl) (by kernel_rfl) (by kernel_rfl) (fun _ _ _ h => h) (Or.inl ⟨by rfl, ?_⟩) (by assumption) ?_
  rotate_left; (intro wS hSw; (try dsimp only at hSw); go_simp <;> with_reducible rfl)
  try simp only [List.getElem_toArray, List.getElem_cons_zero, List.getElem_cons_succ, Act.put, List.setIfInBounds_toArray, List.set_cons_zero, List.set_cons_succ]
  refine wpT_take (i := 13) (oi := _) (v := ?_) rfl (by kernel_rfl) (by kernel_rfl) (by kernel_rfl) (by kernel_rfl) (fun _ _ _ h => h) (Or.inl ⟨by rfl, ?_⟩) (by assumption) ?_
  rotate_left; (intro wS hSw; (try dsimp only at hSw); go_simp <;> with_reducible rfl)
  try simp only [List.getElem_toArray, List.getElem_cons_zero, List.getElem_cons_succ, Act.put, List.setIfInBounds_toArray, List.set_cons_zero, List.set_cons_succ]
  refine wpT_take (i := 14) (oi := _) (v := ?_) rfl (by kernel_rfl) (by kernel_rfl) (by kernel_rfl) (by kernel_rfl) (fun _ _ _ h => h) (Or.inl ⟨by rfl, ?_⟩) (by assumption) ?_
  rotate_left; (intro wS hSw; (try dsimp only at hSw); go_simp <;> with_reducible rfl)
  try simp only [List.getElem_toArray, List.getElem_cons_zero, List.getElem_cons_succ, Act.put, List.setIfInBounds_toArray, List.set_cons_zero, List.set_cons_succ]
  refine wpT_take (i := 15) (oi := _) (v := ?_) rfl (by kernel_rfl) (by kernel_rfl) (by kernel_rfl) (by kernel_rfl) (fun _ _ _ h => h) (Or.inl ⟨by rfl, ?_⟩) (by assumption) ?_
  rotate_left; (intro wS hSw; (try dsimp only at hSw); go_simp <;> with_reducible rfl)
  try simp only [List.getElem_toArray, List.getElem_cons_zero, List.getElem_cons_succ, Act.put, List.setIfInBounds_toArray, List.set_cons_zero, List.set_cons_succ]
  refine wpT_take (i := 16) (oi := _) (v := ?_) rfl (by kernel_rfl) (by kernel_rfl) (by kernel_rfl) (by kernel_rfl) (fun _ _ _ h => h) (Or.inl ⟨by rfl, ?_⟩) (by assumption) ?_
  rotate_left; (intro wS hSw; (try dsimp only at hSw); go_simp <;> with_reducible rfl)
  try simp only [List.getElem_toArray, List.getElem_cons_zero, List.getElem_cons_succ, Act.put, List.setIfInBounds_toArray, List.set_cons_zero, List.set_cons_succ]
  refine wpT_take (i := 17) (oi := _) (v := ?_) rfl (by kernel_rfl) (by kernel_rfl) (by kernel_rfl) (by kernel_rfl) (fun _ _ _ h => h) (Or.inl ⟨by rfl, ?_⟩) (by assumption) ?_
  rotate_left; (intro wS hSw; (try dsimp only at hSw); go_simp <;> with_reducible rfl)
  try simp only [List.getElem_toArray, List.getElem_cons_zero, List.getElem_cons_succ, Act.put, List.setIfInBounds_toArray, List.set_cons_zero, List.set_cons_succ]
  refine wpT_take (i := 18) (oi := _) (v := ?_) rfl (by kernel_rfl) (by kernel_rfl) (by kernel_rfl) (by kernel_rfl) (fun _ _ _ h => h) (Or.inl ⟨by rfl, ?_⟩) (by assumption) ?_
  rotate_left; (intro wS hSw; (try dsimp only at hSw); go_simp <;> with_reducible rfl)
  try simp only [List.getElem_toArray, List.getElem_cons_zero, List.getElem_cons_succ, Act.put, List.setIfInBounds_toArray, List.set_cons_zero, List.set_cons_succ]
  refine wpT_done (by kernel_rfl) ?_ _
  obtain ⟨z0, z1, z2, z3, z4, z5, q0, q1, HBF⟩ := hHeld
  have hbF := below_ext HBw.out HBF.out
  go_wp2_with fail
  refine (sub_ok vs vt 11 (by omega) s0 s1 t0 t1 _).mono ?_
  rintro e wa ⟨rfl, rfl⟩
  obtain ⟨ab, hab⟩ : ∃ x, (vs - vt + 11) % 11 = x := ⟨_, rfl⟩
  have ab0 : 0 ≤ ab := by omega
  have ab1 : ab < 11 := by omega
  rw [hab]
  have HAB := Lib.hid hab
  clear hab
  go_wp2_with fail
  refine (sub_ok vy vx 11 (by omega) y0 y1 x0 x1 _).mono ?_
  rintro e wa ⟨rfl, rfl⟩
  rw [hbe.out]
  go_wp2_with fail
  refine (winv_any be 11 (by omega) (by omega) be0 be1 _).mono ?_
  intro e wc hI
  obtain ⟨nq, re, hwc, hI2⟩ := wInv_use hI hi.out
  subst hwc
  subst hI2
  go_wp2_with fail
  refine (wmul_ok ab iv 11 (by omega) ab0 ab1 iv0 iv1 _).mono ?_
  rintro e wd ⟨rfl, nr, rfl⟩
  rw [show ab * iv % 11 = r from by rw [← HAB.out]; exact hrr.out]
  have hbG := below_drawN hbF (nq + nr)
  go_wp2
  go_ret2
  exact ⟨rfl, hbG⟩
end Go.Proofs.YtdlhodbiaoafiaaGreatDoor
namespace Go.Proofs.YtdlhodbiaoafiaaGreatDoor
open Go.RowKit SpM
set_option linter.unusedVariables false
set_option linter.unusedSimpArgs false
set_option maxRecDepth 100000
set_option maxHeartbeats 1600000 in
theorem small18_any (w : World) : Calls Tryz.prog 41 #[] w fun e' w' => e' = .returned (gv 23 11 4) ∧ Below w.heap.size w w' := by
  go_enter Tryz.func41, Tryz.ntmps41
  go_wp2
  exact bodyPost_ret (v := gv 23 11 4) (by simp [results, Tryz.results41, go_sem]) rfl ⟨rfl, below_box0 _ _⟩
theorem inv10 : Hid (IsInv 10 11 10) := Lib.hid ⟨by omega, by omega, Or.inl (by decide)⟩
theorem ex18_k : Hid (eqChk 23 11 4 4 18 2 4 10 [4, 1] [9] = true) := Lib.hid (by kernel_rfl)
set_option maxHeartbeats 12800000 in
theorem awake18 (w : World) (hv : Hid (Vars w)) : Calls Tryz.prog 11 #[] w fun e' w' => e' = .returned (.bool true) ∧ Below w.heap.size w w' := by
  have hb0 : Hid (Below w.heap.size w w) := Lib.hid (Below.refl _ _)
  go_enter Tryz.func11, Tryz.ntmps11
  go_wp2_with fail
  refine (small18_any _).mono ?_
  rintro e w1a ⟨rfl, hb⟩
  have HB1a := Lib.hid (below_ext (below_ext hb0.out hb) (below_box0 w1a (.cells #[.int .i64 1, .int .i64 1] 3)))
  have HC1 := Lib.hid (cells2 w1a 3 1 1)
  have HV1 := Lib.hid (hv.out.below HB1a.out)
  clear hb
  go_wp2_with fail
  refine (false_ok 4 18 2 4 1 1 w1a.heap.size 2 0 none 0 0 3 2 0 0 lg_4_18 lg_2_4 lg_4_1 lg_2_1 (Lib.hid (by kernel_rfl)) (Lib.hid (by kernel_rfl)) (by omega) rfl 10 10 0 (Lib.hid rfl) (by omega) (by omega) (by omega) (by omega) inv10 (Lib.hid rfl) _ HV1 HC1).mono ?_
  rintro e w1b ⟨rfl, hb⟩
  have HB1b := Lib.hid (below_ext HB1a.out hb)
  clear hb HC1 HV1 HB1a hb0
  go_wp2_with fail
  refine (small18_any _).mono ?_
  rintro e w2a ⟨rfl, hb⟩
  have HB2a := Lib.hid (below_ext (below_ext HB1b.out hb) (below_box0 w2a (.cells #[.int .i64 4, .int .i64 1] 3)))
  have HC2 := Lib.hid (cells2 w2a 3 4 1)
  have HV2 := Lib.hid (hv.out.below HB2a.out)
  clear hb
  go_wp2_with fail
  refine (false_ok 4 18 2 4 4 1 w2a.heap.size 2 0 none 0 0 3 2 1 0 lg_4_18 lg_2_4 lg_4_4 lg_2_1 (Lib.hid (by kernel_rfl)) (Lib.hid (by kernel_rfl)) (by omega) rfl 10 10 10 (Lib.hid rfl) (by omega) (by omega) (by omega) (by omega) inv10 (Lib.hid rfl) _ HV2 HC2).mono ?_
  rintro e w2b ⟨rfl, hb⟩
  have HB2b := Lib.hid (below_ext HB2a.out hb)
  clear hb HC2 HV2 HB2a HB1b
  go_wp2_with fail
  refine (small18_any _).mono ?_
  rintro e w3a ⟨rfl, hb⟩
  have HB3a := Lib.hid (below_ext (below_ext HB2b.out hb) (below_box0 w3a (.cells #[.int .i64 4, .int .i64 1] 3)))
  have HC3 := Lib.hid (cells2 w3a 3 4 1)
  have HV3 := Lib.hid (hv.out.below HB3a.out)
  clear hb
  go_wp2_with fail
  refine (false_same 4 18 2 8 4 1 w3a.heap.size 2 0 none 0 0 3 3 1 0 lg_4_18 lg_2_8 lg_4_4 lg_2_1 (Lib.hid (by kernel_rfl)) (Lib.hid (by kernel_rfl)) (by omega) rfl _ HV3 HC3).mono ?_
  rintro e w3b ⟨rfl, hb⟩
  have HB3b := Lib.hid (below_ext HB3a.out hb)
  clear hb HC3 HV3 HB3a HB2b
  go_wp2_with fail
  refine (small18_any _).mono ?_
  rintro e w4a ⟨rfl, hb⟩
  have hq1 := below_box0 w4a (.cells #[.int .i64 4, .int .i64 1] 3)
  have hq2 := below_box0 (w4a.alloc (.cells #[.int .i64 4, .int .i64 1] 3)) (.cells #[.int .i64 9] 3)
  have HB4 := Lib.hid (below_ext (below_ext (below_ext HB3b.out hb) hq1) hq2)
  have HA4 := Lib.hid ((sl_of_cells (cells2 w4a 3 4 1)).below hq2)
  have HZ4 := Lib.hid (sl_of_cells (cells1' w4a (.cells #[.int .i64 4, .int .i64 1] 3) 3 9))
  have HV4 := Lib.hid (hv.out.below HB4.out)
  clear hb hq1 hq2 HB3b
  go_wp2_with fail
  refine (eqck_any 23 11 4 4 18 2 4 (some ⟨w4a.heap.size, 0, none⟩) [4, 1] 2 2 10 (some ⟨w4a.heap.size + 1, 0, none⟩) [9] 1 1 (Lib.hid rfl) (Lib.hid rfl) (by omega) (by omega) (by omega) true ex18_k _ HV4 HA4 HZ4).mono ?_
  rintro e w5 ⟨rfl, hb⟩
  have hbF := below_ext HB4.out hb
  go_wp2
  go_ret
  exact ⟨rfl, hbF⟩
end Go.Proofs.YtdlhodbiaoafiaaGreatDoor
namespace Go.Proofs.YtdlhodbiaoafiaaGreatDoor
open Go.RowKit SpM
set_option linter.unusedVariables false
set_option linter.unusedSimpArgs false
set_option maxRecDepth 100000
theorem all_range_eqI : ∀ (xs ys : List Int), xs.length = ys.length → ((List.range xs.length).all fun i => xs.getD i 0 == ys.getD i 0) = (xs == ys)
  | [], [], _ => rfl
  | x :: xs, y :: ys, h => by
    have ih := all_range_eqI xs ys (by simpa using h)
    rw [List.length_cons, List.range_succ_eq_map, List.all_cons, List.all_map]
    simp only [List.getD_cons_zero, Function.comp_def, List.getD_cons_succ, ih]
    simp [List.cons_beq_cons]
  | [], _ :: _, h => by simp at h
  | _ :: _, [], h => by simp at h
section
variable {P : Program} (w : World)
theorem arr_getI {K : IntKind} {l : List Int} {i : Nat} (h : i < l.length) : (arr K l)[i]? = some (.int K (l.getD i 0)) := by
  simp [arr, List.getD, List.getElem?_eq_getElem h]
theorem run_equalIn_arr (d : Nat) (t e : TypeId) (n : Nat) (ht : P.underlying t = some (.array n e)) (he : P.underlying e = some (.int .u8)) (hsz : ∀ w, (sizeOf e).run P w = .ok 1 w)
    (xs ys : List Int) (hx : xs.length = n) (hy : ys.length = n) :
    (Op.equalIn (d + 2) t (.agg (arr .u8 xs)) (.agg (arr .u8 ys))).run P w = .ok (xs == ys) w := by
  rw [← all_range_eqI xs ys (hx.trans hy.symm), hx, List.range_eq_range', Op.equalIn]
  simp only [Sem.run_bind, run_underlying ht, Result.andThen_ok, hsz, Std.Legacy.Range.forIn_eq_forIn_range', Std.Legacy.Range.size, Nat.sub_zero, Nat.add_sub_cancel, Nat.div_one]
  have hl : ∀ i ∈ List.range' 0 n 1, i < n := fun i hi => by simpa using (List.mem_range'_1.1 hi).2
  generalize List.range' 0 n 1 = l at hl ⊢
  induction l with
  | nil => simp
  | cons i l ih =>
    have hi : i < n := hl i (by simp)
    have px : (Go.part e (arr .u8 xs) (i * 1)).run P w = .ok (.int .u8 (xs.getD i 0)) w := by
      have h1 := arr_getI (K := .u8) (l := xs) (i := i) (by omega)
      simp [Go.part, isAgg, run_underlying he, h1]
    have py : (Go.part e (arr .u8 ys) (i * 1)).run P w = .ok (.int .u8 (ys.getD i 0)) w := by
      have h1 := arr_getI (K := .u8) (l := ys) (i := i) (by omega)
      simp [Go.part, isAgg, run_underlying he, h1]
    have pe : (Op.equalIn (d + 1) e (.int .u8 (xs.getD i 0)) (.int .u8 (ys.getD i 0))).run P w = .ok (xs.getD i 0 == ys.getD i 0) w := run_equalIn_int w d e .u8 .u8 _ _ he
    simp only [List.forIn_cons, Sem.run_bind, px, py, pe, Result.andThen_ok, List.all_cons]
    cases hb : (xs.getD i 0 == ys.getD i 0)
    · simp
    · simp only [Bool.not_true, Bool.false_eq_true, if_false, Sem.run_pure, Result.andThen_ok, Bool.true_and]
      exact ih fun j hj => hl j (by simp [hj])
end
theorem szU8 (w : World) : (sizeOf 5).run Tryz.prog w = .ok 1 w := by kernel_rfl
theorem fieldsD : ∃ f1 f2 : Field, (Tryz.prog.fieldsOf 56).toList = [f1, f2] ∧ (f1.name = "Seed" ∧ f1.type = 54 ∧ f1.offset = 0) ∧ (f2.name = "Counter" ∧ f2.type = 3 ∧ f2.offset = 32) := by
  have hn : (Tryz.prog.fieldsOf 56).toList.length = 2 := by kernel_rfl
  have h0 : ((Tryz.prog.fieldsOf 56).toList[0]?).map (fun f => (f.name, f.type, f.offset)) = some ("Seed", 54, 0) := by kernel_rfl
  have h1 : ((Tryz.prog.fieldsOf 56).toList[1]?).map (fun f => (f.name, f.type, f.offset)) = some ("Counter", 3, 32) := by kernel_rfl
  generalize (Tryz.prog.fieldsOf 56).toList = l at hn h0 h1 ⊢
  match l, hn with
  | [f1, f2], _ =>
    simp at h0 h1
    exact ⟨f1, f2, rfl, h0, h1⟩
theorem part_seed (h : List Int) (hl : h.length = 32) (c : Int) (w : World) : (Go.part 54 (tcs h c) 0).run Tryz.prog w = .ok (.agg (arr .u8 h)) w := by
  obtain ⟨a0, a1, a2, a3, a4, a5, a6, a7, a8, a9, a10, a11, a12, a13, a14, a15, a16, a17, a18, a19, a20, a21, a22, a23, a24, a25, a26, a27, a28, a29, a30, a31, rfl⟩ := list32 h hl
  kernel_rfl
theorem part_count (h : List Int) (hl : h.length = 32) (c : Int) (w : World) : (Go.part 3 (tcs h c) 32).run Tryz.prog w = .ok (.int .i64 c) w := by
  obtain ⟨a0, a1, a2, a3, a4, a5, a6, a7, a8, a9, a10, a11, a12, a13, a14, a15, a16, a17, a18, a19, a20, a21, a22, a23, a24, a25, a26, a27, a28, a29, a30, a31, rfl⟩ := list32 h hl
  kernel_rfl
theorem run_eq_draw (h h' : List Int) (hl : h.length = 32) (hl' : h'.length = 32) (c c' : Int) (w : World) :
    (Op.equalIn 10000 56 (.agg (tcs h c)) (.agg (tcs h' c'))).run Tryz.prog w = .ok ((h == h') && (c == c')) w := by
  rw [run_equalIn_struct w 9999 56 _ _ (by kernel_rfl) (by kernel_rfl)]
  obtain ⟨f1, f2, hf, ⟨n1, t1, o1⟩, n2, t2, o2⟩ := fieldsD
  rw [hf]
  simp only [Op.eqFields, n1, t1, o1, n2, t2, o2]
  rw [if_pos (by decide), if_pos (by decide)]
  simp only [Sem.run_bind, part_seed _ hl, part_seed _ hl', Result.andThen_ok]
  rw [run_equalIn_arr w 9997 54 5 32 (by kernel_rfl) (by kernel_rfl) szU8 h h' hl hl']
  simp only [Result.andThen_ok]
  cases hb : (h == h')
  · simp
  · simp only [Bool.not_true, Bool.false_eq_true, if_false, Bool.true_and, Sem.run_bind, part_count _ hl, part_count _ hl', Result.andThen_ok]
    rw [run_equalIn_int w 9998 3 .i64 .i64 _ _ (by kernel_rfl)]
    simp only [Result.andThen_ok]
    cases hc : (c == c') <;> simp
theorem noGuardD : Tryz.prog.eqGuardType Tryz.prog.depth 56 = false := by kernel_rfl
theorem wpList_eql_draw {ops : Array Oper} {rest : List Oper} {o : Oper} {a : Act} {w : World} {Q : Exit → Act → World → Prop} (hw : Region.wanted o (yielded ops a.tmps) = true) (x y : Operand) (t : TypeId) (ho : o.op = .binOp .eql 56 x y t)
    (h h' : List Int) (hl : h.length = 32) (hl' : h'.length = 32) (c c' : Int) (hx : a.eval x = .agg (tcs h c)) (hy : a.eval y = .agg (tcs h' c')) (r : Bool) (hr : ((h == h') && (c == c')) = r)
    (hK : wpList Tryz.prog ops Q rest (a.put o.dst (.bool r)) w) : wpList Tryz.prog ops Q (o :: rest) a w :=
  wpList_step fun K hK' => by
    rw [if_pos hw]
    unfold Oper.wp execOp
    simp only [ho, hx, hy, Sem.run_bind, run_eqGuard_agg (P := Tryz.prog) w .eql 56 x y _ _ noGuardD, run_eql_struct, run_eq_draw h h' hl hl' c c' w, hr, Result.andThen_ok]
    exact hK' _ _ hK
theorem wpList_neq_draw {ops : Array Oper} {rest : List Oper} {o : Oper} {a : Act} {w : World} {Q : Exit → Act → World → Prop} (hw : Region.wanted o (yielded ops a.tmps) = true) (x y : Operand) (t : TypeId) (ho : o.op = .binOp .neq 56 x y t)
    (h h' : List Int) (hl : h.length = 32) (hl' : h'.length = 32) (c c' : Int) (hx : a.eval x = .agg (tcs h c)) (hy : a.eval y = .agg (tcs h' c')) (r : Bool) (hr : (!((h == h') && (c == c'))) = r)
    (hK : wpList Tryz.prog ops Q rest (a.put o.dst (.bool r)) w) : wpList Tryz.prog ops Q (o :: rest) a w :=
  wpList_step fun K hK' => by
    rw [if_pos hw]
    unfold Oper.wp execOp
    simp only [ho, hx, hy, Sem.run_bind, run_eqGuard_agg (P := Tryz.prog) w .neq 56 x y _ _ noGuardD, run_neq_struct, run_eq_draw h h' hl hl' c c' w, hr, Result.andThen_ok]
    exact hK' _ _ hK
end Go.Proofs.YtdlhodbiaoafiaaGreatDoor
