/- Contracts and lemmas: TlG, TlB. -/
import Derived.Test.YtofkihlpbfcdkaaDoorOp5
namespace Go.Proofs.YtofkihlpbfcdkaaDoor
open Go.RowKit SpM
set_option linter.unusedVariables false
set_option linter.unusedSimpArgs false
set_option maxRecDepth 100000
set_option maxHeartbeats 3200000 in
theorem rints_any (A : Option Addr) (l : List Int) (n c : Nat) (hn : Hid (l.length = n)) (hbig : n ≤ 1000000) (w : World) (hs : Hid (Sl w A l)) :
    Calls Tryd.prog 63 #[.slice A n c] w (ItOutS (.lst (l.map .int)) w) := by
  obtain ⟨i0, hi, hz0, hz1, hz2⟩ := info_parts itemInfo
  obtain ⟨W, hW⟩ : ∃ W, (w.alloc (.cells #[.int .i64 0, .int .i64 0, .slice none 0 0, .slice none 0 0] 67)).alloc (.cells #[.int .i64 3, .int .i64 0, .slice none 0 0, .slice none 0 0] 67) = W := ⟨_, rfl⟩
  have HBX : Hid (Below w.heap.size w W) := Lib.hid (by rw [← hW]; exact below_two (Below.refl _ _))
  have HSZ : Hid (W.heap.size = w.heap.size + 2) := Lib.hid (by rw [← hW]; simp)
  have hF : Four W (w.heap.size + 1) 0 ⟨3, 0, none, 0, 0, none, 0, 0⟩ := by
    rw [← hW]
    have h := heap_alloc2_new w (.cells #[.int .i64 0, .int .i64 0, .slice none 0 0, .slice none 0 0] 67) (.cells #[.int .i64 3, .int .i64 0, .slice none 0 0, .slice none 0 0] 67)
    exact ⟨cell_blk h 0, cell_blk h 1, cell_blk h 2, cell_blk h 3⟩
  have hf0 : ∀ j, W.frozen? ⟨w.heap.size + 1, j, none⟩ = false := by
    rw [← hW]
    exact fun j => frozen_blk (heap_alloc2_new _ _ _) j
  have HG : Hid ((Four W w.heap.size 0 ⟨0, 0, none, 0, 0, none, 0, 0⟩) ∧ ∀ j, W.frozen? ⟨w.heap.size, j, none⟩ = false) := Lib.hid (by
    rw [← hW]
    have h := heap_alloc2_old w (.cells #[.int .i64 0, .int .i64 0, .slice none 0 0, .slice none 0 0] 67) (.cells #[.int .i64 3, .int .i64 0, .slice none 0 0, .slice none 0 0] 67)
    exact ⟨⟨cell_blk h 0, cell_blk h 1, cell_blk h 2, cell_blk h 3⟩, fun j => frozen_blk h j⟩)
  have HGB : Hid (W.heap[w.heap.size]? = some (.cells #[.int .i64 0, .int .i64 0, .slice none 0 0, .slice none 0 0] 67 (0, 0))) := Lib.hid (by rw [← hW]; exact heap_alloc2_old w _ _)
  have HS := Lib.hid hs.out
  have HW := Lib.hid hW
  have HX : Hid (Own W ⟨w.heap.size + 1, 0, none⟩ (.int .i64 3) ∧ Own W ⟨w.heap.size + 1, 1, none⟩ (.int .i64 0) ∧ Own W ⟨w.heap.size + 1, 2, none⟩ (.slice none 0 0)) := Lib.hid ⟨⟨hF.1, hf0 0⟩, ⟨hF.2.1, hf0 1⟩, ⟨hF.2.2.1, hf0 2⟩⟩
  have HL : Hid (Own W ⟨w.heap.size + 1, 3, none⟩ (.slice none 0 0)) := Lib.hid ⟨hF.2.2.2, hf0 3⟩
  clear hW hs hF hf0
  go_enter Tryd.func63, Tryd.ntmps63
  go_wp2
  rw [HW.out]
  go_loopw [4] (fun i u => ∃ (k : Nat) (v : Value), k ≤ n ∧ i = .int .i64 k ∧ Hid (Own u ⟨w.heap.size + 1, 3, none⟩ v) ∧ Hid (OwnI u (w.heap.size + 2) v ((l.take k).map icInt)) ∧ Hid (Own u ⟨w.heap.size + 1, 0, none⟩ (.int .i64 3) ∧ Own u ⟨w.heap.size + 1, 1, none⟩ (.int .i64 0) ∧ Own u ⟨w.heap.size + 1, 2, none⟩ (.slice none 0 0)) ∧ Hid (Below (w.heap.size + 1) W u)) (fun i _ => n - (intOf i).toNat)
  case atStart => exact ⟨0, _, by omega, rfl, HL, Lib.hid (ownI_nil _ _), HX, Lib.hid (Below.refl _ _)⟩
  case round =>
    obtain ⟨k, v, hk, rfl, HV, HO, HX3, HBr⟩ := hrel
    by_cases hlt : k < n
    · have hkl : k < l.length := by rw [hn.out]; exact hlt
      obtain ⟨b, o, hA, hc⟩ := (HS.out.below (HBX.out.trans (HBr.out.mono (Nat.le_succ _)))) k hkl
      subst hA
      have HTK := Lib.hid (icInt_take hkl)
      obtain ⟨x, hx⟩ : ∃ x, l.getD k 0 = x := ⟨_, rfl⟩
      rw [hx] at hc HTK
      have HLN : Hid (((l.take k).map icInt).length = k) := Lib.hid (by rw [List.length_map, List.length_take]; omega)
      have hown : wr.ownsRow (w.heap.size + 2) 67 4 v k (((l.take k).map icInt).flatMap itemCells) := by have h := HO.out; unfold OwnI at h; rwa [HLN.out] at h
      have hbs : w.heap.size + 2 ≤ wr.heap.size := by have := HBr.out.size; have := HSZ.out; omega
      have hno : v.ownBlock ≠ some (w.heap.size + 1) := HO.out.no (by omega)
      obtain ⟨v3, v3f⟩ := HV.out
      have hS := Lib.hid (show ∀ u1 : World, Hid (Below wr.drew.heap.size wr.drew u1) → (u1.cell? ⟨w.heap.size + 1, 3, none⟩ = some v ∧ u1.cell? ⟨b, o + k, none⟩ = some (.int .i64 x) ∧ Hid (Below wr.drew.heap.size wr.drew u1)) from fun u1 h1 => ⟨cell_below (w := wr.drew) v3 h1.out, cell_below (w := wr.drew) hc h1.out, h1⟩)
      have HOWN := Lib.hid hown
      clear hx hkl hown v3 v3f hc
      go_wp2
      refine wp_region_T (S := fun w' => w'.cell? ⟨w.heap.size + 1, 3, none⟩ = some v ∧ w'.cell? ⟨b, o + k, none⟩ = some (.int .i64 x) ∧ Hid (Below wr.drew.heap.size wr.drew w')) (E := [8, 9, 10]) (by kernel_rfl) (hS.out _ (Lib.hid (Below.refl _ _))) (fun hHeld => ?_)
      refine tkV 0 ?_
      try simp only [qq1, qq2, qq3, Act.put, qq4, qq5, qq6]
      refine tkV 1 ?_
      try simp only [qq1, qq2, qq3, Act.put, qq4, qq5, qq6]
      refine tkV 2 ?_
      try simp only [qq1, qq2, qq3, Act.put, qq4, qq5, qq6]
      refine tkV 3 ?_
      try simp only [qq1, qq2, qq3, Act.put, qq4, qq5, qq6]
      refine tkV 4 ?_
      try simp only [qq1, qq2, qq3, Act.put, qq4, qq5, qq6]
      refine tkV 5 ?_
      try simp only [qq1, qq2, qq3, Act.put, qq4, qq5, qq6]
      refine tkV 6 ?_
      try simp only [qq1, qq2, qq3, Act.put, qq4, qq5, qq6]
      refine wpT_one (i := 7) (by kernel_rfl) rfl (fun K hK => ?_)
      go_simp
      refine hK.out _ _ ?_ (fun hHeld => ?_)
      · exact hS.out _ (Lib.hid (below_box0 _ _))
      clear hK K
      try simp only [qq1, qq2, qq3, Act.put, qq4, qq5, qq6]
      refine wpT_pass (i := 8) (by kernel_rfl) (by simp) rfl (fun K hK => ?_)
      refine step_append_lies _ (by rfl) _ _ _ (by rfl) (w.heap.size + 2) 67 i0 _ 4 64 Tryd.underlying65 hi hz0 hz1 hz2 rfl (by omega) v k (((l.take k).map icInt).flatMap itemCells) (by rfl) ((HOWN.out.alloc _).drew)
        ⟨wr.heap.size, 0, none⟩ 1 1 [.int .i64 1, .int .i64 x, .slice none 0 0, .slice none 0 0] (by rfl) (by rfl) (World.news_of_block (cs := #[.int .i64 1, .int .i64 x, .slice none 0 0, .slice none 0 0]) (t := 67) (fr := (0, 0)) (heap_alloc_new wr _)) (by simp [Value.oneCell'])
        (by omega) (by unfold maxLen; omega) (by omega) (by simp; omega) (wr.heap.size + 1) (by simp) ?_; intro gg cap wz hown1 hgrow hat hlt2
      have HVz := own_grown2 (w := (wr.alloc (.cells #[.int .i64 1, .int .i64 x, .slice none 0 0, .slice none 0 0] 67)).drew) (HV.out.below (below_box0 wr (.cells #[.int .i64 1, .int .i64 x, .slice none 0 0, .slice none 0 0] 67)).drew) hgrow hno
      have HVY := HVz
      obtain ⟨p2, f2⟩ := HVY
      refine hK.out _ _ ?_
      clear hK K
      try simp only [qq1, qq2, qq3, Act.put, qq4, qq5, qq6]
      refine wpT_pass (i := 9) (by kernel_rfl) (by simp) rfl (fun K hK => ?_)
      go_simp
      refine hK.out _ _ ?_
      clear hK K
      try simp only [qq1, qq2, qq3, Act.put, qq4, qq5, qq6]
      refine wpT_pass (i := 10) (by kernel_rfl) (by simp) rfl (fun K hK => ?_)
      go_simp
      refine hK.out _ _ ?_
      clear hK K
      try simp only [qq1, qq2, qq3, Act.put, qq4, qq5, qq6]
      refine wpT_done (by kernel_rfl) ?_ _
      have HB2 : Hid (Below (w.heap.size + 1) W wz) := Lib.hid (((HBr.out.alloc (by omega) (.cells #[.int .i64 1, .int .i64 x, .slice none 0 0, .slice none 0 0] 67)).drew).grown hgrow (by simp; omega) (fun j hj => by have := (World.ownsRow.lt HOWN.out j hj).1; omega))
      have HO2 : Hid (OwnI wz (w.heap.size + 2) (.slice (some ⟨gg, 0, none⟩) (k + 1) cap) ((l.take (k + 1)).map icInt)) := Lib.hid (by
        rw [HTK.out]
        exact OwnI.app HLN.out.symm hown1)
      have hd := (Below.refl wr.heap.size wr)
      have a0 := own_grown2 (w := (wr.alloc (.cells #[.int .i64 1, .int .i64 x, .slice none 0 0, .slice none 0 0] 67)).drew) (HX3.out.1.below (below_box0 wr (.cells #[.int .i64 1, .int .i64 x, .slice none 0 0, .slice none 0 0] 67)).drew) hgrow hno
      have a1 := own_grown2 (w := (wr.alloc (.cells #[.int .i64 1, .int .i64 x, .slice none 0 0, .slice none 0 0] 67)).drew) (HX3.out.2.1.below (below_box0 wr (.cells #[.int .i64 1, .int .i64 x, .slice none 0 0, .slice none 0 0] 67)).drew) hgrow hno
      have a2 := own_grown2 (w := (wr.alloc (.cells #[.int .i64 1, .int .i64 x, .slice none 0 0, .slice none 0 0] 67)).drew) (HX3.out.2.2.below (below_box0 wr (.cells #[.int .i64 1, .int .i64 x, .slice none 0 0, .slice none 0 0] 67)).drew) hgrow hno
      have HV4 : Hid (Own (wz.setCell ⟨w.heap.size + 1, 3, none⟩ (.slice (some ⟨gg, 0, none⟩) (k + 1) cap)) ⟨w.heap.size + 1, 3, none⟩ (.slice (some ⟨gg, 0, none⟩) (k + 1) cap)) := Lib.hid (own_set_eq2 HVz)
      have HO4 : Hid (OwnI (wz.setCell ⟨w.heap.size + 1, 3, none⟩ (.slice (some ⟨gg, 0, none⟩) (k + 1) cap)) (w.heap.size + 2) (.slice (some ⟨gg, 0, none⟩) (k + 1) cap) ((l.take (k + 1)).map icInt)) := Lib.hid (HO2.out.set (by omega))
      have HX4 : Hid (Own (wz.setCell ⟨w.heap.size + 1, 3, none⟩ (.slice (some ⟨gg, 0, none⟩) (k + 1) cap)) ⟨w.heap.size + 1, 0, none⟩ (.int .i64 3) ∧ Own (wz.setCell ⟨w.heap.size + 1, 3, none⟩ (.slice (some ⟨gg, 0, none⟩) (k + 1) cap)) ⟨w.heap.size + 1, 1, none⟩ (.int .i64 0) ∧ Own (wz.setCell ⟨w.heap.size + 1, 3, none⟩ (.slice (some ⟨gg, 0, none⟩) (k + 1) cap)) ⟨w.heap.size + 1, 2, none⟩ (.slice none 0 0)) :=
        Lib.hid ⟨own_set_ne2 a0 (by simp), own_set_ne2 a1 (by simp), own_set_ne2 a2 (by simp)⟩
      have HB4 : Hid (Below (w.heap.size + 1) W (wz.setCell ⟨w.heap.size + 1, 3, none⟩ (.slice (some ⟨gg, 0, none⟩) (k + 1) cap))) := Lib.hid (HB2.out.setCell (Nat.le_refl _) _)
      clear hown1 hgrow HO HX3 HV p2 f2 a0 a1 a2 HB2 HO2 HVz hd
      go_wp2
      go_roundw
      case rel => exact ⟨k + 1, _, by omega, by go_num, HV4, HO4, HX4, HB4⟩
      case measure => simp [intOf]; omega
    · have HO5 : Hid (OwnI wr (w.heap.size + 2) v (l.map icInt)) := Lib.hid (by
        have h := HO.out
        rwa [List.take_of_length_le (by have := hn.out; omega)] at h)
      obtain ⟨L, cl, hLe⟩ := HO5.out.len
      rw [List.length_map, hn.out] at hLe
      subst hLe
      obtain ⟨p0, p0f⟩ := HX3.out.1
      obtain ⟨p1, p1f⟩ := HX3.out.2.1
      obtain ⟨p2, p2f⟩ := HX3.out.2.2
      obtain ⟨p3, p3f⟩ := HV.out
      have HGr := HG.out
      have r0 := (HBr.out.cell (p := ⟨w.heap.size, 0, none⟩) (Nat.lt_succ_self _)).trans HG.out.1.1
      have r1 := (HBr.out.cell (p := ⟨w.heap.size, 1, none⟩) (Nat.lt_succ_self _)).trans HG.out.1.2.1
      have r2 := (HBr.out.cell (p := ⟨w.heap.size, 2, none⟩) (Nat.lt_succ_self _)).trans HG.out.1.2.2.1
      have r3 := (HBr.out.cell (p := ⟨w.heap.size, 3, none⟩) (Nat.lt_succ_self _)).trans HG.out.1.2.2.2
      have z0 := (HBr.out.frozen (p := ⟨w.heap.size, 0, none⟩) (Nat.lt_succ_self _)).trans (HG.out.2 0)
      have z1 := (HBr.out.frozen (p := ⟨w.heap.size, 1, none⟩) (Nat.lt_succ_self _)).trans (HG.out.2 1)
      have z2 := (HBr.out.frozen (p := ⟨w.heap.size, 2, none⟩) (Nat.lt_succ_self _)).trans (HG.out.2 2)
      have z3 := (HBr.out.frozen (p := ⟨w.heap.size, 3, none⟩) (Nat.lt_succ_self _)).trans (HG.out.2 3)
      have HBW := Lib.hid (HBX.out.trans (HBr.out.mono (Nat.le_succ _)))
      clear HX3 HV HO HGr
      obtain ⟨WF, hWF⟩ : ∃ u, (((wr.setCell ⟨w.heap.size, 0, none⟩ (.int .i64 3)).setCell ⟨w.heap.size, 1, none⟩ (.int .i64 0)).setCell ⟨w.heap.size, 2, none⟩ (.slice none 0 0)).setCell ⟨w.heap.size, 3, none⟩ (.slice L n cl) = u := ⟨_, rfl⟩
      have hgB : WF.heap[w.heap.size]? = some (.cells #[.int .i64 3, .int .i64 0, .slice none 0 0, .slice L n cl] 67 (0, 0)) := by
        have h0 := (HBr.out.block w.heap.size (Nat.lt_succ_self _)).trans HGB.out
        rw [← hWF, heap_setCell_same _ _ _ _ _ _ (heap_setCell_same _ _ _ _ _ _ (heap_setCell_same _ _ _ _ _ _ (heap_setCell_same _ _ _ _ _ _ h0)))]
        rfl
      have HO6 : Hid (OwnI WF (w.heap.size + 2) (.slice L n cl) (l.map icInt)) := Lib.hid (by
        rw [← hWF]
        exact (((HO5.out.set (by omega)).set (by omega)).set (by omega)).set (by omega))
      have HBF : Hid (Below w.heap.size w WF) := Lib.hid (by
        rw [← hWF]
        exact (((HBW.out.setCell (Nat.le_refl _) _).setCell (Nat.le_refl _) _).setCell (Nat.le_refl _) _).setCell (Nat.le_refl _) _)
      have hitr := its_ints (lo := w.heap.size) HO6.out (by omega)
      rw [hn.out] at hitr
      have HIT := Lib.hid hitr
      have HLD : Kp ((loadVar 67 ⟨w.heap.size, 0, none⟩).run Tryd.prog WF = .ok (.agg #[.int .i64 3, .int .i64 0, .slice none 0 0, .slice L n cl]) WF) := ⟨run_loadVar_row _ _ _ _ _ _ _ hgB Tryd.underlying67 rfl (by kernel_rfl)⟩
      have HWF := Lib.hid hWF
      clear hitr HO5 HO6 hgB hWF
      go_wp2
      rw [HWF.out]
      exact bodyPost_ret (v := .agg #[.int .i64 3, .int .i64 0, .slice none 0 0, .slice L n cl]) (results_cell1 (p := 2) (ty := 67) rfl _ _ ⟨w.heap.size, 0, none⟩ _ rfl HLD.out) rfl ⟨⟨3, 0, none, 0, 0, L, n, cl⟩, rfl, HIT.out, HBF.out⟩
set_option maxHeartbeats 6400000 in
theorem r31bytes_any (h : List Int) (hl : Hid (h.length = 32)) (w : World) :
    Calls Tryd.prog 39 #[.agg (arr .u8 h)] w (ItOutS (.byt h) w) := by
  obtain ⟨i1, hi1, hy0, hy1, hy2⟩ := info_parts byteInfo
  obtain ⟨W, hW⟩ : ∃ W, ((w.alloc (.cells (arr .u8 h) 42)).alloc (.cells #[.int .i64 0, .int .i64 0, .slice none 0 0, .slice none 0 0] 67)).alloc (.cells #[.int .i64 2, .int .i64 0, .slice none 0 0, .slice none 0 0] 67) = W := ⟨_, rfl⟩
  have HBX : Hid (Below w.heap.size w W) := Lib.hid (by rw [← hW]; exact below_ext (below_ext (below_box0 _ _) (below_box0 _ _)) (below_box0 _ _))
  have HSZ : Hid (W.heap.size = w.heap.size + 3) := Lib.hid (by rw [← hW]; simp)
  have HHB : Hid (Blk .u8 42 W w.heap.size h) := Lib.hid (by rw [← hW]; exact ((Blk.new w h).old _).old _)
  have HGB : Hid (W.heap[w.heap.size + 1]? = some (.cells #[.int .i64 0, .int .i64 0, .slice none 0 0, .slice none 0 0] 67)) := Lib.hid (by rw [← hW]; exact blk_below (heap_alloc2_new _ _ _) (below_box0 _ _))
  have hb2 : W.heap[w.heap.size + 2]? = some (.cells #[.int .i64 2, .int .i64 0, .slice none 0 0, .slice none 0 0] 67) := by rw [← hW]; exact heap_alloc3_new _ _ _ _
  have HX : Hid (Own W ⟨w.heap.size + 2, 0, none⟩ (.int .i64 2) ∧ Own W ⟨w.heap.size + 2, 1, none⟩ (.int .i64 0) ∧ Own W ⟨w.heap.size + 2, 3, none⟩ (.slice none 0 0)) := Lib.hid ⟨⟨cell_blk hb2 0, frozen_blk hb2 0⟩, ⟨cell_blk hb2 1, frozen_blk hb2 1⟩, ⟨cell_blk hb2 3, frozen_blk hb2 3⟩⟩
  have HL : Hid (Own W ⟨w.heap.size + 2, 2, none⟩ (.slice none 0 0)) := Lib.hid ⟨cell_blk hb2 2, frozen_blk hb2 2⟩
  have HW := Lib.hid hW
  clear hW hb2
  go_enter Tryd.func39, Tryd.ntmps39
  go_wp2
  rw [HW.out]
  go_loopw [4] (fun i u => ∃ (k : Nat) (v : Value), k ≤ 32 ∧ i = .int .i64 k ∧ Hid (Own u ⟨w.heap.size + 2, 2, none⟩ v) ∧ Hid (OwnK .u8 5 u (w.heap.size + 3) v (h.take k)) ∧ Hid (Own u ⟨w.heap.size + 2, 0, none⟩ (.int .i64 2) ∧ Own u ⟨w.heap.size + 2, 1, none⟩ (.int .i64 0) ∧ Own u ⟨w.heap.size + 2, 3, none⟩ (.slice none 0 0)) ∧ Hid (Below (w.heap.size + 2) W u)) (fun i _ => 32 - (intOf i).toNat)
  case atStart => exact ⟨0, _, by omega, rfl, HL, Lib.hid (ownK_nil _ _), HX, Lib.hid (Below.refl _ _)⟩
  case round =>
    obtain ⟨k, v, hk, rfl, HV, HO, HX3, HBr⟩ := hrel
    by_cases hlt : k < 32
    · have hc := (HBr.out.cell (p := ⟨w.heap.size, k, none⟩) (by simp)).trans (HHB.out.cell (j := k) (by rw [hl.out]; exact hlt))
      have HTK := Lib.hid (take_one (xs := h) (k := k) (by rw [hl.out]; exact hlt))
      obtain ⟨x, hx⟩ : ∃ x, h.getD k 0 = x := ⟨_, rfl⟩
      rw [hx] at hc HTK
      have HLN : Hid ((h.take k).length = k) := Lib.hid (by rw [List.length_take, hl.out]; omega)
      have hown : wr.ownsRow (w.heap.size + 3) 5 1 v k ((h.take k).map (Value.int .u8)) := HO.out.row HLN.out
      have hbs : w.heap.size + 3 ≤ wr.heap.size := by have := HBr.out.size; have := HSZ.out; omega
      have hno : v.ownBlock ≠ some (w.heap.size + 2) := fun e => by have := (HO.out.lt _ e).1; omega
      obtain ⟨v3, v3f⟩ := HV.out
      have hS := Lib.hid (show ∀ u1 : World, Hid (Below wr.drew.heap.size wr.drew u1) → (u1.cell? ⟨w.heap.size + 2, 2, none⟩ = some v ∧ u1.cell? ⟨w.heap.size, k, none⟩ = some (.int .u8 x) ∧ Hid (Below wr.drew.heap.size wr.drew u1)) from fun u1 h1 => ⟨cell_below (w := wr.drew) v3 h1.out, cell_below (w := wr.drew) hc h1.out, h1⟩)
      have HOWN := Lib.hid hown
      clear hx hown v3 v3f hc
      go_wp2
      refine wp_region_T (S := fun w' => w'.cell? ⟨w.heap.size + 2, 2, none⟩ = some v ∧ w'.cell? ⟨w.heap.size, k, none⟩ = some (.int .u8 x) ∧ Hid (Below wr.drew.heap.size wr.drew w')) (E := [6, 7, 8]) (by kernel_rfl) (hS.out _ (Lib.hid (Below.refl _ _))) (fun hHeld => ?_)
      refine tkV 0 ?_
      try simp only [qq1, qq2, qq3, Act.put, qq4, qq5, qq6]
      refine tkV 1 ?_
      try simp only [qq1, qq2, qq3, Act.put, qq4, qq5, qq6]
      refine tkV 2 ?_
      try simp only [qq1, qq2, qq3, Act.put, qq4, qq5, qq6]
      refine tkV 3 ?_
      try simp only [qq1, qq2, qq3, Act.put, qq4, qq5, qq6]
      refine tkV 4 ?_
      try simp only [qq1, qq2, qq3, Act.put, qq4, qq5, qq6]
      refine wpT_one (i := 5) (by kernel_rfl) rfl (fun K hK => ?_)
      go_simp
      refine hK.out _ _ ?_ (fun hHeld => ?_)
      · exact hS.out _ (Lib.hid (below_box0 _ _))
      clear hK K
      try simp only [qq1, qq2, qq3, Act.put, qq4, qq5, qq6]
      refine wpT_pass (i := 6) (by kernel_rfl) (by simp) rfl (fun K hK => ?_)
      refine step_append_lies _ (by rfl) _ _ _ (by rfl) (w.heap.size + 3) 5 i1 _ 1 1 Tryd.underlying63 hi1 hy0 hy1 hy2 rfl (by omega) v k ((h.take k).map (Value.int .u8)) (by rfl) ((HOWN.out.alloc _).drew)
        ⟨wr.heap.size, 0, none⟩ 1 1 [.int .u8 x] (by rfl) (by rfl) (World.news_of_block (cs := #[.int .u8 x]) (t := 5) (fr := (0, 0)) (heap_alloc_new wr _)) (by simp [Value.oneCell'])
        (by omega) (by unfold maxLen; omega) (by omega) (by simp; omega) (wr.heap.size + 1) (by simp) ?_; intro gg cap wz hown1 hgrow hat hlt2
      have HVz := own_grown2 (w := (wr.alloc (.cells #[.int .u8 x] 5)).drew) (HV.out.below (below_box0 wr (.cells #[.int .u8 x] 5)).drew) hgrow hno
      have HVY := HVz
      obtain ⟨p2, f2⟩ := HVY
      refine hK.out _ _ ?_
      clear hK K
      try simp only [qq1, qq2, qq3, Act.put, qq4, qq5, qq6]
      refine wpT_pass (i := 7) (by kernel_rfl) (by simp) rfl (fun K hK => ?_)
      go_simp
      refine hK.out _ _ ?_
      clear hK K
      try simp only [qq1, qq2, qq3, Act.put, qq4, qq5, qq6]
      refine wpT_pass (i := 8) (by kernel_rfl) (by simp) rfl (fun K hK => ?_)
      go_simp
      refine hK.out _ _ ?_
      clear hK K
      try simp only [qq1, qq2, qq3, Act.put, qq4, qq5, qq6]
      refine wpT_done (by kernel_rfl) ?_ _
      have HB2 : Hid (Below (w.heap.size + 2) W wz) := Lib.hid (((HBr.out.alloc (by omega) (.cells #[.int .u8 x] 5)).drew).grown hgrow (by simp; omega) (fun j hj => by have := (World.ownsRow.lt HOWN.out j hj).1; omega))
      have HO2 : Hid (OwnK .u8 5 wz (w.heap.size + 3) (.slice (some ⟨gg, 0, none⟩) (k + 1) cap) (h.take (k + 1))) := Lib.hid (by
        rw [HTK.out]
        exact OwnK.app HLN.out.symm rfl hown1)
      have a0 := own_grown2 (w := (wr.alloc (.cells #[.int .u8 x] 5)).drew) (HX3.out.1.below (below_box0 wr (.cells #[.int .u8 x] 5)).drew) hgrow hno
      have a1 := own_grown2 (w := (wr.alloc (.cells #[.int .u8 x] 5)).drew) (HX3.out.2.1.below (below_box0 wr (.cells #[.int .u8 x] 5)).drew) hgrow hno
      have a2 := own_grown2 (w := (wr.alloc (.cells #[.int .u8 x] 5)).drew) (HX3.out.2.2.below (below_box0 wr (.cells #[.int .u8 x] 5)).drew) hgrow hno
      have HV4 : Hid (Own (wz.setCell ⟨w.heap.size + 2, 2, none⟩ (.slice (some ⟨gg, 0, none⟩) (k + 1) cap)) ⟨w.heap.size + 2, 2, none⟩ (.slice (some ⟨gg, 0, none⟩) (k + 1) cap)) := Lib.hid (own_set_eq2 HVz)
      have HO4 : Hid (OwnK .u8 5 (wz.setCell ⟨w.heap.size + 2, 2, none⟩ (.slice (some ⟨gg, 0, none⟩) (k + 1) cap)) (w.heap.size + 3) (.slice (some ⟨gg, 0, none⟩) (k + 1) cap) (h.take (k + 1))) := Lib.hid (HO2.out.kept (grown_set2 _ _ _ _) (Or.inr (fun e => by have := (HO2.out.lt _ e).1; omega)))
      have HX4 : Hid (Own (wz.setCell ⟨w.heap.size + 2, 2, none⟩ (.slice (some ⟨gg, 0, none⟩) (k + 1) cap)) ⟨w.heap.size + 2, 0, none⟩ (.int .i64 2) ∧ Own (wz.setCell ⟨w.heap.size + 2, 2, none⟩ (.slice (some ⟨gg, 0, none⟩) (k + 1) cap)) ⟨w.heap.size + 2, 1, none⟩ (.int .i64 0) ∧ Own (wz.setCell ⟨w.heap.size + 2, 2, none⟩ (.slice (some ⟨gg, 0, none⟩) (k + 1) cap)) ⟨w.heap.size + 2, 3, none⟩ (.slice none 0 0)) := Lib.hid ⟨own_set_ne2 a0 (by simp), own_set_ne2 a1 (by simp), own_set_ne2 a2 (by simp)⟩
      have HB4 : Hid (Below (w.heap.size + 2) W (wz.setCell ⟨w.heap.size + 2, 2, none⟩ (.slice (some ⟨gg, 0, none⟩) (k + 1) cap))) := Lib.hid (HB2.out.setCell (Nat.le_refl _) _)
      clear hown1 hgrow HO HX3 HV p2 f2 a0 a1 a2 HB2 HO2 HVz
      go_wp2
      go_roundw
      case rel => exact ⟨k + 1, _, by omega, by go_num, HV4, HO4, HX4, HB4⟩
      case measure => simp [intOf]; omega
    · obtain rfl : k = 32 := by omega
      have HO5 : Hid (OwnK .u8 5 wr (w.heap.size + 3) v h) := Lib.hid (by
        have h9 := HO.out
        rwa [List.take_of_length_le (by rw [hl.out]; exact Nat.le_refl _)] at h9)
      obtain ⟨g, cap, hv, hg, -, -, hsk⟩ := HO5.out.cells (by rw [hl.out]; decide)
      rw [hl.out] at hv
      subst hv
      obtain ⟨p0, p0f⟩ := HX3.out.1
      obtain ⟨p1, p1f⟩ := HX3.out.2.1
      obtain ⟨p2, p2f⟩ := HX3.out.2.2
      obtain ⟨p3, p3f⟩ := HV.out
      have HSK := Lib.hid hsk
      have HRF : Hid (wr.heap[w.heap.size + 1]? = some (.cells #[.int .i64 0, .int .i64 0, .slice none 0 0, .slice none 0 0] 67)) := Lib.hid ((HBr.out.block _ (by omega)).trans HGB.out)
      have HBW := Lib.hid (HBX.out.trans (HBr.out.mono (by omega)))
      clear HX3 HV HO HO5 hsk
      go_wp2_with ((with_reducible show wpList _ _ _ (⟨none, _, _, _, _, _⟩ :: _) _ _); refine wpList_store_row rfl 67 _ _ rfl (w.heap.size + 1) (Ic.cs (icByt (some ⟨g, 0, none⟩) 32 cap)) rfl rfl _ _ HRF.out (ic_info _) rfl (ic_one _) ?_)
      have hit : ItS w.heap.size (wr.setRow (w.heap.size + 1) (Ic.cs (icByt (some ⟨g, 0, none⟩) 32 cap))) (.byt h) (icByt (some ⟨g, 0, none⟩) 32 cap) := its_byt (HSK.out.setRow (by omega)) (by omega) hl.out
      have hbF := below_setRow' HBW.out (cs := Ic.cs (icByt (some ⟨g, 0, none⟩) 32 cap)) (Nat.le_add_right w.heap.size 1)
      have hrw := setRow_heap _ _ _ (Ic.cs (icByt (some ⟨g, 0, none⟩) 32 cap)) _ _ HRF.out
      exact bodyPost_ret (v := (icByt (some ⟨g, 0, none⟩) 32 cap).val) (results_cell1 (p := 2) (ty := 67) rfl _ _ ⟨w.heap.size + 1, 0, none⟩ _ rfl (run_loadVar_row _ _ _ _ _ _ _ hrw Tryd.underlying67 rfl (ic_info _))) rfl ⟨_, rfl, hit, hbF⟩
set_option maxHeartbeats 1600000 in
theorem rinteger_it (n : Int) (w : World) :
    Calls Tryd.prog 40 #[.int .i64 n] w fun e w' => e = .returned (icInt n).val ∧ Below w.heap.size w w' := by
  have HR0 : Hid ((w.alloc (.cells #[.int .i64 0, .int .i64 0, .slice none 0 0, .slice none 0 0] 67)).heap[w.heap.size]? = some (.cells #[.int .i64 0, .int .i64 0, .slice none 0 0, .slice none 0 0] 67 (0, 0))) := Lib.hid (heap_alloc_new _ _)
  go_enter Tryd.func40, Tryd.ntmps40
  go_wp2_with ((with_reducible show wpList _ _ _ (⟨none, _, _, _, _, _⟩ :: _) _ _); refine wpList_store_row rfl 67 _ _ rfl w.heap.size (Ic.cs (icInt n)) rfl rfl _ _ HR0.out (ic_info _) rfl (ic_one _) ?_)
  have hrw := setRow_heap _ _ _ (Ic.cs (icInt n)) _ _ HR0.out
  exact bodyPost_ret (v := (icInt n).val) (results_cell1 (p := 2) (ty := 67) rfl _ _ ⟨w.heap.size, 0, none⟩ _ rfl (run_loadVar_row _ _ _ _ _ _ _ hrw Tryd.underlying67 rfl (ic_info _))) rfl ⟨rfl, below_setRow' (below_box0 _ _) (Nat.le_refl _)⟩
set_option maxHeartbeats 1600000 in
theorem rlist_it (L : Option Addr) (n c : Nat) (w : World) :
    Calls Tryd.prog 38 #[.slice L n c] w fun e w' => e = .returned (Ic.mk 3 0 none 0 0 L n c).val ∧ Below w.heap.size w w' := by
  have HR0 : Hid ((w.alloc (.cells #[.int .i64 0, .int .i64 0, .slice none 0 0, .slice none 0 0] 67)).heap[w.heap.size]? = some (.cells #[.int .i64 0, .int .i64 0, .slice none 0 0, .slice none 0 0] 67 (0, 0))) := Lib.hid (heap_alloc_new _ _)
  go_enter Tryd.func38, Tryd.ntmps38
  go_wp2_with ((with_reducible show wpList _ _ _ (⟨none, _, _, _, _, _⟩ :: _) _ _); refine wpList_store_row rfl 67 _ _ rfl w.heap.size (Ic.cs (Ic.mk 3 0 none 0 0 L n c)) rfl rfl _ _ HR0.out (ic_info _) rfl (ic_one _) ?_)
  have hrw := setRow_heap _ _ _ (Ic.cs (Ic.mk 3 0 none 0 0 L n c)) _ _ HR0.out
  exact bodyPost_ret (v := (Ic.mk 3 0 none 0 0 L n c).val) (results_cell1 (p := 2) (ty := 67) rfl _ _ ⟨w.heap.size, 0, none⟩ _ rfl (run_loadVar_row _ _ _ _ _ _ _ hrw Tryd.underlying67 rfl (ic_info _))) rfl ⟨rfl, below_setRow' (below_box0 _ _) (Nat.le_refl _)⟩
set_option maxHeartbeats 3200000 in
theorem rtext_it (s : ByteArray) (hs0 : 1 ≤ s.size) (hs1 : s.size ≤ 1000) (w : World) :
    Calls Tryd.prog 41 #[.string s] w (ItOutS (.byt (bys s)) w) := by
  have hcv := fun w => run_bytes_of_string (P := Tryd.prog) w 9 63 5 s Tryd.underlying9 Tryd.underlying63 Tryd.underlying5
  obtain ⟨W, hW⟩ : ∃ W, w.alloc (.cells #[.int .i64 0, .int .i64 0, .slice none 0 0, .slice none 0 0] 67) = W := ⟨_, rfl⟩
  have HSZ : Hid (W.heap.size = w.heap.size + 1) := Lib.hid (by rw [← hW]; simp)
  have HR0 : Hid (W.heap[w.heap.size]? = some (.cells #[.int .i64 0, .int .i64 0, .slice none 0 0, .slice none 0 0] 67 (0, 0))) := Lib.hid (by rw [← hW]; exact heap_alloc_new _ _)
  have HB0 : Hid (Below w.heap.size w W) := Lib.hid (by rw [← hW]; exact below_box0 _ _)
  have HW := Lib.hid hW
  clear hW
  obtain ⟨gc, hgc⟩ : ∃ g, grownCap W s.size 0 5 = g := ⟨_, rfl⟩
  obtain ⟨Wc, hWc⟩ : ∃ u, (W.alloc (.cells (bytesRow s gc) 5 ((bytesRow s gc).size, (bytesRow s gc).size + 1))).drew = u := ⟨_, rfl⟩
  have HBc : Hid (Below W.heap.size W Wc) := Lib.hid (by rw [← hWc]; exact (below_box0 _ _).drew)
  have HSc : Hid (Sk .u8 Wc (some ⟨W.heap.size, 0, none⟩) (bys s)) := Lib.hid (by rw [← hWc]; exact (bys_sk (heap_alloc_new W _)).below ((Below.refl _ _).drew))
  have HRc : Hid (Wc.heap[w.heap.size]? = some (.cells #[.int .i64 0, .int .i64 0, .slice none 0 0, .slice none 0 0] 67 (0, 0))) := Lib.hid (blk_below HR0.out HBc.out)
  go_enter Tryd.func41, Tryd.ntmps41
  go_upto_region 1 with (fail)
  rw [HW.out]
  go_wp2_with ((with_reducible show wpList _ _ _ (⟨none, _, _, _, _, _⟩ :: _) _ _); refine wpList_store_row rfl 67 _ _ rfl w.heap.size (Ic.cs (icByt (some ⟨W.heap.size, 0, none⟩) s.size gc)) rfl rfl _ _ HRc.out (ic_info _) rfl (ic_one _) ?_)
  have hit : ItS w.heap.size (Wc.setRow w.heap.size (Ic.cs (icByt (some ⟨W.heap.size, 0, none⟩) s.size gc))) (.byt (bys s)) (icByt (some ⟨W.heap.size, 0, none⟩) s.size gc) := its_byt (HSc.out.setRow (by have := HSZ.out; omega)) (by have := HSZ.out; omega) (bys_len s)
  have hbF := below_setRow' (below_ext HB0.out HBc.out) (cs := Ic.cs (icByt (some ⟨W.heap.size, 0, none⟩) s.size gc)) (Nat.le_refl w.heap.size)
  have hrw := setRow_heap _ _ _ (Ic.cs (icByt (some ⟨W.heap.size, 0, none⟩) s.size gc)) _ _ HRc.out
  exact bodyPost_ret (v := (icByt (some ⟨W.heap.size, 0, none⟩) s.size gc).val) (results_cell1 (p := 2) (ty := 67) rfl _ _ ⟨w.heap.size, 0, none⟩ _ rfl (run_loadVar_row _ _ _ _ _ _ _ hrw Tryd.underlying67 rfl (ic_info _))) rfl ⟨_, rfl, hit, hbF⟩
set_option maxHeartbeats 12800000 in
theorem reitem_any (E1 E2 : Int) (A : Option Addr) (na ca : Nat) (al : List Int) (C : Int) (Z : Option Addr) (nz cz : Nat) (zs : List Int) (hna : Hid (al.length = na)) (hnz : Hid (zs.length = nz)) (hb1 : na ≤ 1000) (hb2 : nz ≤ 1000) (w : World) (hA : Hid (Sl w A al)) (hZ : Hid (Sl w Z zs)) :
    Calls Tryd.prog 42 #[esV E1 E2 A na ca C Z nz cz] w (ItOutS (eIt E1 E2 al C zs) w) := by
  obtain ⟨w0, hW⟩ : ∃ W, ((w.alloc (esO E1 E2 A na ca C Z nz cz)).alloc (.cells #[.int .i64 0, .int .i64 0, .slice none 0 0, .slice none 0 0] 67)) = W := ⟨_, rfl⟩
  have HBw : Hid (Below w.heap.size w w0) := Lib.hid (by rw [← hW]; exact below_two (Below.refl _ _))
  have hc : w0.cell? ⟨w.heap.size, 0, none⟩ = some (.int .i64 E1) ∧ w0.cell? ⟨w.heap.size, 1, none⟩ = some (.int .i64 E2) ∧ w0.cell? ⟨w.heap.size, 2, none⟩ = some (.slice A na ca) ∧ w0.cell? ⟨w.heap.size, 3, none⟩ = some (.int .i64 C) ∧ w0.cell? ⟨w.heap.size, 4, none⟩ = some (.slice Z nz cz) ∧ Own w0 ⟨w.heap.size + 1, 0, none⟩ (.int .i64 0) ∧ Own w0 ⟨w.heap.size + 1, 1, none⟩ (.int .i64 0) ∧ Own w0 ⟨w.heap.size + 1, 2, none⟩ (.slice none 0 0) ∧ Own w0 ⟨w.heap.size + 1, 3, none⟩ (.slice none 0 0) := by rw [← hW]; exact ⟨cell_below (allocs_cell (by simp) (by rfl)) (below_box0 _ _), cell_below (allocs_cell (by simp) (by rfl)) (below_box0 _ _), cell_below (allocs_cell (by simp) (by rfl)) (below_box0 _ _), cell_below (allocs_cell (by simp) (by rfl)) (below_box0 _ _), cell_below (allocs_cell (by simp) (by rfl)) (below_box0 _ _), allocs_own (by simp) (by rfl), allocs_own (by simp) (by rfl), allocs_own (by simp) (by rfl), allocs_own (by simp) (by rfl)⟩
  have kC := Lib.hid (show ∀ u : World, Hid (Below w0.heap.size w0 u) → u.cell? ⟨w.heap.size, 0, none⟩ = some (.int .i64 E1) ∧ u.cell? ⟨w.heap.size, 1, none⟩ = some (.int .i64 E2) ∧ u.cell? ⟨w.heap.size, 2, none⟩ = some (.slice A na ca) ∧ u.cell? ⟨w.heap.size, 3, none⟩ = some (.int .i64 C) ∧ u.cell? ⟨w.heap.size, 4, none⟩ = some (.slice Z nz cz) ∧ Own u ⟨w.heap.size + 1, 0, none⟩ (.int .i64 0) ∧ Own u ⟨w.heap.size + 1, 1, none⟩ (.int .i64 0) ∧ Own u ⟨w.heap.size + 1, 2, none⟩ (.slice none 0 0) ∧ Own u ⟨w.heap.size + 1, 3, none⟩ (.slice none 0 0) from fun u h => ⟨cell_below hc.1 h.out, cell_below hc.2.1 h.out, cell_below hc.2.2.1 h.out, cell_below hc.2.2.2.1 h.out, cell_below hc.2.2.2.2.1 h.out, (hc.2.2.2.2.2.1).below h.out, (hc.2.2.2.2.2.2.1).below h.out, (hc.2.2.2.2.2.2.2.1).below h.out, (hc.2.2.2.2.2.2.2.2).below h.out⟩)
  have kA := Lib.hid (show ∀ u : World, Hid (Below w0.heap.size w0 u) → Hid (Sl u A al) from fun u h => Lib.hid ((hA.out.below) (below_ext HBw.out h.out)))
  have kZ := Lib.hid (show ∀ u : World, Hid (Below w0.heap.size w0 u) → Hid (Sl u Z zs) from fun u h => Lib.hid ((hZ.out.below) (below_ext HBw.out h.out)))
  have HB_0 : Hid (Below w0.heap.size w0 w0) := Lib.hid (Below.refl _ _)
  have HW := Lib.hid hW
  have kRB := Lib.hid (show ∀ u : World, Hid (Below w0.heap.size w0 u) → Hid (u.heap[w.heap.size + 1]? = some (.cells #[.int .i64 0, .int .i64 0, .slice none 0 0, .slice none 0 0] 67)) from fun u h => Lib.hid (blk_below (by rw [← hW]; exact heap_alloc2_new _ _ _) h.out))
  clear hW hc hA hZ
  go_enter Tryd.func42, Tryd.ntmps42
  go_wp2_with fail
  rw [HW.out]
  obtain ⟨zc0, zc1, zc2, zc3, zc4, ⟨zc5, zf5⟩, ⟨zc6, zf6⟩, ⟨zc7, zf7⟩, ⟨zc8, zf8⟩⟩ := kC.out _ HB_0
  have HSZ0 : Hid (w0.heap.size = w.heap.size + 2) := Lib.hid (by rw [← HW.out]; simp)
  go_upto_region 1 with (fail)
  clear zc0 zc1 zc2 zc3 zc4 zc5 zf5 zc6 zf6 zc7 zf7 zc8 zf8
  have hBx := Lib.hid (show ∀ u u2 : World, Hid (Below w0.heap.size w0 u) → Below u.heap.size u u2 → Hid (Below w0.heap.size w0 u2) from fun u u2 h1 h2 => Lib.hid (below_ext h1.out h2))
  have hS := Lib.hid (show ∀ u : World, Hid (Below w0.heap.size w0 u) → (u.cell? ⟨w.heap.size, 0, none⟩ = some (.int .i64 E1) ∧ u.cell? ⟨w.heap.size, 1, none⟩ = some (.int .i64 E2) ∧ u.cell? ⟨w.heap.size, 2, none⟩ = some (.slice A na ca) ∧ u.cell? ⟨w.heap.size, 3, none⟩ = some (.int .i64 C) ∧ u.cell? ⟨w.heap.size, 4, none⟩ = some (.slice Z nz cz) ∧ Own u ⟨w.heap.size + 1, 0, none⟩ (.int .i64 0) ∧ Own u ⟨w.heap.size + 1, 1, none⟩ (.int .i64 0) ∧ Own u ⟨w.heap.size + 1, 2, none⟩ (.slice none 0 0) ∧ Own u ⟨w.heap.size + 1, 3, none⟩ (.slice none 0 0)) from fun u h1 => by
    obtain ⟨y0, y1, y2, y3, y4, y5, y6, y7, y8⟩ := kC.out _ (Lib.hid h1.out)
    exact ⟨y0, y1, y2, y3, y4, y5, y6, y7, y8⟩)
  have HBA : Hid (Below w0.heap.size w0 w0) := Lib.hid HB_0.out
  have HBD := hBx.out _ _ HBA (Below.refl _ _).drew
  refine wp_region_T (S := fun w' => w'.cell? ⟨w.heap.size, 0, none⟩ = some (.int .i64 E1) ∧ w'.cell? ⟨w.heap.size, 1, none⟩ = some (.int .i64 E2) ∧ w'.cell? ⟨w.heap.size, 2, none⟩ = some (.slice A na ca) ∧ w'.cell? ⟨w.heap.size, 3, none⟩ = some (.int .i64 C) ∧ w'.cell? ⟨w.heap.size, 4, none⟩ = some (.slice Z nz cz) ∧ Own w' ⟨w.heap.size + 1, 0, none⟩ (.int .i64 0) ∧ Own w' ⟨w.heap.size + 1, 1, none⟩ (.int .i64 0) ∧ Own w' ⟨w.heap.size + 1, 2, none⟩ (.slice none 0 0) ∧ Own w' ⟨w.heap.size + 1, 3, none⟩ (.slice none 0 0)) (E := [20]) (by kernel_rfl) (hS.out _ HBD) (fun hHeld => ?_)
  obtain ⟨wD, hwD⟩ : ∃ u, w0.drew = u := ⟨_, rfl⟩
  rw [hwD] at HBD hHeld ⊢
  have HSZD : Hid (w0.heap.size ≤ wD.heap.size) := Lib.hid (by rw [← hwD]; exact Nat.le_refl _)
  clear hwD
  refine tkV 0 ?_
  try simp only [qq1, qq2, qq3, Act.put, qq4, qq5, qq6]
  refine tkV 1 ?_
  try simp only [qq1, qq2, qq3, Act.put, qq4, qq5, qq6]
  refine tkV 2 ?_
  try simp only [qq1, qq2, qq3, Act.put, qq4, qq5, qq6]
  refine tkV 3 ?_
  try simp only [qq1, qq2, qq3, Act.put, qq4, qq5, qq6]
  refine tkV 6 ?_
  try simp only [qq1, qq2, qq3, Act.put, qq4, qq5, qq6]
  refine tkV 7 ?_
  try simp only [qq1, qq2, qq3, Act.put, qq4, qq5, qq6]
  refine tkV 8 ?_
  try simp only [qq1, qq2, qq3, Act.put, qq4, qq5, qq6]
  refine tkV 10 ?_
  try simp only [qq1, qq2, qq3, Act.put, qq4, qq5, qq6]
  refine tkV 11 ?_
  try simp only [qq1, qq2, qq3, Act.put, qq4, qq5, qq6]
  refine tkV 12 ?_
  try simp only [qq1, qq2, qq3, Act.put, qq4, qq5, qq6]
  refine tkV 13 ?_
  try simp only [qq1, qq2, qq3, Act.put, qq4, qq5, qq6]
  refine tkV 14 ?_
  try simp only [qq1, qq2, qq3, Act.put, qq4, qq5, qq6]
  refine tkV 15 ?_
  try simp only [qq1, qq2, qq3, Act.put, qq4, qq5, qq6]
  refine tkV 16 ?_
  try simp only [qq1, qq2, qq3, Act.put, qq4, qq5, qq6]
  refine wpT_frame (fun T a0 hT ha0 => ?_)
  clear hHeld
  have G4_5_9_17_18 : ∀ (gE : Nat) (cE : Ic) (cA : Ic) (cZ : Ic) (gL : Nat) (u : World), (Hid (Below w0.heap.size w0 u)) → (Hid (IB2 u gE (E1) (E2))) → (Hid (ItS w0.heap.size u (.lst ([E1, E2].map .int)) cE)) → (Hid (ItS w0.heap.size u (.lst ((al).map .int)) cA)) → (Hid (ItS w0.heap.size u (.lst ((zs).map .int)) cZ)) → (Hid (u.heap[gL]? = some (.cells #[.int .i64 cE.kind, .int .i64 cE.n, .slice cE.B cE.nb cE.cb, .slice cE.L cE.nl cE.cl, .int .i64 cA.kind, .int .i64 cA.n, .slice cA.B cA.nb cA.cb, .slice cA.L cA.nl cA.cl, .int .i64 1, .int .i64 C, .slice none 0 0, .slice none 0 0, .int .i64 cZ.kind, .int .i64 cZ.n, .slice cZ.B cZ.nb cZ.cb, .slice cZ.L cZ.nl cZ.cl] 67))) → (Hid (w0.heap.size ≤ gL)) → T 2 #[true, true, true, true, true, true, true, true, true, true, true, true, true, true, true, true, true, true, true, false, false] (((((a0.put (some 7) (.slice (some ⟨gE, 0, none⟩) 2 2)).put (some 8) (.agg #[.int .i64 cE.kind, .int .i64 cE.n, .slice cE.B cE.nb cE.cb, .slice cE.L cE.nl cE.cl])).put (some 12) (.agg #[.int .i64 cA.kind, .int .i64 cA.n, .slice cA.B cA.nb cA.cb, .slice cA.L cA.nl cA.cl])).put (some 20) (.agg #[.int .i64 cZ.kind, .int .i64 cZ.n, .slice cZ.B cZ.nb cZ.cb, .slice cZ.L cZ.nl cZ.cl])).put (some 21) (.slice (some ⟨gL, 0, none⟩) 4 4)) u := by
    intro gE cE cA cZ gL u FB FE HE HA HZ FL FLl
    have hHeld := hS.out _ FB
    rw [hT, ha0]
    try simp only [qq1, qq2, qq3, Act.put, qq4, qq5, qq6]
    have HE_w0 := Lib.hid FB.out
    refine tkV 19 ?_
    try simp only [qq1, qq2, qq3, Act.put, qq4, qq5, qq6]
    have FNIL := kRB.out _ (Lib.hid FB.out)
    refine wpT_pass (i := 20) (by kernel_rfl) (by simp) rfl (fun K hK => ?_)
    rw [show (if Region.wanted _ _ = true then _ else _ : Prop) = _ from if_pos rfl]
    refine wp_store_row 67 _ _ rfl (w.heap.size + 1) (Ic.cs ⟨3, 0, none, 0, 0, some ⟨gL, 0, none⟩, 4, 4⟩) rfl rfl 67 _ FNIL.out (ic_info _) rfl (ic_one _) ?_
    refine hK.out _ _ ?_
    clear hK K
    try simp only [qq1, qq2, qq3, Act.put, qq4, qq5, qq6]
    refine wpT_done (by kernel_rfl) ?_ _
    have hit : ItS w0.heap.size u (eIt E1 E2 al C zs) ⟨3, 0, none, 0, 0, some ⟨gL, 0, none⟩, 4, 4⟩ := its_blk (fun k => match k with | 0 => cE | 1 => cA | 2 => icInt C | _ => cZ) FL.out FLl.out rfl (fun k hk => by
        rcases (show k = 0 ∨ k = 1 ∨ k = 2 ∨ k = 3 by omega) with rfl | rfl | rfl | rfl <;> exact ⟨rfl, rfl, rfl, rfl⟩) (fun k hk => by
        rcases (show k = 0 ∨ k = 1 ∨ k = 2 ∨ k = 3 by omega) with rfl | rfl | rfl | rfl
        · exact HE.out
        · exact HA.out
        · exact its_int _ _ _
        · exact HZ.out)
    have hit2 := (hit.setRow (g := w.heap.size + 1) (by have := HSZ0.out; omega) (Ic.cs ⟨3, 0, none, 0, 0, some ⟨gL, 0, none⟩, 4, 4⟩)).mono (lo' := w.heap.size) (by have := HSZ0.out; omega)
    have hbF := below_setRow' (below_ext HBw.out FB.out) (cs := Ic.cs ⟨3, 0, none, 0, 0, some ⟨gL, 0, none⟩, 4, 4⟩) (Nat.le_add_right w.heap.size 1)
    have hrw := setRow_heap _ _ _ (Ic.cs ⟨3, 0, none, 0, 0, some ⟨gL, 0, none⟩, 4, 4⟩) _ _ FNIL.out
    go_wp2
    exact bodyPost_ret (v := (Ic.mk 3 0 none 0 0 (some ⟨gL, 0, none⟩) 4 4).val) (results_cell1 (p := 2) (ty := 67) rfl _ _ ⟨w.heap.size + 1, 0, none⟩ _ rfl (run_loadVar_row _ _ _ _ _ _ _ hrw Tryd.underlying67 rfl (ic_info _))) rfl ⟨_, rfl, hit2, hbF⟩
  have G4_5_9_17 : ∀ (gE : Nat) (cE : Ic) (cA : Ic) (cZ : Ic) (u : World), (Hid (Below w0.heap.size w0 u)) → (Hid (IB2 u gE (E1) (E2))) → (Hid (ItS w0.heap.size u (.lst ([E1, E2].map .int)) cE)) → (Hid (ItS w0.heap.size u (.lst ((al).map .int)) cA)) → (Hid (ItS w0.heap.size u (.lst ((zs).map .int)) cZ)) → T 3 #[true, true, true, true, true, true, true, true, true, true, true, true, true, true, true, true, true, true, false, false, false] ((((a0.put (some 7) (.slice (some ⟨gE, 0, none⟩) 2 2)).put (some 8) (.agg #[.int .i64 cE.kind, .int .i64 cE.n, .slice cE.B cE.nb cE.cb, .slice cE.L cE.nl cE.cl])).put (some 12) (.agg #[.int .i64 cA.kind, .int .i64 cA.n, .slice cA.B cA.nb cA.cb, .slice cA.L cA.nl cA.cl])).put (some 20) (.agg #[.int .i64 cZ.kind, .int .i64 cZ.n, .slice cZ.B cZ.nb cZ.cb, .slice cZ.L cZ.nl cZ.cl])) u := by
    intro gE cE cA cZ u FB FE HE HA HZ
    have hHeld := hS.out _ FB
    rw [hT, ha0]
    try simp only [qq1, qq2, qq3, Act.put, qq4, qq5, qq6]
    refine wpT_one (i := 18) (by kernel_rfl) rfl (fun K hK => ?_)
    go_simp
    have FB2 := hBx.out _ _ FB (below_box0 u (.cells #[.int .i64 cE.kind, .int .i64 cE.n, .slice cE.B cE.nb cE.cb, .slice cE.L cE.nl cE.cl, .int .i64 cA.kind, .int .i64 cA.n, .slice cA.B cA.nb cA.cb, .slice cA.L cA.nl cA.cl, .int .i64 1, .int .i64 C, .slice none 0 0, .slice none 0 0, .int .i64 cZ.kind, .int .i64 cZ.n, .slice cZ.B cZ.nb cZ.cb, .slice cZ.L cZ.nl cZ.cl] 67))
    refine hK.out _ _ ?_ (fun hHeld => ?_)
    · exact hS.out _ FB2
    clear hK K hHeld
    try simp only [qq1, qq2, qq3, Act.put, qq4, qq5, qq6]
    have hG := G4_5_9_17_18 gE cE cA cZ u.heap.size (u.alloc (.cells #[.int .i64 cE.kind, .int .i64 cE.n, .slice cE.B cE.nb cE.cb, .slice cE.L cE.nl cE.cl, .int .i64 cA.kind, .int .i64 cA.n, .slice cA.B cA.nb cA.cb, .slice cA.L cA.nl cA.cl, .int .i64 1, .int .i64 C, .slice none 0 0, .slice none 0 0, .int .i64 cZ.kind, .int .i64 cZ.n, .slice cZ.B cZ.nb cZ.cb, .slice cZ.L cZ.nl cZ.cl] 67)) FB2 (Lib.hid (FE.out.below (below_box0 u (.cells #[.int .i64 cE.kind, .int .i64 cE.n, .slice cE.B cE.nb cE.cb, .slice cE.L cE.nl cE.cl, .int .i64 cA.kind, .int .i64 cA.n, .slice cA.B cA.nb cA.cb, .slice cA.L cA.nl cA.cl, .int .i64 1, .int .i64 C, .slice none 0 0, .slice none 0 0, .int .i64 cZ.kind, .int .i64 cZ.n, .slice cZ.B cZ.nb cZ.cb, .slice cZ.L cZ.nl cZ.cl] 67)))) (Lib.hid (HE.out.kept (below_box0 u (.cells #[.int .i64 cE.kind, .int .i64 cE.n, .slice cE.B cE.nb cE.cb, .slice cE.L cE.nl cE.cl, .int .i64 cA.kind, .int .i64 cA.n, .slice cA.B cA.nb cA.cb, .slice cA.L cA.nl cA.cl, .int .i64 1, .int .i64 C, .slice none 0 0, .slice none 0 0, .int .i64 cZ.kind, .int .i64 cZ.n, .slice cZ.B cZ.nb cZ.cb, .slice cZ.L cZ.nl cZ.cl] 67)))) (Lib.hid (HA.out.kept (below_box0 u (.cells #[.int .i64 cE.kind, .int .i64 cE.n, .slice cE.B cE.nb cE.cb, .slice cE.L cE.nl cE.cl, .int .i64 cA.kind, .int .i64 cA.n, .slice cA.B cA.nb cA.cb, .slice cA.L cA.nl cA.cl, .int .i64 1, .int .i64 C, .slice none 0 0, .slice none 0 0, .int .i64 cZ.kind, .int .i64 cZ.n, .slice cZ.B cZ.nb cZ.cb, .slice cZ.L cZ.nl cZ.cl] 67)))) (Lib.hid (HZ.out.kept (below_box0 u (.cells #[.int .i64 cE.kind, .int .i64 cE.n, .slice cE.B cE.nb cE.cb, .slice cE.L cE.nl cE.cl, .int .i64 cA.kind, .int .i64 cA.n, .slice cA.B cA.nb cA.cb, .slice cA.L cA.nl cA.cl, .int .i64 1, .int .i64 C, .slice none 0 0, .slice none 0 0, .int .i64 cZ.kind, .int .i64 cZ.n, .slice cZ.B cZ.nb cZ.cb, .slice cZ.L cZ.nl cZ.cl] 67)))) (Lib.hid (heap_alloc_new u _)) (Lib.hid (by have := FB.out.size; omega))
    rw [hT, ha0] at hG
    (try simp only [qq1, qq2, qq3, Act.put, qq4, qq5, qq6] at hG)
    exact hG
  have G4_5_9 : ∀ (gE : Nat) (cE : Ic) (cA : Ic) (u : World), (Hid (Below w0.heap.size w0 u)) → (Hid (IB2 u gE (E1) (E2))) → (Hid (ItS w0.heap.size u (.lst ([E1, E2].map .int)) cE)) → (Hid (ItS w0.heap.size u (.lst ((al).map .int)) cA)) → T 4 #[true, true, true, true, true, true, true, true, true, true, true, true, true, true, true, true, true, false, false, false, false] (((a0.put (some 7) (.slice (some ⟨gE, 0, none⟩) 2 2)).put (some 8) (.agg #[.int .i64 cE.kind, .int .i64 cE.n, .slice cE.B cE.nb cE.cb, .slice cE.L cE.nl cE.cl])).put (some 12) (.agg #[.int .i64 cA.kind, .int .i64 cA.n, .slice cA.B cA.nb cA.cb, .slice cA.L cA.nl cA.cl])) u := by
    intro gE cE cA u FB FE HE HA
    have hHeld := hS.out _ FB
    rw [hT, ha0]
    try simp only [qq1, qq2, qq3, Act.put, qq4, qq5, qq6]
    refine wpT_one (i := 17) (by kernel_rfl) rfl (fun K hK => ?_)
    go_simp
    refine (rints_any Z zs nz cz hnz (by omega) _ (kZ.out _ (Lib.hid FB.out))).mono ?_
    rintro e wB ⟨cB, rfl, hit, hq⟩
    have FB2 := hBx.out _ _ FB hq
    refine hK.out _ _ ?_ (fun hHeld => ?_)
    · exact hS.out _ FB2
    clear hK K hHeld
    try simp only [qq1, qq2, qq3, Act.put, qq4, qq5, qq6]
    have hG := G4_5_9_17 gE cE cA cB wB FB2 (Lib.hid (FE.out.below hq)) (Lib.hid (HE.out.kept hq)) (Lib.hid (HA.out.kept hq)) (Lib.hid (hit.mono (by have := FB.out.size; omega)))
    rw [hT, ha0] at hG
    (try simp only [qq1, qq2, qq3, Act.put, qq4, qq5, qq6] at hG)
    exact hG
  have G4_5 : ∀ (gE : Nat) (cE : Ic) (u : World), (Hid (Below w0.heap.size w0 u)) → (Hid (IB2 u gE (E1) (E2))) → (Hid (ItS w0.heap.size u (.lst ([E1, E2].map .int)) cE)) → T 5 #[true, true, true, true, true, true, true, true, true, false, true, true, true, true, true, true, true, false, false, false, false] ((a0.put (some 7) (.slice (some ⟨gE, 0, none⟩) 2 2)).put (some 8) (.agg #[.int .i64 cE.kind, .int .i64 cE.n, .slice cE.B cE.nb cE.cb, .slice cE.L cE.nl cE.cl])) u := by
    intro gE cE u FB FE HE
    have hHeld := hS.out _ FB
    rw [hT, ha0]
    try simp only [qq1, qq2, qq3, Act.put, qq4, qq5, qq6]
    refine wpT_one (i := 9) (by kernel_rfl) rfl (fun K hK => ?_)
    go_simp
    refine (rints_any A al na ca hna (by omega) _ (kA.out _ (Lib.hid FB.out))).mono ?_
    rintro e wB ⟨cB, rfl, hit, hq⟩
    have FB2 := hBx.out _ _ FB hq
    refine hK.out _ _ ?_ (fun hHeld => ?_)
    · exact hS.out _ FB2
    clear hK K hHeld
    try simp only [qq1, qq2, qq3, Act.put, qq4, qq5, qq6]
    have hG := G4_5_9 gE cE cB wB FB2 (Lib.hid (FE.out.below hq)) (Lib.hid (HE.out.kept hq)) (Lib.hid (hit.mono (by have := FB.out.size; omega)))
    rw [hT, ha0] at hG
    (try simp only [qq1, qq2, qq3, Act.put, qq4, qq5, qq6] at hG)
    exact hG
  have G4 : ∀ (gE : Nat) (u : World), (Hid (Below w0.heap.size w0 u)) → (Hid (IB2 u gE (E1) (E2))) → T 6 #[true, true, true, true, true, false, true, true, true, false, true, true, true, true, true, true, true, false, false, false, false] (a0.put (some 7) (.slice (some ⟨gE, 0, none⟩) 2 2)) u := by
    intro gE u FB FE
    have hHeld := hS.out _ FB
    rw [hT, ha0]
    try simp only [qq1, qq2, qq3, Act.put, qq4, qq5, qq6]
    refine wpT_one (i := 5) (by kernel_rfl) rfl (fun K hK => ?_)
    go_simp
    refine (rints_any (some ⟨gE, 0, none⟩) [E1, E2] 2 2 (Lib.hid rfl) (by omega) _ (Lib.hid FE.out.sl)).mono ?_
    rintro e wB ⟨cB, rfl, hit, hq⟩
    have FB2 := hBx.out _ _ FB hq
    refine hK.out _ _ ?_ (fun hHeld => ?_)
    · exact hS.out _ FB2
    clear hK K hHeld
    try simp only [qq1, qq2, qq3, Act.put, qq4, qq5, qq6]
    have hG := G4_5 gE cB wB FB2 (Lib.hid (FE.out.below hq)) (Lib.hid (hit.mono (by have := FB.out.size; omega)))
    rw [hT, ha0] at hG
    (try simp only [qq1, qq2, qq3, Act.put, qq4, qq5, qq6] at hG)
    exact hG
  have G0 : ∀  (u : World), (Hid (Below w0.heap.size w0 u)) → T 7 #[true, true, true, true, false, false, true, true, true, false, true, true, true, true, true, true, true, false, false, false, false] a0 u := by
    intro  u FB
    have hHeld := hS.out _ FB
    rw [hT, ha0]
    try simp only [qq1, qq2, qq3, Act.put, qq4, qq5, qq6]
    refine wpT_one (i := 4) (by kernel_rfl) rfl (fun K hK => ?_)
    go_simp
    have FB2 := hBx.out _ _ FB (below_box0 u (.cells #[.int .i64 (E1), .int .i64 (E2)] 3))
    refine hK.out _ _ ?_ (fun hHeld => ?_)
    · exact hS.out _ FB2
    clear hK K hHeld
    try simp only [qq1, qq2, qq3, Act.put, qq4, qq5, qq6]
    have hG := G4 u.heap.size (u.alloc (.cells #[.int .i64 (E1), .int .i64 (E2)] 3)) FB2 (Lib.hid (IB2.new u (E1) (E2)))
    rw [hT, ha0] at hG
    (try simp only [qq1, qq2, qq3, Act.put, qq4, qq5, qq6] at hG)
    exact hG
  exact G0 _ HBD
set_option maxHeartbeats 1600000 in
theorem rshort_any (A : Option Addr) (na ca : Nat) (C : Int) (Z : Option Addr) (nz cz : Nat) (r : Bool) (hr : Hid (shB na nz = r)) (w : World) :
    Calls Tryd.prog 18 #[prvL A na ca C Z nz cz] w fun e' w' => e' = .returned (.bool r) ∧ Below w.heap.size w w' := by
  have HX := below_box0 w (prObjL A na ca C Z nz cz)
  have hr1 := hr.out
  unfold shB at hr1
  by_cases h0 : na ≤ 20
  · have d0 : decide ((na : Int) ≤ 20) = true := by simp; omega
    by_cases h1 : nz ≤ 20
    · have d1 : decide ((nz : Int) ≤ 20) = true := by simp; omega
      obtain rfl : r = true := by rw [← hr1]; simp; omega
      clear hr1 hr
      go_enter Tryd.func18, Tryd.ntmps18
      go_wp2
      go_ret
      exact ⟨rfl, HX⟩
    · have d1 : decide ((nz : Int) ≤ 20) = false := by simp; omega
      obtain rfl : r = false := by rw [← hr1]; simp; omega
      clear hr1 hr
      go_enter Tryd.func18, Tryd.ntmps18
      go_wp2
      go_ret
      exact ⟨rfl, HX⟩
  · have d0 : decide ((na : Int) ≤ 20) = false := by simp; omega
    obtain rfl : r = false := by rw [← hr1]; simp; omega
    clear hr1 hr
    go_enter Tryd.func18, Tryd.ntmps18
    go_wp2
    go_ret
    exact ⟨rfl, HX⟩
set_option maxHeartbeats 3200000 in
theorem has_any (L : Option Addr) (ps : List PartR) (n c : Nat) (x : Int) (r : Bool) (hr : Hid (frB ps x n = r)) (hn : Hid (n ≤ ps.length)) (hbig : n < 1000000) (w : World) (hs : Hid (Pa w L ps)) :
    Calls Tryd.prog 59 #[.slice L n c, .int .i64 x] w fun e' w' => e' = .returned (.bool (!r)) ∧ Below w.heap.size w w' := by
  go_enter Tryd.func59, Tryd.ntmps59
  go_wp2
  go_loopw [5] (fun i wr => ∃ k : Nat, k ≤ n ∧ i = .int .i64 k ∧ Hid (frB ps x k = true) ∧ Hid (Below w.heap.size w wr)) (fun i _ => n - (intOf i).toNat)
  case atStart => exact ⟨0, by omega, rfl, Lib.hid rfl, Lib.hid (Below.refl _ _)⟩
  case round =>
    obtain ⟨k, hk, rfl, HR, HBr⟩ := hrel
    by_cases hlt : k < n
    · have hkl : k < ps.length := by have := hn.out; omega
      obtain ⟨b, o, hA, i0, i1, i2, i3, i4, _⟩ := (hs.out.below HBr.out) k hkl
      subst hA
      cases hpx : ((ps.getD k noPart).ix == x) with
      | false =>
        have HN : Hid (frB ps x (k + 1) = true) := Lib.hid (by rw [frB, HR.out, bne, hpx]; rfl)
        obtain ⟨p, hp⟩ : ∃ p, ps.getD k noPart = p := ⟨_, rfl⟩
        rw [hp] at i0 hpx
        clear hp hkl HR i1 i2 i3 i4
        go_wp2
        go_roundw
        case rel => exact ⟨k + 1, by omega, by go_num, HN, HBr⟩
        case measure => simp [intOf]; omega
      | true =>
        obtain rfl : r = false := by
          cases hrr : r with
          | false => rfl
          | true => exact absurd (by simpa using hpx) (frB_get (hr.out.trans hrr) k hlt)
        obtain ⟨p, hp⟩ : ∃ p, ps.getD k noPart = p := ⟨_, rfl⟩
        rw [hp] at i0 hpx
        clear hp hkl HR i1 i2 i3 i4
        go_wp2
        go_ret
        exact ⟨rfl, HBr.out⟩
    · obtain rfl : k = n := by omega
      obtain rfl : r = true := hr.out.symm.trans HR.out
      clear HR
      go_wp2
      go_ret
      exact ⟨rfl, HBr.out⟩
set_option maxHeartbeats 3200000 in
theorem rord_1 (o : OrdR) (h : o.num < 0) (w : World) :
    Calls Tryd.prog 33 #[orV o] w fun e' w' => e' = .returned (.bool false) ∧ Below w.heap.size w w' := by
  have dn0 : decide (o.num < 0) = true := by simp; omega
  obtain ⟨w0, HW, HBw, kC⟩ := stOr o w
  have HB_0 : Hid (Below w0.heap.size w0 w0) := Lib.hid (Below.refl _ _)
  go_enter Tryd.func33, Tryd.ntmps33
  go_upto_region 1 with (fail)
  rw [HW.out]
  obtain ⟨zc0, zc1, zc2, zc3, zc4, zc5, zc6, zc7, zc8⟩ := kC.out _ HB_0
  have hbF := below_ext HBw.out HB_0.out
  go_wp2
  go_ret
  exact ⟨rfl, hbF⟩
set_option maxHeartbeats 3200000 in
theorem rord_2 (o : OrdR) (h1 : 0 ≤ o.num) (h : 100 ≤ o.num) (w : World) :
    Calls Tryd.prog 33 #[orV o] w fun e' w' => e' = .returned (.bool false) ∧ Below w.heap.size w w' := by
  have dn0 : decide (o.num < 0) = false := by simp; omega
  have dn1 : decide ((100 : Int) ≤ o.num) = true := by simp; omega
  obtain ⟨w0, HW, HBw, kC⟩ := stOr o w
  have HB_0 : Hid (Below w0.heap.size w0 w0) := Lib.hid (Below.refl _ _)
  go_enter Tryd.func33, Tryd.ntmps33
  go_upto_region 1 with (fail)
  rw [HW.out]
  obtain ⟨zc0, zc1, zc2, zc3, zc4, zc5, zc6, zc7, zc8⟩ := kC.out _ HB_0
  have hbF := below_ext HBw.out HB_0.out
  go_wp2
  go_ret
  exact ⟨rfl, hbF⟩
set_option maxHeartbeats 3200000 in
theorem rord_3a (o : OrdR) (h1 : 0 ≤ o.num) (h2 : o.num < 100) (h : o.rs.size < 1) (w : World) :
    Calls Tryd.prog 33 #[orV o] w fun e' w' => e' = .returned (.bool false) ∧ Below w.heap.size w w' := by
  have dn0 : decide (o.num < 0) = false := by simp; omega
  have dn1 : decide ((100 : Int) ≤ o.num) = false := by simp; omega
  have dr0 : decide ((o.rs.size : Int) < 1) = true := by simp; omega
  obtain ⟨w0, HW, HBw, kC⟩ := stOr o w
  have HB_0 : Hid (Below w0.heap.size w0 w0) := Lib.hid (Below.refl _ _)
  go_enter Tryd.func33, Tryd.ntmps33
  go_upto_region 1 with (fail)
  rw [HW.out]
  obtain ⟨zc0, zc1, zc2, zc3, zc4, zc5, zc6, zc7, zc8⟩ := kC.out _ HB_0
  have hbF := below_ext HBw.out HB_0.out
  go_wp2
  go_ret
  exact ⟨rfl, hbF⟩
set_option maxHeartbeats 3200000 in
theorem rord_3b (o : OrdR) (h1 : 0 ≤ o.num) (h2 : o.num < 100) (h5 : 1 ≤ o.rs.size) (h : 200 < o.rs.size) (w : World) :
    Calls Tryd.prog 33 #[orV o] w fun e' w' => e' = .returned (.bool false) ∧ Below w.heap.size w w' := by
  have dn0 : decide (o.num < 0) = false := by simp; omega
  have dn1 : decide ((100 : Int) ≤ o.num) = false := by simp; omega
  have dr0 : decide ((o.rs.size : Int) < 1) = false := by simp; omega
  have dr1 : decide ((200 : Int) < (o.rs.size : Int)) = true := by simp; omega
  obtain ⟨w0, HW, HBw, kC⟩ := stOr o w
  have HB_0 : Hid (Below w0.heap.size w0 w0) := Lib.hid (Below.refl _ _)
  go_enter Tryd.func33, Tryd.ntmps33
  go_upto_region 1 with (fail)
  rw [HW.out]
  obtain ⟨zc0, zc1, zc2, zc3, zc4, zc5, zc6, zc7, zc8⟩ := kC.out _ HB_0
  have hbF := below_ext HBw.out HB_0.out
  go_wp2
  go_ret
  exact ⟨rfl, hbF⟩
set_option maxHeartbeats 3200000 in
theorem rord_4 (o : OrdR) (h1 : 0 ≤ o.num) (h2 : o.num < 100) (h5 : 1 ≤ o.rs.size) (h6 : o.rs.size ≤ 200) (hsh : Hid (shB o.na o.nz = false)) (w : World) :
    Calls Tryd.prog 33 #[orV o] w fun e' w' => e' = .returned (.bool false) ∧ Below w.heap.size w w' := by
  have dn0 : decide (o.num < 0) = false := by simp; omega
  have dn1 : decide ((100 : Int) ≤ o.num) = false := by simp; omega
  have dr0 : decide ((o.rs.size : Int) < 1) = false := by simp; omega
  have dr1 : decide ((200 : Int) < (o.rs.size : Int)) = false := by simp; omega
  obtain ⟨w0, HW, HBw, kC⟩ := stOr o w
  have HB_0 : Hid (Below w0.heap.size w0 w0) := Lib.hid (Below.refl _ _)
  go_enter Tryd.func33, Tryd.ntmps33
  go_upto_region 1 with (fail)
  rw [HW.out]
  obtain ⟨zc0, zc1, zc2, zc3, zc4, zc5, zc6, zc7, zc8⟩ := kC.out _ HB_0
  go_wp2_with fail
  refine (rshort_any o.A o.na o.ca o.C o.Z o.nz o.cz false hsh _).mono ?_
  rintro e w1 ⟨rfl, hb0⟩
  have HB_1 := Lib.hid (below_ext HB_0.out hb0)
  clear zc0 zc1 zc2 zc3 zc4 zc5 zc6 zc7 zc8
  clear hb0
  obtain ⟨zc0, zc1, zc2, zc3, zc4, zc5, zc6, zc7, zc8⟩ := kC.out _ HB_1
  have hbF := below_ext HBw.out HB_1.out
  go_wp2
  go_ret
  exact ⟨rfl, hbF⟩
set_option maxHeartbeats 3200000 in
theorem rord_5 (o : OrdR) (h1 : 0 ≤ o.num) (h2 : o.num < 100) (h5 : 1 ≤ o.rs.size) (h6 : o.rs.size ≤ 200) (hsh : Hid (shB o.na o.nz = true)) (h3 : ¬ o.np ≤ 8) (w : World) :
    Calls Tryd.prog 33 #[orV o] w fun e' w' => e' = .returned (.bool false) ∧ Below w.heap.size w w' := by
  have dn0 : decide (o.num < 0) = false := by simp; omega
  have dn1 : decide ((100 : Int) ≤ o.num) = false := by simp; omega
  have dr0 : decide ((o.rs.size : Int) < 1) = false := by simp; omega
  have dr1 : decide ((200 : Int) < (o.rs.size : Int)) = false := by simp; omega
  have dp8 : decide ((8 : Int) < (o.np : Int)) = true := by simp; omega
  obtain ⟨w0, HW, HBw, kC⟩ := stOr o w
  have HB_0 : Hid (Below w0.heap.size w0 w0) := Lib.hid (Below.refl _ _)
  go_enter Tryd.func33, Tryd.ntmps33
  go_upto_region 1 with (fail)
  rw [HW.out]
  obtain ⟨zc0, zc1, zc2, zc3, zc4, zc5, zc6, zc7, zc8⟩ := kC.out _ HB_0
  go_wp2_with fail
  refine (rshort_any o.A o.na o.ca o.C o.Z o.nz o.cz true hsh _).mono ?_
  rintro e w1 ⟨rfl, hb0⟩
  have HB_1 := Lib.hid (below_ext HB_0.out hb0)
  clear zc0 zc1 zc2 zc3 zc4 zc5 zc6 zc7 zc8
  clear hb0
  obtain ⟨zc0, zc1, zc2, zc3, zc4, zc5, zc6, zc7, zc8⟩ := kC.out _ HB_1
  have hbF := below_ext HBw.out HB_1.out
  go_wp2
  go_ret
  exact ⟨rfl, hbF⟩
set_option maxHeartbeats 3200000 in
theorem rord_6 (o : OrdR) (h1 : 0 ≤ o.num) (h2 : o.num < 100) (h5 : 1 ≤ o.rs.size) (h6 : o.rs.size ≤ 200) (hsh : Hid (shB o.na o.nz = true)) (h3 : o.np ≤ 8) (h4 : ¬ 0 ≤ o.key) (w : World) :
    Calls Tryd.prog 33 #[orV o] w fun e' w' => e' = .returned (.bool false) ∧ Below w.heap.size w w' := by
  have dn0 : decide (o.num < 0) = false := by simp; omega
  have dn1 : decide ((100 : Int) ≤ o.num) = false := by simp; omega
  have dr0 : decide ((o.rs.size : Int) < 1) = false := by simp; omega
  have dr1 : decide ((200 : Int) < (o.rs.size : Int)) = false := by simp; omega
  have dp8 : decide ((8 : Int) < (o.np : Int)) = false := by simp; omega
  have dk0 : decide (o.key < 0) = true := by simp; omega
  obtain ⟨w0, HW, HBw, kC⟩ := stOr o w
  have HB_0 : Hid (Below w0.heap.size w0 w0) := Lib.hid (Below.refl _ _)
  go_enter Tryd.func33, Tryd.ntmps33
  go_upto_region 1 with (fail)
  rw [HW.out]
  obtain ⟨zc0, zc1, zc2, zc3, zc4, zc5, zc6, zc7, zc8⟩ := kC.out _ HB_0
  go_wp2_with fail
  refine (rshort_any o.A o.na o.ca o.C o.Z o.nz o.cz true hsh _).mono ?_
  rintro e w1 ⟨rfl, hb0⟩
  have HB_1 := Lib.hid (below_ext HB_0.out hb0)
  clear zc0 zc1 zc2 zc3 zc4 zc5 zc6 zc7 zc8
  clear hb0
  obtain ⟨zc0, zc1, zc2, zc3, zc4, zc5, zc6, zc7, zc8⟩ := kC.out _ HB_1
  have hbF := below_ext HBw.out HB_1.out
  go_wp2
  go_ret
  exact ⟨rfl, hbF⟩
set_option maxHeartbeats 12800000 in
theorem rord_7 (o : OrdR) (h1 : 0 ≤ o.num) (h2 : o.num < 100) (h5 : 1 ≤ o.rs.size) (h6 : o.rs.size ≤ 200) (hsh : Hid (shB o.na o.nz = true)) (h3 : o.np ≤ 8) (h4 : 0 ≤ o.key) (w : World) (ho : Hid (OrdOk w o)) :
    Calls Tryd.prog 33 #[orV o] w fun e' w' => e' = .returned (.bool (ptsB o.ps o.np)) ∧ Below w.heap.size w w' := by
  have dn0 : decide (o.num < 0) = false := by simp; omega
  have dn1 : decide ((100 : Int) ≤ o.num) = false := by simp; omega
  have dr0 : decide ((o.rs.size : Int) < 1) = false := by simp; omega
  have dr1 : decide ((200 : Int) < (o.rs.size : Int)) = false := by simp; omega
  have dp8 : decide ((8 : Int) < (o.np : Int)) = false := by simp; omega
  have dk0 : decide (o.key < 0) = false := by simp; omega
  obtain ⟨w0, HW, HBw, kC⟩ := stOr o w
  have kO := Lib.hid (show ∀ u : World, Hid (Below w0.heap.size w0 u) → Hid (OrdOk u o) from fun u h => Lib.hid ((ho.out.below) (below_ext HBw.out h.out)))
  have HB_0 : Hid (Below w0.heap.size w0 w0) := Lib.hid (Below.refl _ _)
  clear ho
  go_enter Tryd.func33, Tryd.ntmps33
  go_upto_region 1 with (fail)
  rw [HW.out]
  obtain ⟨zc0, zc1, zc2, zc3, zc4, zc5, zc6, zc7, zc8⟩ := kC.out _ HB_0
  go_wp2_with fail
  refine (rshort_any o.A o.na o.ca o.C o.Z o.nz o.cz true hsh _).mono ?_
  rintro e w1 ⟨rfl, hb0⟩
  have HB_1 := Lib.hid (below_ext HB_0.out hb0)
  clear zc0 zc1 zc2 zc3 zc4 zc5 zc6 zc7 zc8
  clear hb0
  obtain ⟨zc0, zc1, zc2, zc3, zc4, zc5, zc6, zc7, zc8⟩ := kC.out _ HB_1
  go_wp2
  clear zc0 zc1 zc2 zc3 zc4 zc5 zc6 zc7 zc8
  go_loopw [3] (fun i wr => ∃ k : Nat, k ≤ o.np ∧ i = .int .i64 k ∧ Hid (ptsB o.ps k = true) ∧ Hid (Below w0.heap.size w0 wr)) (fun i _ => o.np - (intOf i).toNat)
  case atStart => exact ⟨0, by omega, rfl, Lib.hid rfl, HB_1⟩
  case round =>
    obtain ⟨k, hk, rfl, HR, HBr⟩ := hrel
    by_cases hlt : k < o.np
    · skip
      obtain ⟨ok1, ok2, ⟨ok3, okc⟩, ok4, ok5, ok6⟩ := (kO.out _ HBr).out
      have hkl : k < o.ps.length := by rw [ok3]; exact hlt
      obtain ⟨b, f, hA, j0, j1, j2, j3, j4, j5⟩ := ok6 k hkl
      clear j5
      have HPA := Lib.hid ok6
      have HKP : Hid (k ≤ o.ps.length) := Lib.hid (by omega)
      have hkc : k ≤ o.cp := by omega
      clear ok1 ok2 ok3 ok4 ok5 ok6 hkl
      obtain ⟨p, hp⟩ : ∃ p, o.ps.getD k noPart = p := ⟨_, rfl⟩
      have HPP := Lib.hid hp
      rw [hp] at j0 j1 j2 j3 j4
      obtain ⟨LA, hLA⟩ : ∃ x, o.L = x := ⟨_, rfl⟩
      have HLA := Lib.hid hLA
      rw [hLA] at hA HPA
      subst hA
      clear hp hLA
      by_cases hx0 : p.ix < 1
      · skip
        have dx0 : decide (p.ix < 1) = true := by simp; omega
        have HF : Hid (ptsB o.ps o.np = false) := Lib.hid (ptsB_hit (k := k) (by rw [prtB, HPP.out]; simp; omega) hlt)
        clear HR
        have HB_wr_1 : Hid (Below wr.heap.size wr wr) := Lib.hid (Below.refl _ _)
        have kP := Lib.hid (show ∀ u : World, Hid (Below wr.heap.size wr u) → Hid (Pa u (some ⟨b, f, none⟩) o.ps) from fun u h => Lib.hid (HPA.out.below h.out))
        obtain ⟨zc0, zc1, zc2, zc3, zc4, zc5, zc6, zc7, zc8⟩ := kC.out _ HBr
        rw [HLA.out] at zc7
        have kC := Lib.hid (show ∀ u : World, Hid (Below w0.heap.size w0 u) → u.cell? ⟨w.heap.size, 0, none⟩ = some (.int .i64 o.num) ∧ u.cell? ⟨w.heap.size, 1, none⟩ = some (.string o.rs) ∧ u.cell? ⟨w.heap.size, 2, none⟩ = some (.int .i64 o.E1) ∧ u.cell? ⟨w.heap.size, 3, none⟩ = some (.int .i64 o.E2) ∧ u.cell? ⟨w.heap.size, 4, none⟩ = some (.slice o.A o.na o.ca) ∧ u.cell? ⟨w.heap.size, 5, none⟩ = some (.int .i64 o.C) ∧ u.cell? ⟨w.heap.size, 6, none⟩ = some (.slice o.Z o.nz o.cz) ∧ u.cell? ⟨w.heap.size, 7, none⟩ = some (.slice (some ⟨b, f, none⟩) o.np o.cp) ∧ u.cell? ⟨w.heap.size, 8, none⟩ = some (.int .i64 o.key) from fun u h => by
          have hk := kC.out u h
          rw [HLA.out] at hk
          exact hk)
        have hq := below_box0 wr (ptO p)
        have HB_2 := Lib.hid (below_ext HBr.out hq)
        have HB_wr_2 := Lib.hid (below_ext HB_wr_1.out hq)
        have hc : (wr.alloc (ptO p)).cell? ⟨wr.heap.size, 0, none⟩ = some (.int .i64 p.ix) ∧ (wr.alloc (ptO p)).cell? ⟨wr.heap.size, 1, none⟩ = some (.int .i64 p.v) ∧ (wr.alloc (ptO p)).cell? ⟨wr.heap.size, 2, none⟩ = some (.slice p.A p.na p.ca) ∧ (wr.alloc (ptO p)).cell? ⟨wr.heap.size, 3, none⟩ = some (.int .i64 p.C) ∧ (wr.alloc (ptO p)).cell? ⟨wr.heap.size, 4, none⟩ = some (.slice p.Z p.nz p.cz) := ⟨allocs_cell rfl (by rfl), allocs_cell rfl (by rfl), allocs_cell rfl (by rfl), allocs_cell rfl (by rfl), allocs_cell rfl (by rfl)⟩
        have HC2 := Lib.hid hc
        clear hq
        obtain ⟨zc0x, zc1x, zc2x, zc3x, zc4x, zc5x, zc6x, zc7x, zc8x⟩ := kC.out _ HB_2
        obtain ⟨zq0, zq1, zq2, zq3, zq4⟩ := hc
        go_upto_region 7 with (fail)
        obtain ⟨w2, hw⟩ : ∃ x, (wr.alloc (ptO p)) = x := ⟨_, rfl⟩
        rw [hw] at HC2 HB_2 HB_wr_2 ⊢
        have HSN2 : Hid (w2.heap.size = wr.heap.size + 1) := Lib.hid (by rw [← hw]; simp)
        clear zc0 zc1 zc2 zc3 zc4 zc5 zc6 zc7 zc8 zc0x zc1x zc2x zc3x zc4x zc5x zc6x zc7x zc8x zq0 zq1 zq2 zq3 zq4
        clear hw
        have HB_w2_2 : Hid (Below w2.heap.size w2 w2) := Lib.hid (Below.refl _ _)
        have kS := Lib.hid (show ∀ u : World, Hid (Below w2.heap.size w2 u) → u.cell? ⟨wr.heap.size, 0, none⟩ = some (.int .i64 p.ix) ∧ u.cell? ⟨wr.heap.size, 1, none⟩ = some (.int .i64 p.v) ∧ u.cell? ⟨wr.heap.size, 2, none⟩ = some (.slice p.A p.na p.ca) ∧ u.cell? ⟨wr.heap.size, 3, none⟩ = some (.int .i64 p.C) ∧ u.cell? ⟨wr.heap.size, 4, none⟩ = some (.slice p.Z p.nz p.cz) from fun u h => ⟨cell_below HC2.out.1 h.out, cell_below HC2.out.2.1 h.out, cell_below HC2.out.2.2.1 h.out, cell_below HC2.out.2.2.2.1 h.out, cell_below HC2.out.2.2.2.2 h.out⟩)
        obtain ⟨zc0, zc1, zc2, zc3, zc4, zc5, zc6, zc7, zc8⟩ := kC.out _ HB_2
        obtain ⟨kS_0, kS_1, kS_2, kS_3, kS_4⟩ := kS.out _ HB_w2_2
        clear j0 j1 j2 j3 j4
        clear zc0 zc1 zc2 zc3 zc4 zc5 zc6 zc7 zc8 kS_0 kS_1 kS_2 kS_3 kS_4
        obtain ⟨zc0, zc1, zc2, zc3, zc4, zc5, zc6, zc7, zc8⟩ := kC.out _ HB_2
        obtain ⟨kS_0, kS_1, kS_2, kS_3, kS_4⟩ := kS.out _ HB_w2_2
        clear zc0 zc1 zc2 zc3 zc4 zc5 zc6 zc7 zc8 kS_0 kS_1 kS_2 kS_3 kS_4
        have hBx3 := Lib.hid (show ∀ u u2 : World, Hid (Below w0.heap.size w0 u ∧ Below wr.heap.size wr u ∧ Below w2.heap.size w2 u) → Below u.heap.size u u2 → Hid (Below w0.heap.size w0 u2 ∧ Below wr.heap.size wr u2 ∧ Below w2.heap.size w2 u2) from fun u u2 h1 h2 => Lib.hid ⟨(below_ext h1.out.1 h2), (below_ext h1.out.2.1 h2), (below_ext h1.out.2.2 h2)⟩)
        have hS3 := Lib.hid (show ∀ u : World, Hid (Below w0.heap.size w0 u ∧ Below wr.heap.size wr u ∧ Below w2.heap.size w2 u) → (u.cell? ⟨w.heap.size, 0, none⟩ = some (.int .i64 o.num) ∧ u.cell? ⟨w.heap.size, 1, none⟩ = some (.string o.rs) ∧ u.cell? ⟨w.heap.size, 2, none⟩ = some (.int .i64 o.E1) ∧ u.cell? ⟨w.heap.size, 3, none⟩ = some (.int .i64 o.E2) ∧ u.cell? ⟨w.heap.size, 4, none⟩ = some (.slice o.A o.na o.ca) ∧ u.cell? ⟨w.heap.size, 5, none⟩ = some (.int .i64 o.C) ∧ u.cell? ⟨w.heap.size, 6, none⟩ = some (.slice o.Z o.nz o.cz) ∧ u.cell? ⟨w.heap.size, 7, none⟩ = some (.slice (some ⟨b, f, none⟩) o.np o.cp) ∧ u.cell? ⟨w.heap.size, 8, none⟩ = some (.int .i64 o.key) ∧ u.cell? ⟨wr.heap.size, 0, none⟩ = some (.int .i64 p.ix) ∧ u.cell? ⟨wr.heap.size, 1, none⟩ = some (.int .i64 p.v) ∧ u.cell? ⟨wr.heap.size, 2, none⟩ = some (.slice p.A p.na p.ca) ∧ u.cell? ⟨wr.heap.size, 3, none⟩ = some (.int .i64 p.C) ∧ u.cell? ⟨wr.heap.size, 4, none⟩ = some (.slice p.Z p.nz p.cz) ∧ Hid (Below w0.heap.size w0 u ∧ Below wr.heap.size wr u ∧ Below w2.heap.size w2 u)) from fun u h1 => by
          obtain ⟨y0, y1, y2, y3, y4, y5, y6, y7, y8⟩ := kC.out _ (Lib.hid h1.out.1)
          obtain ⟨kS_0, kS_1, kS_2, kS_3, kS_4⟩ := kS.out _ (Lib.hid h1.out.2.2)
          exact ⟨y0, y1, y2, y3, y4, y5, y6, y7, y8, kS_0, kS_1, kS_2, kS_3, kS_4, h1⟩)
        have HBA3 : Hid (Below w0.heap.size w0 w2 ∧ Below wr.heap.size wr w2 ∧ Below w2.heap.size w2 w2) := Lib.hid ⟨HB_2.out, HB_wr_2.out, HB_w2_2.out⟩
        refine wp_region_T (S := fun w' => w'.cell? ⟨w.heap.size, 0, none⟩ = some (.int .i64 o.num) ∧ w'.cell? ⟨w.heap.size, 1, none⟩ = some (.string o.rs) ∧ w'.cell? ⟨w.heap.size, 2, none⟩ = some (.int .i64 o.E1) ∧ w'.cell? ⟨w.heap.size, 3, none⟩ = some (.int .i64 o.E2) ∧ w'.cell? ⟨w.heap.size, 4, none⟩ = some (.slice o.A o.na o.ca) ∧ w'.cell? ⟨w.heap.size, 5, none⟩ = some (.int .i64 o.C) ∧ w'.cell? ⟨w.heap.size, 6, none⟩ = some (.slice o.Z o.nz o.cz) ∧ w'.cell? ⟨w.heap.size, 7, none⟩ = some (.slice (some ⟨b, f, none⟩) o.np o.cp) ∧ w'.cell? ⟨w.heap.size, 8, none⟩ = some (.int .i64 o.key) ∧ w'.cell? ⟨wr.heap.size, 0, none⟩ = some (.int .i64 p.ix) ∧ w'.cell? ⟨wr.heap.size, 1, none⟩ = some (.int .i64 p.v) ∧ w'.cell? ⟨wr.heap.size, 2, none⟩ = some (.slice p.A p.na p.ca) ∧ w'.cell? ⟨wr.heap.size, 3, none⟩ = some (.int .i64 p.C) ∧ w'.cell? ⟨wr.heap.size, 4, none⟩ = some (.slice p.Z p.nz p.cz) ∧ Hid (Below w0.heap.size w0 w' ∧ Below wr.heap.size wr w' ∧ Below w2.heap.size w2 w')) (E := []) (by kernel_rfl) (hS3.out _ (hBx3.out _ _ HBA3 ((Below.refl _ _).drew))) (fun hHeld => ?_)
        refine tkV 0 ?_
        try simp only [qq1, qq2, qq3, Act.put, qq4, qq5, qq6]
        refine tkV 1 ?_
        try simp only [qq1, qq2, qq3, Act.put, qq4, qq5, qq6]
        refine tkV 2 ?_
        try simp only [qq1, qq2, qq3, Act.put, qq4, qq5, qq6]
        refine tkV 3 ?_
        try simp only [qq1, qq2, qq3, Act.put, qq4, qq5, qq6]
        refine tkU 4 ?_
        try simp only [qq1, qq2, qq3, Act.put, qq4, qq5, qq6]
        refine tkU 5 ?_
        try simp only [qq1, qq2, qq3, Act.put, qq4, qq5, qq6]
        refine tkU 6 ?_
        try simp only [qq1, qq2, qq3, Act.put, qq4, qq5, qq6]
        refine tkV 7 ?_
        try simp only [qq1, qq2, qq3, Act.put, qq4, qq5, qq6]
        refine tkV 8 ?_
        try simp only [qq1, qq2, qq3, Act.put, qq4, qq5, qq6]
        refine tkU 9 ?_
        try simp only [qq1, qq2, qq3, Act.put, qq4, qq5, qq6]
        refine tkU 10 ?_
        try simp only [qq1, qq2, qq3, Act.put, qq4, qq5, qq6]
        refine tkU 11 ?_
        try simp only [qq1, qq2, qq3, Act.put, qq4, qq5, qq6]
        refine tkU 12 ?_
        try simp only [qq1, qq2, qq3, Act.put, qq4, qq5, qq6]
        refine tkU 13 ?_
        try simp only [qq1, qq2, qq3, Act.put, qq4, qq5, qq6]
        refine tkU 14 ?_
        try simp only [qq1, qq2, qq3, Act.put, qq4, qq5, qq6]
        refine tkU 15 ?_
        try simp only [qq1, qq2, qq3, Act.put, qq4, qq5, qq6]
        refine tkV 16 ?_
        try simp only [qq1, qq2, qq3, Act.put, qq4, qq5, qq6]
        refine tkV 17 ?_
        try simp only [qq1, qq2, qq3, Act.put, qq4, qq5, qq6]
        refine tkU 18 ?_
        try simp only [qq1, qq2, qq3, Act.put, qq4, qq5, qq6]
        refine tkU 19 ?_
        try simp only [qq1, qq2, qq3, Act.put, qq4, qq5, qq6]
        refine tkU 20 ?_
        try simp only [qq1, qq2, qq3, Act.put, qq4, qq5, qq6]
        refine tkU 21 ?_
        try simp only [qq1, qq2, qq3, Act.put, qq4, qq5, qq6]
        refine tkV 22 ?_
        try simp only [qq1, qq2, qq3, Act.put, qq4, qq5, qq6]
        refine wpT_done (by kernel_rfl) ?_ _
        obtain ⟨x0, x1, x2, x3, x4, x5, x6, x7, x8, x9, x10, x11, x12, x13, FB3⟩ := hHeld
        clear x0 x1 x2 x3 x4 x5 x6 x7 x8 x9 x10 x11 x12 x13 hS3 hBx3 HBA3
        have HL3_w0 := Lib.hid FB3.out.1
        have HL3_wr := Lib.hid FB3.out.2.1
        have HL3_w2 := Lib.hid FB3.out.2.2
        obtain ⟨zc0, zc1, zc2, zc3, zc4, zc5, zc6, zc7, zc8⟩ := kC.out _ HL3_w0
        obtain ⟨kS_0, kS_1, kS_2, kS_3, kS_4⟩ := kS.out _ HL3_w2
        have hbF := below_ext HBw.out HL3_w0.out
        go_wp2
        go_ret
        exact ⟨(by rw [HF.out]; try rfl), hbF⟩
      · skip
        by_cases hx1 : 8 < p.ix
        · skip
          have dx0 : decide (p.ix < 1) = false := by simp; omega
          have dx1 : decide ((8 : Int) < p.ix) = true := by simp; omega
          have HF : Hid (ptsB o.ps o.np = false) := Lib.hid (ptsB_hit (k := k) (by rw [prtB, HPP.out]; simp; omega) hlt)
          clear HR
          have HB_wr_1 : Hid (Below wr.heap.size wr wr) := Lib.hid (Below.refl _ _)
          have kP := Lib.hid (show ∀ u : World, Hid (Below wr.heap.size wr u) → Hid (Pa u (some ⟨b, f, none⟩) o.ps) from fun u h => Lib.hid (HPA.out.below h.out))
          obtain ⟨zc0, zc1, zc2, zc3, zc4, zc5, zc6, zc7, zc8⟩ := kC.out _ HBr
          rw [HLA.out] at zc7
          have kC := Lib.hid (show ∀ u : World, Hid (Below w0.heap.size w0 u) → u.cell? ⟨w.heap.size, 0, none⟩ = some (.int .i64 o.num) ∧ u.cell? ⟨w.heap.size, 1, none⟩ = some (.string o.rs) ∧ u.cell? ⟨w.heap.size, 2, none⟩ = some (.int .i64 o.E1) ∧ u.cell? ⟨w.heap.size, 3, none⟩ = some (.int .i64 o.E2) ∧ u.cell? ⟨w.heap.size, 4, none⟩ = some (.slice o.A o.na o.ca) ∧ u.cell? ⟨w.heap.size, 5, none⟩ = some (.int .i64 o.C) ∧ u.cell? ⟨w.heap.size, 6, none⟩ = some (.slice o.Z o.nz o.cz) ∧ u.cell? ⟨w.heap.size, 7, none⟩ = some (.slice (some ⟨b, f, none⟩) o.np o.cp) ∧ u.cell? ⟨w.heap.size, 8, none⟩ = some (.int .i64 o.key) from fun u h => by
            have hk := kC.out u h
            rw [HLA.out] at hk
            exact hk)
          have hq := below_box0 wr (ptO p)
          have HB_2 := Lib.hid (below_ext HBr.out hq)
          have HB_wr_2 := Lib.hid (below_ext HB_wr_1.out hq)
          have hc : (wr.alloc (ptO p)).cell? ⟨wr.heap.size, 0, none⟩ = some (.int .i64 p.ix) ∧ (wr.alloc (ptO p)).cell? ⟨wr.heap.size, 1, none⟩ = some (.int .i64 p.v) ∧ (wr.alloc (ptO p)).cell? ⟨wr.heap.size, 2, none⟩ = some (.slice p.A p.na p.ca) ∧ (wr.alloc (ptO p)).cell? ⟨wr.heap.size, 3, none⟩ = some (.int .i64 p.C) ∧ (wr.alloc (ptO p)).cell? ⟨wr.heap.size, 4, none⟩ = some (.slice p.Z p.nz p.cz) := ⟨allocs_cell rfl (by rfl), allocs_cell rfl (by rfl), allocs_cell rfl (by rfl), allocs_cell rfl (by rfl), allocs_cell rfl (by rfl)⟩
          have HC2 := Lib.hid hc
          clear hq
          obtain ⟨zc0x, zc1x, zc2x, zc3x, zc4x, zc5x, zc6x, zc7x, zc8x⟩ := kC.out _ HB_2
          obtain ⟨zq0, zq1, zq2, zq3, zq4⟩ := hc
          go_upto_region 7 with (fail)
          obtain ⟨w2, hw⟩ : ∃ x, (wr.alloc (ptO p)) = x := ⟨_, rfl⟩
          rw [hw] at HC2 HB_2 HB_wr_2 ⊢
          have HSN2 : Hid (w2.heap.size = wr.heap.size + 1) := Lib.hid (by rw [← hw]; simp)
          clear zc0 zc1 zc2 zc3 zc4 zc5 zc6 zc7 zc8 zc0x zc1x zc2x zc3x zc4x zc5x zc6x zc7x zc8x zq0 zq1 zq2 zq3 zq4
          clear hw
          have HB_w2_2 : Hid (Below w2.heap.size w2 w2) := Lib.hid (Below.refl _ _)
          have kS := Lib.hid (show ∀ u : World, Hid (Below w2.heap.size w2 u) → u.cell? ⟨wr.heap.size, 0, none⟩ = some (.int .i64 p.ix) ∧ u.cell? ⟨wr.heap.size, 1, none⟩ = some (.int .i64 p.v) ∧ u.cell? ⟨wr.heap.size, 2, none⟩ = some (.slice p.A p.na p.ca) ∧ u.cell? ⟨wr.heap.size, 3, none⟩ = some (.int .i64 p.C) ∧ u.cell? ⟨wr.heap.size, 4, none⟩ = some (.slice p.Z p.nz p.cz) from fun u h => ⟨cell_below HC2.out.1 h.out, cell_below HC2.out.2.1 h.out, cell_below HC2.out.2.2.1 h.out, cell_below HC2.out.2.2.2.1 h.out, cell_below HC2.out.2.2.2.2 h.out⟩)
          obtain ⟨zc0, zc1, zc2, zc3, zc4, zc5, zc6, zc7, zc8⟩ := kC.out _ HB_2
          obtain ⟨kS_0, kS_1, kS_2, kS_3, kS_4⟩ := kS.out _ HB_w2_2
          clear j0 j1 j2 j3 j4
          clear zc0 zc1 zc2 zc3 zc4 zc5 zc6 zc7 zc8 kS_0 kS_1 kS_2 kS_3 kS_4
          obtain ⟨zc0, zc1, zc2, zc3, zc4, zc5, zc6, zc7, zc8⟩ := kC.out _ HB_2
          obtain ⟨kS_0, kS_1, kS_2, kS_3, kS_4⟩ := kS.out _ HB_w2_2
          clear zc0 zc1 zc2 zc3 zc4 zc5 zc6 zc7 zc8 kS_0 kS_1 kS_2 kS_3 kS_4
          have hBx3 := Lib.hid (show ∀ u u2 : World, Hid (Below w0.heap.size w0 u ∧ Below wr.heap.size wr u ∧ Below w2.heap.size w2 u) → Below u.heap.size u u2 → Hid (Below w0.heap.size w0 u2 ∧ Below wr.heap.size wr u2 ∧ Below w2.heap.size w2 u2) from fun u u2 h1 h2 => Lib.hid ⟨(below_ext h1.out.1 h2), (below_ext h1.out.2.1 h2), (below_ext h1.out.2.2 h2)⟩)
          have hS3 := Lib.hid (show ∀ u : World, Hid (Below w0.heap.size w0 u ∧ Below wr.heap.size wr u ∧ Below w2.heap.size w2 u) → (u.cell? ⟨w.heap.size, 0, none⟩ = some (.int .i64 o.num) ∧ u.cell? ⟨w.heap.size, 1, none⟩ = some (.string o.rs) ∧ u.cell? ⟨w.heap.size, 2, none⟩ = some (.int .i64 o.E1) ∧ u.cell? ⟨w.heap.size, 3, none⟩ = some (.int .i64 o.E2) ∧ u.cell? ⟨w.heap.size, 4, none⟩ = some (.slice o.A o.na o.ca) ∧ u.cell? ⟨w.heap.size, 5, none⟩ = some (.int .i64 o.C) ∧ u.cell? ⟨w.heap.size, 6, none⟩ = some (.slice o.Z o.nz o.cz) ∧ u.cell? ⟨w.heap.size, 7, none⟩ = some (.slice (some ⟨b, f, none⟩) o.np o.cp) ∧ u.cell? ⟨w.heap.size, 8, none⟩ = some (.int .i64 o.key) ∧ u.cell? ⟨wr.heap.size, 0, none⟩ = some (.int .i64 p.ix) ∧ u.cell? ⟨wr.heap.size, 1, none⟩ = some (.int .i64 p.v) ∧ u.cell? ⟨wr.heap.size, 2, none⟩ = some (.slice p.A p.na p.ca) ∧ u.cell? ⟨wr.heap.size, 3, none⟩ = some (.int .i64 p.C) ∧ u.cell? ⟨wr.heap.size, 4, none⟩ = some (.slice p.Z p.nz p.cz) ∧ Hid (Below w0.heap.size w0 u ∧ Below wr.heap.size wr u ∧ Below w2.heap.size w2 u)) from fun u h1 => by
            obtain ⟨y0, y1, y2, y3, y4, y5, y6, y7, y8⟩ := kC.out _ (Lib.hid h1.out.1)
            obtain ⟨kS_0, kS_1, kS_2, kS_3, kS_4⟩ := kS.out _ (Lib.hid h1.out.2.2)
            exact ⟨y0, y1, y2, y3, y4, y5, y6, y7, y8, kS_0, kS_1, kS_2, kS_3, kS_4, h1⟩)
          have HBA3 : Hid (Below w0.heap.size w0 w2 ∧ Below wr.heap.size wr w2 ∧ Below w2.heap.size w2 w2) := Lib.hid ⟨HB_2.out, HB_wr_2.out, HB_w2_2.out⟩
          refine wp_region_T (S := fun w' => w'.cell? ⟨w.heap.size, 0, none⟩ = some (.int .i64 o.num) ∧ w'.cell? ⟨w.heap.size, 1, none⟩ = some (.string o.rs) ∧ w'.cell? ⟨w.heap.size, 2, none⟩ = some (.int .i64 o.E1) ∧ w'.cell? ⟨w.heap.size, 3, none⟩ = some (.int .i64 o.E2) ∧ w'.cell? ⟨w.heap.size, 4, none⟩ = some (.slice o.A o.na o.ca) ∧ w'.cell? ⟨w.heap.size, 5, none⟩ = some (.int .i64 o.C) ∧ w'.cell? ⟨w.heap.size, 6, none⟩ = some (.slice o.Z o.nz o.cz) ∧ w'.cell? ⟨w.heap.size, 7, none⟩ = some (.slice (some ⟨b, f, none⟩) o.np o.cp) ∧ w'.cell? ⟨w.heap.size, 8, none⟩ = some (.int .i64 o.key) ∧ w'.cell? ⟨wr.heap.size, 0, none⟩ = some (.int .i64 p.ix) ∧ w'.cell? ⟨wr.heap.size, 1, none⟩ = some (.int .i64 p.v) ∧ w'.cell? ⟨wr.heap.size, 2, none⟩ = some (.slice p.A p.na p.ca) ∧ w'.cell? ⟨wr.heap.size, 3, none⟩ = some (.int .i64 p.C) ∧ w'.cell? ⟨wr.heap.size, 4, none⟩ = some (.slice p.Z p.nz p.cz) ∧ Hid (Below w0.heap.size w0 w' ∧ Below wr.heap.size wr w' ∧ Below w2.heap.size w2 w')) (E := []) (by kernel_rfl) (hS3.out _ (hBx3.out _ _ HBA3 ((Below.refl _ _).drew))) (fun hHeld => ?_)
          refine tkV 0 ?_
          try simp only [qq1, qq2, qq3, Act.put, qq4, qq5, qq6]
          refine tkV 1 ?_
          try simp only [qq1, qq2, qq3, Act.put, qq4, qq5, qq6]
          refine tkV 2 ?_
          try simp only [qq1, qq2, qq3, Act.put, qq4, qq5, qq6]
          refine tkV 3 ?_
          try simp only [qq1, qq2, qq3, Act.put, qq4, qq5, qq6]
          refine tkV 4 ?_
          try simp only [qq1, qq2, qq3, Act.put, qq4, qq5, qq6]
          refine tkV 5 ?_
          try simp only [qq1, qq2, qq3, Act.put, qq4, qq5, qq6]
          refine tkV 6 ?_
          try simp only [qq1, qq2, qq3, Act.put, qq4, qq5, qq6]
          refine tkV 7 ?_
          try simp only [qq1, qq2, qq3, Act.put, qq4, qq5, qq6]
          refine tkV 8 ?_
          try simp only [qq1, qq2, qq3, Act.put, qq4, qq5, qq6]
          refine tkU 9 ?_
          try simp only [qq1, qq2, qq3, Act.put, qq4, qq5, qq6]
          refine tkU 10 ?_
          try simp only [qq1, qq2, qq3, Act.put, qq4, qq5, qq6]
          refine tkU 11 ?_
          try simp only [qq1, qq2, qq3, Act.put, qq4, qq5, qq6]
          refine tkU 12 ?_
          try simp only [qq1, qq2, qq3, Act.put, qq4, qq5, qq6]
          refine tkU 13 ?_
          try simp only [qq1, qq2, qq3, Act.put, qq4, qq5, qq6]
          refine tkU 14 ?_
          try simp only [qq1, qq2, qq3, Act.put, qq4, qq5, qq6]
          refine tkU 15 ?_
          try simp only [qq1, qq2, qq3, Act.put, qq4, qq5, qq6]
          refine tkV 16 ?_
          try simp only [qq1, qq2, qq3, Act.put, qq4, qq5, qq6]
          refine tkV 17 ?_
          try simp only [qq1, qq2, qq3, Act.put, qq4, qq5, qq6]
          refine tkU 18 ?_
          try simp only [qq1, qq2, qq3, Act.put, qq4, qq5, qq6]
          refine tkU 19 ?_
          try simp only [qq1, qq2, qq3, Act.put, qq4, qq5, qq6]
          refine tkU 20 ?_
          try simp only [qq1, qq2, qq3, Act.put, qq4, qq5, qq6]
          refine tkU 21 ?_
          try simp only [qq1, qq2, qq3, Act.put, qq4, qq5, qq6]
          refine tkV 22 ?_
          try simp only [qq1, qq2, qq3, Act.put, qq4, qq5, qq6]
          refine wpT_done (by kernel_rfl) ?_ _
          obtain ⟨x0, x1, x2, x3, x4, x5, x6, x7, x8, x9, x10, x11, x12, x13, FB3⟩ := hHeld
          clear x0 x1 x2 x3 x4 x5 x6 x7 x8 x9 x10 x11 x12 x13 hS3 hBx3 HBA3
          have HL3_w0 := Lib.hid FB3.out.1
          have HL3_wr := Lib.hid FB3.out.2.1
          have HL3_w2 := Lib.hid FB3.out.2.2
          obtain ⟨zc0, zc1, zc2, zc3, zc4, zc5, zc6, zc7, zc8⟩ := kC.out _ HL3_w0
          obtain ⟨kS_0, kS_1, kS_2, kS_3, kS_4⟩ := kS.out _ HL3_w2
          have hbF := below_ext HBw.out HL3_w0.out
          go_wp2
          go_ret
          exact ⟨(by rw [HF.out]; try rfl), hbF⟩
        · skip
          cases hfr : frB o.ps p.ix k with
          | true =>
            cases hss : shB p.na p.nz with
            | true =>
              have dx0 : decide (p.ix < 1) = false := by simp; omega
              have dx1 : decide ((8 : Int) < p.ix) = false := by simp; omega
              have HS : Hid (ptsB o.ps (k + 1) = true) := Lib.hid (by rw [ptsB, HR.out, prtB, HPP.out]; simp [hfr, hss]; omega)
              have HFR := Lib.hid hfr
              have HSS := Lib.hid hss
              clear hfr hss HR
              have HB_wr_1 : Hid (Below wr.heap.size wr wr) := Lib.hid (Below.refl _ _)
              have kP := Lib.hid (show ∀ u : World, Hid (Below wr.heap.size wr u) → Hid (Pa u (some ⟨b, f, none⟩) o.ps) from fun u h => Lib.hid (HPA.out.below h.out))
              obtain ⟨zc0, zc1, zc2, zc3, zc4, zc5, zc6, zc7, zc8⟩ := kC.out _ HBr
              rw [HLA.out] at zc7
              have kC := Lib.hid (show ∀ u : World, Hid (Below w0.heap.size w0 u) → u.cell? ⟨w.heap.size, 0, none⟩ = some (.int .i64 o.num) ∧ u.cell? ⟨w.heap.size, 1, none⟩ = some (.string o.rs) ∧ u.cell? ⟨w.heap.size, 2, none⟩ = some (.int .i64 o.E1) ∧ u.cell? ⟨w.heap.size, 3, none⟩ = some (.int .i64 o.E2) ∧ u.cell? ⟨w.heap.size, 4, none⟩ = some (.slice o.A o.na o.ca) ∧ u.cell? ⟨w.heap.size, 5, none⟩ = some (.int .i64 o.C) ∧ u.cell? ⟨w.heap.size, 6, none⟩ = some (.slice o.Z o.nz o.cz) ∧ u.cell? ⟨w.heap.size, 7, none⟩ = some (.slice (some ⟨b, f, none⟩) o.np o.cp) ∧ u.cell? ⟨w.heap.size, 8, none⟩ = some (.int .i64 o.key) from fun u h => by
                have hk := kC.out u h
                rw [HLA.out] at hk
                exact hk)
              have hq := below_box0 wr (ptO p)
              have HB_2 := Lib.hid (below_ext HBr.out hq)
              have HB_wr_2 := Lib.hid (below_ext HB_wr_1.out hq)
              have hc : (wr.alloc (ptO p)).cell? ⟨wr.heap.size, 0, none⟩ = some (.int .i64 p.ix) ∧ (wr.alloc (ptO p)).cell? ⟨wr.heap.size, 1, none⟩ = some (.int .i64 p.v) ∧ (wr.alloc (ptO p)).cell? ⟨wr.heap.size, 2, none⟩ = some (.slice p.A p.na p.ca) ∧ (wr.alloc (ptO p)).cell? ⟨wr.heap.size, 3, none⟩ = some (.int .i64 p.C) ∧ (wr.alloc (ptO p)).cell? ⟨wr.heap.size, 4, none⟩ = some (.slice p.Z p.nz p.cz) := ⟨allocs_cell rfl (by rfl), allocs_cell rfl (by rfl), allocs_cell rfl (by rfl), allocs_cell rfl (by rfl), allocs_cell rfl (by rfl)⟩
              have HC2 := Lib.hid hc
              clear hq
              obtain ⟨zc0x, zc1x, zc2x, zc3x, zc4x, zc5x, zc6x, zc7x, zc8x⟩ := kC.out _ HB_2
              obtain ⟨zq0, zq1, zq2, zq3, zq4⟩ := hc
              go_upto_region 7 with (fail)
              obtain ⟨w2, hw⟩ : ∃ x, (wr.alloc (ptO p)) = x := ⟨_, rfl⟩
              rw [hw] at HC2 HB_2 HB_wr_2 ⊢
              have HSN2 : Hid (w2.heap.size = wr.heap.size + 1) := Lib.hid (by rw [← hw]; simp)
              clear zc0 zc1 zc2 zc3 zc4 zc5 zc6 zc7 zc8 zc0x zc1x zc2x zc3x zc4x zc5x zc6x zc7x zc8x zq0 zq1 zq2 zq3 zq4
              clear hw
              have HB_w2_2 : Hid (Below w2.heap.size w2 w2) := Lib.hid (Below.refl _ _)
              have kS := Lib.hid (show ∀ u : World, Hid (Below w2.heap.size w2 u) → u.cell? ⟨wr.heap.size, 0, none⟩ = some (.int .i64 p.ix) ∧ u.cell? ⟨wr.heap.size, 1, none⟩ = some (.int .i64 p.v) ∧ u.cell? ⟨wr.heap.size, 2, none⟩ = some (.slice p.A p.na p.ca) ∧ u.cell? ⟨wr.heap.size, 3, none⟩ = some (.int .i64 p.C) ∧ u.cell? ⟨wr.heap.size, 4, none⟩ = some (.slice p.Z p.nz p.cz) from fun u h => ⟨cell_below HC2.out.1 h.out, cell_below HC2.out.2.1 h.out, cell_below HC2.out.2.2.1 h.out, cell_below HC2.out.2.2.2.1 h.out, cell_below HC2.out.2.2.2.2 h.out⟩)
              obtain ⟨zc0, zc1, zc2, zc3, zc4, zc5, zc6, zc7, zc8⟩ := kC.out _ HB_2
              obtain ⟨kS_0, kS_1, kS_2, kS_3, kS_4⟩ := kS.out _ HB_w2_2
              clear j0 j1 j2 j3 j4
              clear zc0 zc1 zc2 zc3 zc4 zc5 zc6 zc7 zc8 kS_0 kS_1 kS_2 kS_3 kS_4
              obtain ⟨zc0, zc1, zc2, zc3, zc4, zc5, zc6, zc7, zc8⟩ := kC.out _ HB_2
              obtain ⟨kS_0, kS_1, kS_2, kS_3, kS_4⟩ := kS.out _ HB_w2_2
              clear zc0 zc1 zc2 zc3 zc4 zc5 zc6 zc7 zc8 kS_0 kS_1 kS_2 kS_3 kS_4
              have hBx3 := Lib.hid (show ∀ u u2 : World, Hid (Below w0.heap.size w0 u ∧ Below wr.heap.size wr u ∧ Below w2.heap.size w2 u) → Below u.heap.size u u2 → Hid (Below w0.heap.size w0 u2 ∧ Below wr.heap.size wr u2 ∧ Below w2.heap.size w2 u2) from fun u u2 h1 h2 => Lib.hid ⟨(below_ext h1.out.1 h2), (below_ext h1.out.2.1 h2), (below_ext h1.out.2.2 h2)⟩)
              have hS3 := Lib.hid (show ∀ u : World, Hid (Below w0.heap.size w0 u ∧ Below wr.heap.size wr u ∧ Below w2.heap.size w2 u) → (u.cell? ⟨w.heap.size, 0, none⟩ = some (.int .i64 o.num) ∧ u.cell? ⟨w.heap.size, 1, none⟩ = some (.string o.rs) ∧ u.cell? ⟨w.heap.size, 2, none⟩ = some (.int .i64 o.E1) ∧ u.cell? ⟨w.heap.size, 3, none⟩ = some (.int .i64 o.E2) ∧ u.cell? ⟨w.heap.size, 4, none⟩ = some (.slice o.A o.na o.ca) ∧ u.cell? ⟨w.heap.size, 5, none⟩ = some (.int .i64 o.C) ∧ u.cell? ⟨w.heap.size, 6, none⟩ = some (.slice o.Z o.nz o.cz) ∧ u.cell? ⟨w.heap.size, 7, none⟩ = some (.slice (some ⟨b, f, none⟩) o.np o.cp) ∧ u.cell? ⟨w.heap.size, 8, none⟩ = some (.int .i64 o.key) ∧ u.cell? ⟨wr.heap.size, 0, none⟩ = some (.int .i64 p.ix) ∧ u.cell? ⟨wr.heap.size, 1, none⟩ = some (.int .i64 p.v) ∧ u.cell? ⟨wr.heap.size, 2, none⟩ = some (.slice p.A p.na p.ca) ∧ u.cell? ⟨wr.heap.size, 3, none⟩ = some (.int .i64 p.C) ∧ u.cell? ⟨wr.heap.size, 4, none⟩ = some (.slice p.Z p.nz p.cz) ∧ Hid (Below w0.heap.size w0 u ∧ Below wr.heap.size wr u ∧ Below w2.heap.size w2 u)) from fun u h1 => by
                obtain ⟨y0, y1, y2, y3, y4, y5, y6, y7, y8⟩ := kC.out _ (Lib.hid h1.out.1)
                obtain ⟨kS_0, kS_1, kS_2, kS_3, kS_4⟩ := kS.out _ (Lib.hid h1.out.2.2)
                exact ⟨y0, y1, y2, y3, y4, y5, y6, y7, y8, kS_0, kS_1, kS_2, kS_3, kS_4, h1⟩)
              have HBA3 : Hid (Below w0.heap.size w0 w2 ∧ Below wr.heap.size wr w2 ∧ Below w2.heap.size w2 w2) := Lib.hid ⟨HB_2.out, HB_wr_2.out, HB_w2_2.out⟩
              refine wp_region_T (S := fun w' => w'.cell? ⟨w.heap.size, 0, none⟩ = some (.int .i64 o.num) ∧ w'.cell? ⟨w.heap.size, 1, none⟩ = some (.string o.rs) ∧ w'.cell? ⟨w.heap.size, 2, none⟩ = some (.int .i64 o.E1) ∧ w'.cell? ⟨w.heap.size, 3, none⟩ = some (.int .i64 o.E2) ∧ w'.cell? ⟨w.heap.size, 4, none⟩ = some (.slice o.A o.na o.ca) ∧ w'.cell? ⟨w.heap.size, 5, none⟩ = some (.int .i64 o.C) ∧ w'.cell? ⟨w.heap.size, 6, none⟩ = some (.slice o.Z o.nz o.cz) ∧ w'.cell? ⟨w.heap.size, 7, none⟩ = some (.slice (some ⟨b, f, none⟩) o.np o.cp) ∧ w'.cell? ⟨w.heap.size, 8, none⟩ = some (.int .i64 o.key) ∧ w'.cell? ⟨wr.heap.size, 0, none⟩ = some (.int .i64 p.ix) ∧ w'.cell? ⟨wr.heap.size, 1, none⟩ = some (.int .i64 p.v) ∧ w'.cell? ⟨wr.heap.size, 2, none⟩ = some (.slice p.A p.na p.ca) ∧ w'.cell? ⟨wr.heap.size, 3, none⟩ = some (.int .i64 p.C) ∧ w'.cell? ⟨wr.heap.size, 4, none⟩ = some (.slice p.Z p.nz p.cz) ∧ Hid (Below w0.heap.size w0 w' ∧ Below wr.heap.size wr w' ∧ Below w2.heap.size w2 w')) (E := []) (by kernel_rfl) (hS3.out _ (hBx3.out _ _ HBA3 ((Below.refl _ _).drew))) (fun hHeld => ?_)
              refine tkV 0 ?_
              try simp only [qq1, qq2, qq3, Act.put, qq4, qq5, qq6]
              refine tkV 1 ?_
              try simp only [qq1, qq2, qq3, Act.put, qq4, qq5, qq6]
              refine tkV 2 ?_
              try simp only [qq1, qq2, qq3, Act.put, qq4, qq5, qq6]
              refine tkV 3 ?_
              try simp only [qq1, qq2, qq3, Act.put, qq4, qq5, qq6]
              refine tkV 4 ?_
              try simp only [qq1, qq2, qq3, Act.put, qq4, qq5, qq6]
              refine tkV 5 ?_
              try simp only [qq1, qq2, qq3, Act.put, qq4, qq5, qq6]
              refine tkV 6 ?_
              try simp only [qq1, qq2, qq3, Act.put, qq4, qq5, qq6]
              refine tkV 7 ?_
              try simp only [qq1, qq2, qq3, Act.put, qq4, qq5, qq6]
              refine tkV 8 ?_
              try simp only [qq1, qq2, qq3, Act.put, qq4, qq5, qq6]
              refine tkV 9 ?_
              try simp only [qq1, qq2, qq3, Act.put, qq4, qq5, qq6]
              refine tkV 10 ?_
              try simp only [qq1, qq2, qq3, Act.put, qq4, qq5, qq6]
              refine tkV 11 ?_
              try simp only [qq1, qq2, qq3, Act.put, qq4, qq5, qq6]
              refine tkV 12 ?_
              try simp only [qq1, qq2, qq3, Act.put, qq4, qq5, qq6]
              refine tkV 13 ?_
              try simp only [qq1, qq2, qq3, Act.put, qq4, qq5, qq6]
              refine tkV 14 ?_
              try simp only [qq1, qq2, qq3, Act.put, qq4, qq5, qq6]
              refine wpT_one (i := 15) (by kernel_rfl) rfl (fun K hK => ?_)
              go_simp
              refine (has_any (some ⟨b, f, none⟩) o.ps k o.cp p.ix true HFR HKP (by omega) _ (kP.out _ (Lib.hid (hHeld.2.2.2.2.2.2.2.2.2.2.2.2.2.2).out.2.1))).mono ?_
              rintro e wA ⟨rfl, hbA⟩
              refine hK.out _ _ ?_ (fun hHeld => ?_)
              · exact hS3.out _ (hBx3.out _ _ hHeld.2.2.2.2.2.2.2.2.2.2.2.2.2.2 hbA)
              clear hK K
              try simp only [qq1, qq2, qq3, Act.put, qq4, qq5, qq6]
              refine tkV 16 ?_
              try simp only [qq1, qq2, qq3, Act.put, qq4, qq5, qq6]
              refine tkV 17 ?_
              try simp only [qq1, qq2, qq3, Act.put, qq4, qq5, qq6]
              refine tkV 18 ?_
              try simp only [qq1, qq2, qq3, Act.put, qq4, qq5, qq6]
              refine tkV 19 ?_
              try simp only [qq1, qq2, qq3, Act.put, qq4, qq5, qq6]
              refine wpT_one (i := 20) (by kernel_rfl) rfl (fun K hK => ?_)
              go_simp
              refine (rshort_any p.A p.na p.ca p.C p.Z p.nz p.cz true HSS _).mono ?_
              rintro e wA ⟨rfl, hbA⟩
              refine hK.out _ _ ?_ (fun hHeld => ?_)
              · exact hS3.out _ (hBx3.out _ _ hHeld.2.2.2.2.2.2.2.2.2.2.2.2.2.2 hbA)
              clear hK K
              try simp only [qq1, qq2, qq3, Act.put, qq4, qq5, qq6]
              refine tkV 21 ?_
              try simp only [qq1, qq2, qq3, Act.put, qq4, qq5, qq6]
              refine tkV 22 ?_
              try simp only [qq1, qq2, qq3, Act.put, qq4, qq5, qq6]
              refine wpT_done (by kernel_rfl) ?_ _
              obtain ⟨x0, x1, x2, x3, x4, x5, x6, x7, x8, x9, x10, x11, x12, x13, FB3⟩ := hHeld
              clear x0 x1 x2 x3 x4 x5 x6 x7 x8 x9 x10 x11 x12 x13 hS3 hBx3 HBA3
              have HL3_w0 := Lib.hid FB3.out.1
              have HL3_wr := Lib.hid FB3.out.2.1
              have HL3_w2 := Lib.hid FB3.out.2.2
              obtain ⟨zc0, zc1, zc2, zc3, zc4, zc5, zc6, zc7, zc8⟩ := kC.out _ HL3_w0
              obtain ⟨kS_0, kS_1, kS_2, kS_3, kS_4⟩ := kS.out _ HL3_w2
              go_wp2
              go_roundw
              case rel => exact ⟨k + 1, by omega, by go_num, HS, HL3_w0⟩
              case measure => simp [intOf]; omega
            | false =>
              have dx0 : decide (p.ix < 1) = false := by simp; omega
              have dx1 : decide ((8 : Int) < p.ix) = false := by simp; omega
              have HF : Hid (ptsB o.ps o.np = false) := Lib.hid (ptsB_hit (k := k) (by rw [prtB, HPP.out]; simp [hss]) hlt)
              have HFR := Lib.hid hfr
              have HSS := Lib.hid hss
              clear hfr hss HR
              have HB_wr_1 : Hid (Below wr.heap.size wr wr) := Lib.hid (Below.refl _ _)
              have kP := Lib.hid (show ∀ u : World, Hid (Below wr.heap.size wr u) → Hid (Pa u (some ⟨b, f, none⟩) o.ps) from fun u h => Lib.hid (HPA.out.below h.out))
              obtain ⟨zc0, zc1, zc2, zc3, zc4, zc5, zc6, zc7, zc8⟩ := kC.out _ HBr
              rw [HLA.out] at zc7
              have kC := Lib.hid (show ∀ u : World, Hid (Below w0.heap.size w0 u) → u.cell? ⟨w.heap.size, 0, none⟩ = some (.int .i64 o.num) ∧ u.cell? ⟨w.heap.size, 1, none⟩ = some (.string o.rs) ∧ u.cell? ⟨w.heap.size, 2, none⟩ = some (.int .i64 o.E1) ∧ u.cell? ⟨w.heap.size, 3, none⟩ = some (.int .i64 o.E2) ∧ u.cell? ⟨w.heap.size, 4, none⟩ = some (.slice o.A o.na o.ca) ∧ u.cell? ⟨w.heap.size, 5, none⟩ = some (.int .i64 o.C) ∧ u.cell? ⟨w.heap.size, 6, none⟩ = some (.slice o.Z o.nz o.cz) ∧ u.cell? ⟨w.heap.size, 7, none⟩ = some (.slice (some ⟨b, f, none⟩) o.np o.cp) ∧ u.cell? ⟨w.heap.size, 8, none⟩ = some (.int .i64 o.key) from fun u h => by
                have hk := kC.out u h
                rw [HLA.out] at hk
                exact hk)
              have hq := below_box0 wr (ptO p)
              have HB_2 := Lib.hid (below_ext HBr.out hq)
              have HB_wr_2 := Lib.hid (below_ext HB_wr_1.out hq)
              have hc : (wr.alloc (ptO p)).cell? ⟨wr.heap.size, 0, none⟩ = some (.int .i64 p.ix) ∧ (wr.alloc (ptO p)).cell? ⟨wr.heap.size, 1, none⟩ = some (.int .i64 p.v) ∧ (wr.alloc (ptO p)).cell? ⟨wr.heap.size, 2, none⟩ = some (.slice p.A p.na p.ca) ∧ (wr.alloc (ptO p)).cell? ⟨wr.heap.size, 3, none⟩ = some (.int .i64 p.C) ∧ (wr.alloc (ptO p)).cell? ⟨wr.heap.size, 4, none⟩ = some (.slice p.Z p.nz p.cz) := ⟨allocs_cell rfl (by rfl), allocs_cell rfl (by rfl), allocs_cell rfl (by rfl), allocs_cell rfl (by rfl), allocs_cell rfl (by rfl)⟩
              have HC2 := Lib.hid hc
              clear hq
              obtain ⟨zc0x, zc1x, zc2x, zc3x, zc4x, zc5x, zc6x, zc7x, zc8x⟩ := kC.out _ HB_2
              obtain ⟨zq0, zq1, zq2, zq3, zq4⟩ := hc
              go_upto_region 7 with (fail)
              obtain ⟨w2, hw⟩ : ∃ x, (wr.alloc (ptO p)) = x := ⟨_, rfl⟩
              rw [hw] at HC2 HB_2 HB_wr_2 ⊢
              have HSN2 : Hid (w2.heap.size = wr.heap.size + 1) := Lib.hid (by rw [← hw]; simp)
              clear zc0 zc1 zc2 zc3 zc4 zc5 zc6 zc7 zc8 zc0x zc1x zc2x zc3x zc4x zc5x zc6x zc7x zc8x zq0 zq1 zq2 zq3 zq4
              clear hw
              have HB_w2_2 : Hid (Below w2.heap.size w2 w2) := Lib.hid (Below.refl _ _)
              have kS := Lib.hid (show ∀ u : World, Hid (Below w2.heap.size w2 u) → u.cell? ⟨wr.heap.size, 0, none⟩ = some (.int .i64 p.ix) ∧ u.cell? ⟨wr.heap.size, 1, none⟩ = some (.int .i64 p.v) ∧ u.cell? ⟨wr.heap.size, 2, none⟩ = some (.slice p.A p.na p.ca) ∧ u.cell? ⟨wr.heap.size, 3, none⟩ = some (.int .i64 p.C) ∧ u.cell? ⟨wr.heap.size, 4, none⟩ = some (.slice p.Z p.nz p.cz) from fun u h => ⟨cell_below HC2.out.1 h.out, cell_below HC2.out.2.1 h.out, cell_below HC2.out.2.2.1 h.out, cell_below HC2.out.2.2.2.1 h.out, cell_below HC2.out.2.2.2.2 h.out⟩)
              obtain ⟨zc0, zc1, zc2, zc3, zc4, zc5, zc6, zc7, zc8⟩ := kC.out _ HB_2
              obtain ⟨kS_0, kS_1, kS_2, kS_3, kS_4⟩ := kS.out _ HB_w2_2
              clear j0 j1 j2 j3 j4
              clear zc0 zc1 zc2 zc3 zc4 zc5 zc6 zc7 zc8 kS_0 kS_1 kS_2 kS_3 kS_4
              obtain ⟨zc0, zc1, zc2, zc3, zc4, zc5, zc6, zc7, zc8⟩ := kC.out _ HB_2
              obtain ⟨kS_0, kS_1, kS_2, kS_3, kS_4⟩ := kS.out _ HB_w2_2
              clear zc0 zc1 zc2 zc3 zc4 zc5 zc6 zc7 zc8 kS_0 kS_1 kS_2 kS_3 kS_4
              have hBx3 := Lib.hid (show ∀ u u2 : World, Hid (Below w0.heap.size w0 u ∧ Below wr.heap.size wr u ∧ Below w2.heap.size w2 u) → Below u.heap.size u u2 → Hid (Below w0.heap.size w0 u2 ∧ Below wr.heap.size wr u2 ∧ Below w2.heap.size w2 u2) from fun u u2 h1 h2 => Lib.hid ⟨(below_ext h1.out.1 h2), (below_ext h1.out.2.1 h2), (below_ext h1.out.2.2 h2)⟩)
              have hS3 := Lib.hid (show ∀ u : World, Hid (Below w0.heap.size w0 u ∧ Below wr.heap.size wr u ∧ Below w2.heap.size w2 u) → (u.cell? ⟨w.heap.size, 0, none⟩ = some (.int .i64 o.num) ∧ u.cell? ⟨w.heap.size, 1, none⟩ = some (.string o.rs) ∧ u.cell? ⟨w.heap.size, 2, none⟩ = some (.int .i64 o.E1) ∧ u.cell? ⟨w.heap.size, 3, none⟩ = some (.int .i64 o.E2) ∧ u.cell? ⟨w.heap.size, 4, none⟩ = some (.slice o.A o.na o.ca) ∧ u.cell? ⟨w.heap.size, 5, none⟩ = some (.int .i64 o.C) ∧ u.cell? ⟨w.heap.size, 6, none⟩ = some (.slice o.Z o.nz o.cz) ∧ u.cell? ⟨w.heap.size, 7, none⟩ = some (.slice (some ⟨b, f, none⟩) o.np o.cp) ∧ u.cell? ⟨w.heap.size, 8, none⟩ = some (.int .i64 o.key) ∧ u.cell? ⟨wr.heap.size, 0, none⟩ = some (.int .i64 p.ix) ∧ u.cell? ⟨wr.heap.size, 1, none⟩ = some (.int .i64 p.v) ∧ u.cell? ⟨wr.heap.size, 2, none⟩ = some (.slice p.A p.na p.ca) ∧ u.cell? ⟨wr.heap.size, 3, none⟩ = some (.int .i64 p.C) ∧ u.cell? ⟨wr.heap.size, 4, none⟩ = some (.slice p.Z p.nz p.cz) ∧ Hid (Below w0.heap.size w0 u ∧ Below wr.heap.size wr u ∧ Below w2.heap.size w2 u)) from fun u h1 => by
                obtain ⟨y0, y1, y2, y3, y4, y5, y6, y7, y8⟩ := kC.out _ (Lib.hid h1.out.1)
                obtain ⟨kS_0, kS_1, kS_2, kS_3, kS_4⟩ := kS.out _ (Lib.hid h1.out.2.2)
                exact ⟨y0, y1, y2, y3, y4, y5, y6, y7, y8, kS_0, kS_1, kS_2, kS_3, kS_4, h1⟩)
              have HBA3 : Hid (Below w0.heap.size w0 w2 ∧ Below wr.heap.size wr w2 ∧ Below w2.heap.size w2 w2) := Lib.hid ⟨HB_2.out, HB_wr_2.out, HB_w2_2.out⟩
              refine wp_region_T (S := fun w' => w'.cell? ⟨w.heap.size, 0, none⟩ = some (.int .i64 o.num) ∧ w'.cell? ⟨w.heap.size, 1, none⟩ = some (.string o.rs) ∧ w'.cell? ⟨w.heap.size, 2, none⟩ = some (.int .i64 o.E1) ∧ w'.cell? ⟨w.heap.size, 3, none⟩ = some (.int .i64 o.E2) ∧ w'.cell? ⟨w.heap.size, 4, none⟩ = some (.slice o.A o.na o.ca) ∧ w'.cell? ⟨w.heap.size, 5, none⟩ = some (.int .i64 o.C) ∧ w'.cell? ⟨w.heap.size, 6, none⟩ = some (.slice o.Z o.nz o.cz) ∧ w'.cell? ⟨w.heap.size, 7, none⟩ = some (.slice (some ⟨b, f, none⟩) o.np o.cp) ∧ w'.cell? ⟨w.heap.size, 8, none⟩ = some (.int .i64 o.key) ∧ w'.cell? ⟨wr.heap.size, 0, none⟩ = some (.int .i64 p.ix) ∧ w'.cell? ⟨wr.heap.size, 1, none⟩ = some (.int .i64 p.v) ∧ w'.cell? ⟨wr.heap.size, 2, none⟩ = some (.slice p.A p.na p.ca) ∧ w'.cell? ⟨wr.heap.size, 3, none⟩ = some (.int .i64 p.C) ∧ w'.cell? ⟨wr.heap.size, 4, none⟩ = some (.slice p.Z p.nz p.cz) ∧ Hid (Below w0.heap.size w0 w' ∧ Below wr.heap.size wr w' ∧ Below w2.heap.size w2 w')) (E := []) (by kernel_rfl) (hS3.out _ (hBx3.out _ _ HBA3 ((Below.refl _ _).drew))) (fun hHeld => ?_)
              refine tkV 0 ?_
              try simp only [qq1, qq2, qq3, Act.put, qq4, qq5, qq6]
              refine tkV 1 ?_
              try simp only [qq1, qq2, qq3, Act.put, qq4, qq5, qq6]
              refine tkV 2 ?_
              try simp only [qq1, qq2, qq3, Act.put, qq4, qq5, qq6]
              refine tkV 3 ?_
              try simp only [qq1, qq2, qq3, Act.put, qq4, qq5, qq6]
              refine tkV 4 ?_
              try simp only [qq1, qq2, qq3, Act.put, qq4, qq5, qq6]
              refine tkV 5 ?_
              try simp only [qq1, qq2, qq3, Act.put, qq4, qq5, qq6]
              refine tkV 6 ?_
              try simp only [qq1, qq2, qq3, Act.put, qq4, qq5, qq6]
              refine tkV 7 ?_
              try simp only [qq1, qq2, qq3, Act.put, qq4, qq5, qq6]
              refine tkV 8 ?_
              try simp only [qq1, qq2, qq3, Act.put, qq4, qq5, qq6]
              refine tkV 9 ?_
              try simp only [qq1, qq2, qq3, Act.put, qq4, qq5, qq6]
              refine tkV 10 ?_
              try simp only [qq1, qq2, qq3, Act.put, qq4, qq5, qq6]
              refine tkV 11 ?_
              try simp only [qq1, qq2, qq3, Act.put, qq4, qq5, qq6]
              refine tkV 12 ?_
              try simp only [qq1, qq2, qq3, Act.put, qq4, qq5, qq6]
              refine tkV 13 ?_
              try simp only [qq1, qq2, qq3, Act.put, qq4, qq5, qq6]
              refine tkV 14 ?_
              try simp only [qq1, qq2, qq3, Act.put, qq4, qq5, qq6]
              refine wpT_one (i := 15) (by kernel_rfl) rfl (fun K hK => ?_)
              go_simp
              refine (has_any (some ⟨b, f, none⟩) o.ps k o.cp p.ix true HFR HKP (by omega) _ (kP.out _ (Lib.hid (hHeld.2.2.2.2.2.2.2.2.2.2.2.2.2.2).out.2.1))).mono ?_
              rintro e wA ⟨rfl, hbA⟩
              refine hK.out _ _ ?_ (fun hHeld => ?_)
              · exact hS3.out _ (hBx3.out _ _ hHeld.2.2.2.2.2.2.2.2.2.2.2.2.2.2 hbA)
              clear hK K
              try simp only [qq1, qq2, qq3, Act.put, qq4, qq5, qq6]
              refine tkV 16 ?_
              try simp only [qq1, qq2, qq3, Act.put, qq4, qq5, qq6]
              refine tkV 17 ?_
              try simp only [qq1, qq2, qq3, Act.put, qq4, qq5, qq6]
              refine tkV 18 ?_
              try simp only [qq1, qq2, qq3, Act.put, qq4, qq5, qq6]
              refine tkV 19 ?_
              try simp only [qq1, qq2, qq3, Act.put, qq4, qq5, qq6]
              refine wpT_one (i := 20) (by kernel_rfl) rfl (fun K hK => ?_)
              go_simp
              refine (rshort_any p.A p.na p.ca p.C p.Z p.nz p.cz false HSS _).mono ?_
              rintro e wA ⟨rfl, hbA⟩
              refine hK.out _ _ ?_ (fun hHeld => ?_)
              · exact hS3.out _ (hBx3.out _ _ hHeld.2.2.2.2.2.2.2.2.2.2.2.2.2.2 hbA)
              clear hK K
              try simp only [qq1, qq2, qq3, Act.put, qq4, qq5, qq6]
              refine tkV 21 ?_
              try simp only [qq1, qq2, qq3, Act.put, qq4, qq5, qq6]
              refine tkV 22 ?_
              try simp only [qq1, qq2, qq3, Act.put, qq4, qq5, qq6]
              refine wpT_done (by kernel_rfl) ?_ _
              obtain ⟨x0, x1, x2, x3, x4, x5, x6, x7, x8, x9, x10, x11, x12, x13, FB3⟩ := hHeld
              clear x0 x1 x2 x3 x4 x5 x6 x7 x8 x9 x10 x11 x12 x13 hS3 hBx3 HBA3
              have HL3_w0 := Lib.hid FB3.out.1
              have HL3_wr := Lib.hid FB3.out.2.1
              have HL3_w2 := Lib.hid FB3.out.2.2
              obtain ⟨zc0, zc1, zc2, zc3, zc4, zc5, zc6, zc7, zc8⟩ := kC.out _ HL3_w0
              obtain ⟨kS_0, kS_1, kS_2, kS_3, kS_4⟩ := kS.out _ HL3_w2
              have hbF := below_ext HBw.out HL3_w0.out
              go_wp2
              go_ret
              exact ⟨(by rw [HF.out]; try rfl), hbF⟩
          | false =>
            have dx0 : decide (p.ix < 1) = false := by simp; omega
            have dx1 : decide ((8 : Int) < p.ix) = false := by simp; omega
            have HF : Hid (ptsB o.ps o.np = false) := Lib.hid (ptsB_hit (k := k) (by rw [prtB, HPP.out]; simp [hfr]) hlt)
            have HFR := Lib.hid hfr
            clear hfr HR
            have HB_wr_1 : Hid (Below wr.heap.size wr wr) := Lib.hid (Below.refl _ _)
            have kP := Lib.hid (show ∀ u : World, Hid (Below wr.heap.size wr u) → Hid (Pa u (some ⟨b, f, none⟩) o.ps) from fun u h => Lib.hid (HPA.out.below h.out))
            obtain ⟨zc0, zc1, zc2, zc3, zc4, zc5, zc6, zc7, zc8⟩ := kC.out _ HBr
            rw [HLA.out] at zc7
            have kC := Lib.hid (show ∀ u : World, Hid (Below w0.heap.size w0 u) → u.cell? ⟨w.heap.size, 0, none⟩ = some (.int .i64 o.num) ∧ u.cell? ⟨w.heap.size, 1, none⟩ = some (.string o.rs) ∧ u.cell? ⟨w.heap.size, 2, none⟩ = some (.int .i64 o.E1) ∧ u.cell? ⟨w.heap.size, 3, none⟩ = some (.int .i64 o.E2) ∧ u.cell? ⟨w.heap.size, 4, none⟩ = some (.slice o.A o.na o.ca) ∧ u.cell? ⟨w.heap.size, 5, none⟩ = some (.int .i64 o.C) ∧ u.cell? ⟨w.heap.size, 6, none⟩ = some (.slice o.Z o.nz o.cz) ∧ u.cell? ⟨w.heap.size, 7, none⟩ = some (.slice (some ⟨b, f, none⟩) o.np o.cp) ∧ u.cell? ⟨w.heap.size, 8, none⟩ = some (.int .i64 o.key) from fun u h => by
              have hk := kC.out u h
              rw [HLA.out] at hk
              exact hk)
            have hq := below_box0 wr (ptO p)
            have HB_2 := Lib.hid (below_ext HBr.out hq)
            have HB_wr_2 := Lib.hid (below_ext HB_wr_1.out hq)
            have hc : (wr.alloc (ptO p)).cell? ⟨wr.heap.size, 0, none⟩ = some (.int .i64 p.ix) ∧ (wr.alloc (ptO p)).cell? ⟨wr.heap.size, 1, none⟩ = some (.int .i64 p.v) ∧ (wr.alloc (ptO p)).cell? ⟨wr.heap.size, 2, none⟩ = some (.slice p.A p.na p.ca) ∧ (wr.alloc (ptO p)).cell? ⟨wr.heap.size, 3, none⟩ = some (.int .i64 p.C) ∧ (wr.alloc (ptO p)).cell? ⟨wr.heap.size, 4, none⟩ = some (.slice p.Z p.nz p.cz) := ⟨allocs_cell rfl (by rfl), allocs_cell rfl (by rfl), allocs_cell rfl (by rfl), allocs_cell rfl (by rfl), allocs_cell rfl (by rfl)⟩
            have HC2 := Lib.hid hc
            clear hq
            obtain ⟨zc0x, zc1x, zc2x, zc3x, zc4x, zc5x, zc6x, zc7x, zc8x⟩ := kC.out _ HB_2
            obtain ⟨zq0, zq1, zq2, zq3, zq4⟩ := hc
            go_upto_region 7 with (fail)
            obtain ⟨w2, hw⟩ : ∃ x, (wr.alloc (ptO p)) = x := ⟨_, rfl⟩
            rw [hw] at HC2 HB_2 HB_wr_2 ⊢
            have HSN2 : Hid (w2.heap.size = wr.heap.size + 1) := Lib.hid (by rw [← hw]; simp)
            clear zc0 zc1 zc2 zc3 zc4 zc5 zc6 zc7 zc8 zc0x zc1x zc2x zc3x zc4x zc5x zc6x zc7x zc8x zq0 zq1 zq2 zq3 zq4
            clear hw
            have HB_w2_2 : Hid (Below w2.heap.size w2 w2) := Lib.hid (Below.refl _ _)
            have kS := Lib.hid (show ∀ u : World, Hid (Below w2.heap.size w2 u) → u.cell? ⟨wr.heap.size, 0, none⟩ = some (.int .i64 p.ix) ∧ u.cell? ⟨wr.heap.size, 1, none⟩ = some (.int .i64 p.v) ∧ u.cell? ⟨wr.heap.size, 2, none⟩ = some (.slice p.A p.na p.ca) ∧ u.cell? ⟨wr.heap.size, 3, none⟩ = some (.int .i64 p.C) ∧ u.cell? ⟨wr.heap.size, 4, none⟩ = some (.slice p.Z p.nz p.cz) from fun u h => ⟨cell_below HC2.out.1 h.out, cell_below HC2.out.2.1 h.out, cell_below HC2.out.2.2.1 h.out, cell_below HC2.out.2.2.2.1 h.out, cell_below HC2.out.2.2.2.2 h.out⟩)
            obtain ⟨zc0, zc1, zc2, zc3, zc4, zc5, zc6, zc7, zc8⟩ := kC.out _ HB_2
            obtain ⟨kS_0, kS_1, kS_2, kS_3, kS_4⟩ := kS.out _ HB_w2_2
            clear j0 j1 j2 j3 j4
            clear zc0 zc1 zc2 zc3 zc4 zc5 zc6 zc7 zc8 kS_0 kS_1 kS_2 kS_3 kS_4
            obtain ⟨zc0, zc1, zc2, zc3, zc4, zc5, zc6, zc7, zc8⟩ := kC.out _ HB_2
            obtain ⟨kS_0, kS_1, kS_2, kS_3, kS_4⟩ := kS.out _ HB_w2_2
            clear zc0 zc1 zc2 zc3 zc4 zc5 zc6 zc7 zc8 kS_0 kS_1 kS_2 kS_3 kS_4
            have hBx3 := Lib.hid (show ∀ u u2 : World, Hid (Below w0.heap.size w0 u ∧ Below wr.heap.size wr u ∧ Below w2.heap.size w2 u) → Below u.heap.size u u2 → Hid (Below w0.heap.size w0 u2 ∧ Below wr.heap.size wr u2 ∧ Below w2.heap.size w2 u2) from fun u u2 h1 h2 => Lib.hid ⟨(below_ext h1.out.1 h2), (below_ext h1.out.2.1 h2), (below_ext h1.out.2.2 h2)⟩)
            have hS3 := Lib.hid (show ∀ u : World, Hid (Below w0.heap.size w0 u ∧ Below wr.heap.size wr u ∧ Below w2.heap.size w2 u) → (u.cell? ⟨w.heap.size, 0, none⟩ = some (.int .i64 o.num) ∧ u.cell? ⟨w.heap.size, 1, none⟩ = some (.string o.rs) ∧ u.cell? ⟨w.heap.size, 2, none⟩ = some (.int .i64 o.E1) ∧ u.cell? ⟨w.heap.size, 3, none⟩ = some (.int .i64 o.E2) ∧ u.cell? ⟨w.heap.size, 4, none⟩ = some (.slice o.A o.na o.ca) ∧ u.cell? ⟨w.heap.size, 5, none⟩ = some (.int .i64 o.C) ∧ u.cell? ⟨w.heap.size, 6, none⟩ = some (.slice o.Z o.nz o.cz) ∧ u.cell? ⟨w.heap.size, 7, none⟩ = some (.slice (some ⟨b, f, none⟩) o.np o.cp) ∧ u.cell? ⟨w.heap.size, 8, none⟩ = some (.int .i64 o.key) ∧ u.cell? ⟨wr.heap.size, 0, none⟩ = some (.int .i64 p.ix) ∧ u.cell? ⟨wr.heap.size, 1, none⟩ = some (.int .i64 p.v) ∧ u.cell? ⟨wr.heap.size, 2, none⟩ = some (.slice p.A p.na p.ca) ∧ u.cell? ⟨wr.heap.size, 3, none⟩ = some (.int .i64 p.C) ∧ u.cell? ⟨wr.heap.size, 4, none⟩ = some (.slice p.Z p.nz p.cz) ∧ Hid (Below w0.heap.size w0 u ∧ Below wr.heap.size wr u ∧ Below w2.heap.size w2 u)) from fun u h1 => by
              obtain ⟨y0, y1, y2, y3, y4, y5, y6, y7, y8⟩ := kC.out _ (Lib.hid h1.out.1)
              obtain ⟨kS_0, kS_1, kS_2, kS_3, kS_4⟩ := kS.out _ (Lib.hid h1.out.2.2)
              exact ⟨y0, y1, y2, y3, y4, y5, y6, y7, y8, kS_0, kS_1, kS_2, kS_3, kS_4, h1⟩)
            have HBA3 : Hid (Below w0.heap.size w0 w2 ∧ Below wr.heap.size wr w2 ∧ Below w2.heap.size w2 w2) := Lib.hid ⟨HB_2.out, HB_wr_2.out, HB_w2_2.out⟩
            refine wp_region_T (S := fun w' => w'.cell? ⟨w.heap.size, 0, none⟩ = some (.int .i64 o.num) ∧ w'.cell? ⟨w.heap.size, 1, none⟩ = some (.string o.rs) ∧ w'.cell? ⟨w.heap.size, 2, none⟩ = some (.int .i64 o.E1) ∧ w'.cell? ⟨w.heap.size, 3, none⟩ = some (.int .i64 o.E2) ∧ w'.cell? ⟨w.heap.size, 4, none⟩ = some (.slice o.A o.na o.ca) ∧ w'.cell? ⟨w.heap.size, 5, none⟩ = some (.int .i64 o.C) ∧ w'.cell? ⟨w.heap.size, 6, none⟩ = some (.slice o.Z o.nz o.cz) ∧ w'.cell? ⟨w.heap.size, 7, none⟩ = some (.slice (some ⟨b, f, none⟩) o.np o.cp) ∧ w'.cell? ⟨w.heap.size, 8, none⟩ = some (.int .i64 o.key) ∧ w'.cell? ⟨wr.heap.size, 0, none⟩ = some (.int .i64 p.ix) ∧ w'.cell? ⟨wr.heap.size, 1, none⟩ = some (.int .i64 p.v) ∧ w'.cell? ⟨wr.heap.size, 2, none⟩ = some (.slice p.A p.na p.ca) ∧ w'.cell? ⟨wr.heap.size, 3, none⟩ = some (.int .i64 p.C) ∧ w'.cell? ⟨wr.heap.size, 4, none⟩ = some (.slice p.Z p.nz p.cz) ∧ Hid (Below w0.heap.size w0 w' ∧ Below wr.heap.size wr w' ∧ Below w2.heap.size w2 w')) (E := []) (by kernel_rfl) (hS3.out _ (hBx3.out _ _ HBA3 ((Below.refl _ _).drew))) (fun hHeld => ?_)
            refine tkV 0 ?_
            try simp only [qq1, qq2, qq3, Act.put, qq4, qq5, qq6]
            refine tkV 1 ?_
            try simp only [qq1, qq2, qq3, Act.put, qq4, qq5, qq6]
            refine tkV 2 ?_
            try simp only [qq1, qq2, qq3, Act.put, qq4, qq5, qq6]
            refine tkV 3 ?_
            try simp only [qq1, qq2, qq3, Act.put, qq4, qq5, qq6]
            refine tkV 4 ?_
            try simp only [qq1, qq2, qq3, Act.put, qq4, qq5, qq6]
            refine tkV 5 ?_
            try simp only [qq1, qq2, qq3, Act.put, qq4, qq5, qq6]
            refine tkV 6 ?_
            try simp only [qq1, qq2, qq3, Act.put, qq4, qq5, qq6]
            refine tkV 7 ?_
            try simp only [qq1, qq2, qq3, Act.put, qq4, qq5, qq6]
            refine tkV 8 ?_
            try simp only [qq1, qq2, qq3, Act.put, qq4, qq5, qq6]
            refine tkV 9 ?_
            try simp only [qq1, qq2, qq3, Act.put, qq4, qq5, qq6]
            refine tkV 10 ?_
            try simp only [qq1, qq2, qq3, Act.put, qq4, qq5, qq6]
            refine tkV 11 ?_
            try simp only [qq1, qq2, qq3, Act.put, qq4, qq5, qq6]
            refine tkV 12 ?_
            try simp only [qq1, qq2, qq3, Act.put, qq4, qq5, qq6]
            refine tkV 13 ?_
            try simp only [qq1, qq2, qq3, Act.put, qq4, qq5, qq6]
            refine tkV 14 ?_
            try simp only [qq1, qq2, qq3, Act.put, qq4, qq5, qq6]
            refine wpT_one (i := 15) (by kernel_rfl) rfl (fun K hK => ?_)
            go_simp
            refine (has_any (some ⟨b, f, none⟩) o.ps k o.cp p.ix false HFR HKP (by omega) _ (kP.out _ (Lib.hid (hHeld.2.2.2.2.2.2.2.2.2.2.2.2.2.2).out.2.1))).mono ?_
            rintro e wA ⟨rfl, hbA⟩
            refine hK.out _ _ ?_ (fun hHeld => ?_)
            · exact hS3.out _ (hBx3.out _ _ hHeld.2.2.2.2.2.2.2.2.2.2.2.2.2.2 hbA)
            clear hK K
            try simp only [qq1, qq2, qq3, Act.put, qq4, qq5, qq6]
            refine tkV 16 ?_
            try simp only [qq1, qq2, qq3, Act.put, qq4, qq5, qq6]
            refine tkV 17 ?_
            try simp only [qq1, qq2, qq3, Act.put, qq4, qq5, qq6]
            refine tkU 18 ?_
            try simp only [qq1, qq2, qq3, Act.put, qq4, qq5, qq6]
            refine tkU 19 ?_
            try simp only [qq1, qq2, qq3, Act.put, qq4, qq5, qq6]
            refine tkU 20 ?_
            try simp only [qq1, qq2, qq3, Act.put, qq4, qq5, qq6]
            refine tkU 21 ?_
            try simp only [qq1, qq2, qq3, Act.put, qq4, qq5, qq6]
            refine tkV 22 ?_
            try simp only [qq1, qq2, qq3, Act.put, qq4, qq5, qq6]
            refine wpT_done (by kernel_rfl) ?_ _
            obtain ⟨x0, x1, x2, x3, x4, x5, x6, x7, x8, x9, x10, x11, x12, x13, FB3⟩ := hHeld
            clear x0 x1 x2 x3 x4 x5 x6 x7 x8 x9 x10 x11 x12 x13 hS3 hBx3 HBA3
            have HL3_w0 := Lib.hid FB3.out.1
            have HL3_wr := Lib.hid FB3.out.2.1
            have HL3_w2 := Lib.hid FB3.out.2.2
            obtain ⟨zc0, zc1, zc2, zc3, zc4, zc5, zc6, zc7, zc8⟩ := kC.out _ HL3_w0
            obtain ⟨kS_0, kS_1, kS_2, kS_3, kS_4⟩ := kS.out _ HL3_w2
            have hbF := below_ext HBw.out HL3_w0.out
            go_wp2
            go_ret
            exact ⟨(by rw [HF.out]; try rfl), hbF⟩
    · skip
      have hke : k = o.np := by omega
      have HF : Hid (ptsB o.ps o.np = true) := Lib.hid (by rw [← hke]; exact HR.out)
      obtain ⟨zc0, zc1, zc2, zc3, zc4, zc5, zc6, zc7, zc8⟩ := kC.out _ HBr
      have hbF := below_ext HBw.out HBr.out
      rw [hke]
      go_wp2
      go_ret
      exact ⟨(by rw [HF.out]; try rfl), hbF⟩
theorem rorder_any (o : OrdR) (r : Bool) (hr : Hid (ordB o = r)) (w : World) (ho : Hid (OrdOk w o)) :
    Calls Tryd.prog 33 #[orV o] w fun e' w' => e' = .returned (.bool r) ∧ Below w.heap.size w w' := by
  rw [← hr.out]
  unfold ordB
  by_cases h1 : 0 ≤ o.num
  · rw [decide_eq_true h1, Bool.true_and]
    by_cases h2 : o.num < 100
    · rw [decide_eq_true h2, Bool.true_and]
      unfold rsB
      by_cases h5 : 1 ≤ o.rs.size
      · rw [decide_eq_true h5, Bool.true_and]
        by_cases h6 : o.rs.size ≤ 200
        · rw [decide_eq_true h6, Bool.true_and]
          cases hsh : shB o.na o.nz with
          | false => exact rord_4 o h1 h2 h5 h6 (Lib.hid hsh) w
          | true =>
            by_cases h3 : o.np ≤ 8
            · rw [decide_eq_true h3]
              by_cases h4 : 0 ≤ o.key
              · rw [decide_eq_true h4]
                exact rord_7 o h1 h2 h5 h6 (Lib.hid hsh) h3 h4 w ho
              · rw [decide_eq_false h4]
                exact rord_6 o h1 h2 h5 h6 (Lib.hid hsh) h3 h4 w
            · rw [decide_eq_false h3]
              exact rord_5 o h1 h2 h5 h6 (Lib.hid hsh) h3 w
        · rw [decide_eq_false h6]
          exact rord_3b o h1 h2 h5 (by omega) w
      · rw [decide_eq_false h5]
        exact rord_3a o h1 h2 (by omega) w
    · rw [decide_eq_false h2]
      exact rord_2 o h1 (by omega) w
  · rw [decide_eq_false h1]
    exact rord_1 o (by omega) w
end Go.Proofs.YtofkihlpbfcdkaaDoor
