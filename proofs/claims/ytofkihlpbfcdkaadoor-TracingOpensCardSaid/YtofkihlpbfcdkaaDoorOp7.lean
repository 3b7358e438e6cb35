/- Contracts and lemmas: TlI, TmE, TmF, Bef, Bld. -/
import Derived.Shelf.Strings.Builder1
import Derived.Test.YtofkihlpbfcdkaaDoorOp6
namespace Go.Proofs.YtofkihlpbfcdkaaDoor
open Go.RowKit SpM
set_option linter.unusedVariables false
set_option linter.unusedSimpArgs false
set_option maxRecDepth 100000
set_option maxHeartbeats 12800000 in
theorem rpart_any (p : PartR) (hna : Hid (p.al.length = p.na)) (hnz : Hid (p.zs.length = p.nz)) (hb1 : p.na ≤ 1000) (hb2 : p.nz ≤ 1000) (w : World) (hA : Hid (Sl w p.A p.al)) (hZ : Hid (Sl w p.Z p.zs)) :
    Calls Tryd.prog 64 #[ptV p] w (ItOutS (pIt p) w) := by
  obtain ⟨w0, hW⟩ : ∃ W, ((w.alloc (ptO p)).alloc (.cells #[.int .i64 0, .int .i64 0, .slice none 0 0, .slice none 0 0] 67)) = W := ⟨_, rfl⟩
  have HBw : Hid (Below w.heap.size w w0) := Lib.hid (by rw [← hW]; exact below_two (Below.refl _ _))
  have hc : w0.cell? ⟨w.heap.size, 0, none⟩ = some (.int .i64 p.ix) ∧ w0.cell? ⟨w.heap.size, 1, none⟩ = some (.int .i64 p.v) ∧ w0.cell? ⟨w.heap.size, 2, none⟩ = some (.slice p.A p.na p.ca) ∧ w0.cell? ⟨w.heap.size, 3, none⟩ = some (.int .i64 p.C) ∧ w0.cell? ⟨w.heap.size, 4, none⟩ = some (.slice p.Z p.nz p.cz) ∧ Own w0 ⟨w.heap.size + 1, 0, none⟩ (.int .i64 0) ∧ Own w0 ⟨w.heap.size + 1, 1, none⟩ (.int .i64 0) ∧ Own w0 ⟨w.heap.size + 1, 2, none⟩ (.slice none 0 0) ∧ Own w0 ⟨w.heap.size + 1, 3, none⟩ (.slice none 0 0) := by rw [← hW]; exact ⟨cell_below (allocs_cell (by simp) (by rfl)) (below_box0 _ _), cell_below (allocs_cell (by simp) (by rfl)) (below_box0 _ _), cell_below (allocs_cell (by simp) (by rfl)) (below_box0 _ _), cell_below (allocs_cell (by simp) (by rfl)) (below_box0 _ _), cell_below (allocs_cell (by simp) (by rfl)) (below_box0 _ _), allocs_own (by simp) (by rfl), allocs_own (by simp) (by rfl), allocs_own (by simp) (by rfl), allocs_own (by simp) (by rfl)⟩
  have kC := Lib.hid (show ∀ u : World, Hid (Below w0.heap.size w0 u) → u.cell? ⟨w.heap.size, 0, none⟩ = some (.int .i64 p.ix) ∧ u.cell? ⟨w.heap.size, 1, none⟩ = some (.int .i64 p.v) ∧ u.cell? ⟨w.heap.size, 2, none⟩ = some (.slice p.A p.na p.ca) ∧ u.cell? ⟨w.heap.size, 3, none⟩ = some (.int .i64 p.C) ∧ u.cell? ⟨w.heap.size, 4, none⟩ = some (.slice p.Z p.nz p.cz) ∧ Own u ⟨w.heap.size + 1, 0, none⟩ (.int .i64 0) ∧ Own u ⟨w.heap.size + 1, 1, none⟩ (.int .i64 0) ∧ Own u ⟨w.heap.size + 1, 2, none⟩ (.slice none 0 0) ∧ Own u ⟨w.heap.size + 1, 3, none⟩ (.slice none 0 0) from fun u h => ⟨cell_below hc.1 h.out, cell_below hc.2.1 h.out, cell_below hc.2.2.1 h.out, cell_below hc.2.2.2.1 h.out, cell_below hc.2.2.2.2.1 h.out, (hc.2.2.2.2.2.1).below h.out, (hc.2.2.2.2.2.2.1).below h.out, (hc.2.2.2.2.2.2.2.1).below h.out, (hc.2.2.2.2.2.2.2.2).below h.out⟩)
  have kA := Lib.hid (show ∀ u : World, Hid (Below w0.heap.size w0 u) → Hid (Sl u p.A p.al) from fun u h => Lib.hid ((hA.out.below) (below_ext HBw.out h.out)))
  have kZ := Lib.hid (show ∀ u : World, Hid (Below w0.heap.size w0 u) → Hid (Sl u p.Z p.zs) from fun u h => Lib.hid ((hZ.out.below) (below_ext HBw.out h.out)))
  have HB_0 : Hid (Below w0.heap.size w0 w0) := Lib.hid (Below.refl _ _)
  have HW := Lib.hid hW
  have kRB := Lib.hid (show ∀ u : World, Hid (Below w0.heap.size w0 u) → Hid (u.heap[w.heap.size + 1]? = some (.cells #[.int .i64 0, .int .i64 0, .slice none 0 0, .slice none 0 0] 67)) from fun u h => Lib.hid (blk_below (by rw [← hW]; exact heap_alloc2_new _ _ _) h.out))
  clear hW hc hA hZ
  go_enter Tryd.func64, Tryd.ntmps64
  go_wp2_with fail
  rw [HW.out]
  obtain ⟨zc0, zc1, zc2, zc3, zc4, ⟨zc5, zf5⟩, ⟨zc6, zf6⟩, ⟨zc7, zf7⟩, ⟨zc8, zf8⟩⟩ := kC.out _ HB_0
  have HSZ0 : Hid (w0.heap.size = w.heap.size + 2) := Lib.hid (by rw [← HW.out]; simp)
  go_upto_region 1 with (fail)
  clear zc0 zc1 zc2 zc3 zc4 zc5 zf5 zc6 zf6 zc7 zf7 zc8 zf8
  have hBx := Lib.hid (show ∀ u u2 : World, Hid (Below w0.heap.size w0 u) → Below u.heap.size u u2 → Hid (Below w0.heap.size w0 u2) from fun u u2 h1 h2 => Lib.hid (below_ext h1.out h2))
  have hS := Lib.hid (show ∀ u : World, Hid (Below w0.heap.size w0 u) → (u.cell? ⟨w.heap.size, 0, none⟩ = some (.int .i64 p.ix) ∧ u.cell? ⟨w.heap.size, 1, none⟩ = some (.int .i64 p.v) ∧ u.cell? ⟨w.heap.size, 2, none⟩ = some (.slice p.A p.na p.ca) ∧ u.cell? ⟨w.heap.size, 3, none⟩ = some (.int .i64 p.C) ∧ u.cell? ⟨w.heap.size, 4, none⟩ = some (.slice p.Z p.nz p.cz) ∧ Own u ⟨w.heap.size + 1, 0, none⟩ (.int .i64 0) ∧ Own u ⟨w.heap.size + 1, 1, none⟩ (.int .i64 0) ∧ Own u ⟨w.heap.size + 1, 2, none⟩ (.slice none 0 0) ∧ Own u ⟨w.heap.size + 1, 3, none⟩ (.slice none 0 0)) from fun u h1 => by
    obtain ⟨y0, y1, y2, y3, y4, y5, y6, y7, y8⟩ := kC.out _ (Lib.hid h1.out)
    exact ⟨y0, y1, y2, y3, y4, y5, y6, y7, y8⟩)
  have HBA : Hid (Below w0.heap.size w0 w0) := Lib.hid HB_0.out
  have HBD := hBx.out _ _ HBA (Below.refl _ _).drew
  refine wp_region_T (S := fun w' => w'.cell? ⟨w.heap.size, 0, none⟩ = some (.int .i64 p.ix) ∧ w'.cell? ⟨w.heap.size, 1, none⟩ = some (.int .i64 p.v) ∧ w'.cell? ⟨w.heap.size, 2, none⟩ = some (.slice p.A p.na p.ca) ∧ w'.cell? ⟨w.heap.size, 3, none⟩ = some (.int .i64 p.C) ∧ w'.cell? ⟨w.heap.size, 4, none⟩ = some (.slice p.Z p.nz p.cz) ∧ Own w' ⟨w.heap.size + 1, 0, none⟩ (.int .i64 0) ∧ Own w' ⟨w.heap.size + 1, 1, none⟩ (.int .i64 0) ∧ Own w' ⟨w.heap.size + 1, 2, none⟩ (.slice none 0 0) ∧ Own w' ⟨w.heap.size + 1, 3, none⟩ (.slice none 0 0)) (E := [20]) (by kernel_rfl) (hS.out _ HBD) (fun hHeld => ?_)
  obtain ⟨wD, hwD⟩ : ∃ u, w0.drew = u := ⟨_, rfl⟩
  rw [hwD] at HBD hHeld ⊢
  have HSZD : Hid (w0.heap.size ≤ wD.heap.size) := Lib.hid (by rw [← hwD]; exact Nat.le_refl _)
  clear hwD
  refine tkV 0 ?_
  try simp only [qq1, qq2, qq3, Act.put, qq4, qq5, qq6]
  refine tkV 1 ?_
  try simp only [qq1, qq2, qq3, Act.put, qq4, qq5, qq6]
  refine tkV 2 ?_
  try simp only [qq1, qq2, qq3, Act.put, qq4, qq5, qq6]
  refine tkV 3 ?_
  try simp only [qq1, qq2, qq3, Act.put, qq4, qq5, qq6]
  refine tkV 6 ?_
  try simp only [qq1, qq2, qq3, Act.put, qq4, qq5, qq6]
  refine tkV 7 ?_
  try simp only [qq1, qq2, qq3, Act.put, qq4, qq5, qq6]
  refine tkV 8 ?_
  try simp only [qq1, qq2, qq3, Act.put, qq4, qq5, qq6]
  refine tkV 10 ?_
  try simp only [qq1, qq2, qq3, Act.put, qq4, qq5, qq6]
  refine tkV 11 ?_
  try simp only [qq1, qq2, qq3, Act.put, qq4, qq5, qq6]
  refine tkV 12 ?_
  try simp only [qq1, qq2, qq3, Act.put, qq4, qq5, qq6]
  refine tkV 14 ?_
  try simp only [qq1, qq2, qq3, Act.put, qq4, qq5, qq6]
  refine tkV 15 ?_
  try simp only [qq1, qq2, qq3, Act.put, qq4, qq5, qq6]
  refine tkV 16 ?_
  try simp only [qq1, qq2, qq3, Act.put, qq4, qq5, qq6]
  refine wpT_frame (fun T a0 hT ha0 => ?_)
  clear hHeld
  have G4_5_9_13_17_18_19 : ∀ (gE : Nat) (cE : Ic) (cA : Ic) (cZ : Ic) (gL : Nat) (u : World), (Hid (Below w0.heap.size w0 u)) → (Hid (IB2 u gE (p.ix) (p.v))) → (Hid (ItS w0.heap.size u (.lst ([p.ix, p.v].map .int)) cE)) → (Hid (ItS w0.heap.size u (.lst ((p.al).map .int)) cA)) → (Hid (ItS w0.heap.size u (.lst ((p.zs).map .int)) cZ)) → (Hid (u.heap[gL]? = some (.cells #[.int .i64 cE.kind, .int .i64 cE.n, .slice cE.B cE.nb cE.cb, .slice cE.L cE.nl cE.cl, .int .i64 cA.kind, .int .i64 cA.n, .slice cA.B cA.nb cA.cb, .slice cA.L cA.nl cA.cl, .int .i64 1, .int .i64 p.C, .slice none 0 0, .slice none 0 0, .int .i64 cZ.kind, .int .i64 cZ.n, .slice cZ.B cZ.nb cZ.cb, .slice cZ.L cZ.nl cZ.cl] 67))) → (Hid (w0.heap.size ≤ gL)) → T 1 #[true, true, true, true, true, true, true, true, true, true, true, true, true, true, true, true, true, true, true, true, false] (((((((a0.put (some 7) (.slice (some ⟨gE, 0, none⟩) 2 2)).put (some 8) (.agg #[.int .i64 cE.kind, .int .i64 cE.n, .slice cE.B cE.nb cE.cb, .slice cE.L cE.nl cE.cl])).put (some 12) (.agg #[.int .i64 cA.kind, .int .i64 cA.n, .slice cA.B cA.nb cA.cb, .slice cA.L cA.nl cA.cl])).put (some 16) (.agg #[.int .i64 1, .int .i64 (p.C), .slice none 0 0, .slice none 0 0])).put (some 20) (.agg #[.int .i64 cZ.kind, .int .i64 cZ.n, .slice cZ.B cZ.nb cZ.cb, .slice cZ.L cZ.nl cZ.cl])).put (some 21) (.slice (some ⟨gL, 0, none⟩) 4 4)).put (some 22) (.agg #[.int .i64 3, .int .i64 (0), .slice none 0 0, .slice (some ⟨gL, 0, none⟩) 4 4])) u := by
    intro gE cE cA cZ gL u FB FE HE HA HZ FL FLl
    have hHeld := hS.out _ FB
    rw [hT, ha0]
    try simp only [qq1, qq2, qq3, Act.put, qq4, qq5, qq6]
    have HE_w0 := Lib.hid FB.out
    have FNIL := kRB.out _ (Lib.hid FB.out)
    refine wpT_pass (i := 20) (by kernel_rfl) (by simp) rfl (fun K hK => ?_)
    rw [show (if Region.wanted _ _ = true then _ else _ : Prop) = _ from if_pos rfl]
    refine wp_store_row 67 _ _ rfl (w.heap.size + 1) (Ic.cs (Ic.mk 3 0 none 0 0 (some ⟨gL, 0, none⟩) 4 4)) rfl rfl 67 _ FNIL.out (ic_info _) rfl (ic_one _) ?_
    refine hK.out _ _ ?_
    clear hK K
    try simp only [qq1, qq2, qq3, Act.put, qq4, qq5, qq6]
    refine wpT_done (by kernel_rfl) ?_ _
    have hit : ItS w0.heap.size u (pIt p) (Ic.mk 3 0 none 0 0 (some ⟨gL, 0, none⟩) 4 4) := its_blk (fun k9 => match k9 with | 0 => cE | 1 => cA | 2 => icInt p.C | _ => cZ) FL.out FLl.out rfl (fun k9 hk => by
        rcases (show k9 = 0 ∨ k9 = 1 ∨ k9 = 2 ∨ k9 = 3 by omega) with rfl | rfl | rfl | rfl <;> exact ⟨rfl, rfl, rfl, rfl⟩) (fun k9 hk => by
        rcases (show k9 = 0 ∨ k9 = 1 ∨ k9 = 2 ∨ k9 = 3 by omega) with rfl | rfl | rfl | rfl
        · exact HE.out
        · exact HA.out
        · exact its_int _ _ _
        · exact HZ.out)
    have hit2 := (hit.setRow (g := w.heap.size + 1) (by have := HSZ0.out; omega) (Ic.cs (Ic.mk 3 0 none 0 0 (some ⟨gL, 0, none⟩) 4 4))).mono (lo' := w.heap.size) (by have := HSZ0.out; omega)
    have hbF := below_setRow' (below_ext HBw.out FB.out) (cs := Ic.cs (Ic.mk 3 0 none 0 0 (some ⟨gL, 0, none⟩) 4 4)) (Nat.le_add_right w.heap.size 1)
    have hrw := setRow_heap _ _ _ (Ic.cs (Ic.mk 3 0 none 0 0 (some ⟨gL, 0, none⟩) 4 4)) _ _ FNIL.out
    go_wp2
    exact bodyPost_ret (v := (Ic.mk 3 0 none 0 0 (some ⟨gL, 0, none⟩) 4 4).val) (results_cell1 (p := 2) (ty := 67) rfl _ _ ⟨w.heap.size + 1, 0, none⟩ _ rfl (run_loadVar_row _ _ _ _ _ _ _ hrw Tryd.underlying67 rfl (ic_info _))) rfl ⟨_, rfl, hit2, hbF⟩
  have G4_5_9_13_17_18 : ∀ (gE : Nat) (cE : Ic) (cA : Ic) (cZ : Ic) (gL : Nat) (u : World), (Hid (Below w0.heap.size w0 u)) → (Hid (IB2 u gE (p.ix) (p.v))) → (Hid (ItS w0.heap.size u (.lst ([p.ix, p.v].map .int)) cE)) → (Hid (ItS w0.heap.size u (.lst ((p.al).map .int)) cA)) → (Hid (ItS w0.heap.size u (.lst ((p.zs).map .int)) cZ)) → (Hid (u.heap[gL]? = some (.cells #[.int .i64 cE.kind, .int .i64 cE.n, .slice cE.B cE.nb cE.cb, .slice cE.L cE.nl cE.cl, .int .i64 cA.kind, .int .i64 cA.n, .slice cA.B cA.nb cA.cb, .slice cA.L cA.nl cA.cl, .int .i64 1, .int .i64 p.C, .slice none 0 0, .slice none 0 0, .int .i64 cZ.kind, .int .i64 cZ.n, .slice cZ.B cZ.nb cZ.cb, .slice cZ.L cZ.nl cZ.cl] 67))) → (Hid (w0.heap.size ≤ gL)) → T 2 #[true, true, true, true, true, true, true, true, true, true, true, true, true, true, true, true, true, true, true, false, false] ((((((a0.put (some 7) (.slice (some ⟨gE, 0, none⟩) 2 2)).put (some 8) (.agg #[.int .i64 cE.kind, .int .i64 cE.n, .slice cE.B cE.nb cE.cb, .slice cE.L cE.nl cE.cl])).put (some 12) (.agg #[.int .i64 cA.kind, .int .i64 cA.n, .slice cA.B cA.nb cA.cb, .slice cA.L cA.nl cA.cl])).put (some 16) (.agg #[.int .i64 1, .int .i64 (p.C), .slice none 0 0, .slice none 0 0])).put (some 20) (.agg #[.int .i64 cZ.kind, .int .i64 cZ.n, .slice cZ.B cZ.nb cZ.cb, .slice cZ.L cZ.nl cZ.cl])).put (some 21) (.slice (some ⟨gL, 0, none⟩) 4 4)) u := by
    intro gE cE cA cZ gL u FB FE HE HA HZ FL FLl
    have hHeld := hS.out _ FB
    rw [hT, ha0]
    try simp only [qq1, qq2, qq3, Act.put, qq4, qq5, qq6]
    refine wpT_one (i := 19) (by kernel_rfl) rfl (fun K hK => ?_)
    go_simp
    refine (rlist_it (some ⟨gL, 0, none⟩) 4 4 _).mono ?_
    rintro e wB ⟨rfl, hq⟩
    have FB2 := hBx.out _ _ FB hq
    refine hK.out _ _ ?_ (fun hHeld => ?_)
    · exact hS.out _ FB2
    clear hK K hHeld
    try simp only [qq1, qq2, qq3, Act.put, qq4, qq5, qq6]
    have hG := G4_5_9_13_17_18_19 gE cE cA cZ gL wB FB2 (Lib.hid (FE.out.below hq)) (Lib.hid (HE.out.kept hq)) (Lib.hid (HA.out.kept hq)) (Lib.hid (HZ.out.kept hq)) (Lib.hid (blk_below FL.out hq)) (FLl)
    rw [hT, ha0] at hG
    (try simp only [qq1, qq2, qq3, Act.put, qq4, qq5, qq6] at hG)
    exact hG
  have G4_5_9_13_17 : ∀ (gE : Nat) (cE : Ic) (cA : Ic) (cZ : Ic) (u : World), (Hid (Below w0.heap.size w0 u)) → (Hid (IB2 u gE (p.ix) (p.v))) → (Hid (ItS w0.heap.size u (.lst ([p.ix, p.v].map .int)) cE)) → (Hid (ItS w0.heap.size u (.lst ((p.al).map .int)) cA)) → (Hid (ItS w0.heap.size u (.lst ((p.zs).map .int)) cZ)) → T 3 #[true, true, true, true, true, true, true, true, true, true, true, true, true, true, true, true, true, true, false, false, false] (((((a0.put (some 7) (.slice (some ⟨gE, 0, none⟩) 2 2)).put (some 8) (.agg #[.int .i64 cE.kind, .int .i64 cE.n, .slice cE.B cE.nb cE.cb, .slice cE.L cE.nl cE.cl])).put (some 12) (.agg #[.int .i64 cA.kind, .int .i64 cA.n, .slice cA.B cA.nb cA.cb, .slice cA.L cA.nl cA.cl])).put (some 16) (.agg #[.int .i64 1, .int .i64 (p.C), .slice none 0 0, .slice none 0 0])).put (some 20) (.agg #[.int .i64 cZ.kind, .int .i64 cZ.n, .slice cZ.B cZ.nb cZ.cb, .slice cZ.L cZ.nl cZ.cl])) u := by
    intro gE cE cA cZ u FB FE HE HA HZ
    have hHeld := hS.out _ FB
    rw [hT, ha0]
    try simp only [qq1, qq2, qq3, Act.put, qq4, qq5, qq6]
    refine wpT_one (i := 18) (by kernel_rfl) rfl (fun K hK => ?_)
    go_simp
    have FB2 := hBx.out _ _ FB (below_box0 u (.cells #[.int .i64 cE.kind, .int .i64 cE.n, .slice cE.B cE.nb cE.cb, .slice cE.L cE.nl cE.cl, .int .i64 cA.kind, .int .i64 cA.n, .slice cA.B cA.nb cA.cb, .slice cA.L cA.nl cA.cl, .int .i64 1, .int .i64 p.C, .slice none 0 0, .slice none 0 0, .int .i64 cZ.kind, .int .i64 cZ.n, .slice cZ.B cZ.nb cZ.cb, .slice cZ.L cZ.nl cZ.cl] 67))
    refine hK.out _ _ ?_ (fun hHeld => ?_)
    · exact hS.out _ FB2
    clear hK K hHeld
    try simp only [qq1, qq2, qq3, Act.put, qq4, qq5, qq6]
    have hG := G4_5_9_13_17_18 gE cE cA cZ u.heap.size (u.alloc (.cells #[.int .i64 cE.kind, .int .i64 cE.n, .slice cE.B cE.nb cE.cb, .slice cE.L cE.nl cE.cl, .int .i64 cA.kind, .int .i64 cA.n, .slice cA.B cA.nb cA.cb, .slice cA.L cA.nl cA.cl, .int .i64 1, .int .i64 p.C, .slice none 0 0, .slice none 0 0, .int .i64 cZ.kind, .int .i64 cZ.n, .slice cZ.B cZ.nb cZ.cb, .slice cZ.L cZ.nl cZ.cl] 67)) FB2 (Lib.hid (FE.out.below (below_box0 u (.cells #[.int .i64 cE.kind, .int .i64 cE.n, .slice cE.B cE.nb cE.cb, .slice cE.L cE.nl cE.cl, .int .i64 cA.kind, .int .i64 cA.n, .slice cA.B cA.nb cA.cb, .slice cA.L cA.nl cA.cl, .int .i64 1, .int .i64 p.C, .slice none 0 0, .slice none 0 0, .int .i64 cZ.kind, .int .i64 cZ.n, .slice cZ.B cZ.nb cZ.cb, .slice cZ.L cZ.nl cZ.cl] 67)))) (Lib.hid (HE.out.kept (below_box0 u (.cells #[.int .i64 cE.kind, .int .i64 cE.n, .slice cE.B cE.nb cE.cb, .slice cE.L cE.nl cE.cl, .int .i64 cA.kind, .int .i64 cA.n, .slice cA.B cA.nb cA.cb, .slice cA.L cA.nl cA.cl, .int .i64 1, .int .i64 p.C, .slice none 0 0, .slice none 0 0, .int .i64 cZ.kind, .int .i64 cZ.n, .slice cZ.B cZ.nb cZ.cb, .slice cZ.L cZ.nl cZ.cl] 67)))) (Lib.hid (HA.out.kept (below_box0 u (.cells #[.int .i64 cE.kind, .int .i64 cE.n, .slice cE.B cE.nb cE.cb, .slice cE.L cE.nl cE.cl, .int .i64 cA.kind, .int .i64 cA.n, .slice cA.B cA.nb cA.cb, .slice cA.L cA.nl cA.cl, .int .i64 1, .int .i64 p.C, .slice none 0 0, .slice none 0 0, .int .i64 cZ.kind, .int .i64 cZ.n, .slice cZ.B cZ.nb cZ.cb, .slice cZ.L cZ.nl cZ.cl] 67)))) (Lib.hid (HZ.out.kept (below_box0 u (.cells #[.int .i64 cE.kind, .int .i64 cE.n, .slice cE.B cE.nb cE.cb, .slice cE.L cE.nl cE.cl, .int .i64 cA.kind, .int .i64 cA.n, .slice cA.B cA.nb cA.cb, .slice cA.L cA.nl cA.cl, .int .i64 1, .int .i64 p.C, .slice none 0 0, .slice none 0 0, .int .i64 cZ.kind, .int .i64 cZ.n, .slice cZ.B cZ.nb cZ.cb, .slice cZ.L cZ.nl cZ.cl] 67)))) (Lib.hid (heap_alloc_new u _)) (Lib.hid (by have := FB.out.size; omega))
    rw [hT, ha0] at hG
    (try simp only [qq1, qq2, qq3, Act.put, qq4, qq5, qq6] at hG)
    exact hG
  have G4_5_9_13 : ∀ (gE : Nat) (cE : Ic) (cA : Ic) (u : World), (Hid (Below w0.heap.size w0 u)) → (Hid (IB2 u gE (p.ix) (p.v))) → (Hid (ItS w0.heap.size u (.lst ([p.ix, p.v].map .int)) cE)) → (Hid (ItS w0.heap.size u (.lst ((p.al).map .int)) cA)) → T 4 #[true, true, true, true, true, true, true, true, true, true, true, true, true, true, true, true, true, false, false, false, false] ((((a0.put (some 7) (.slice (some ⟨gE, 0, none⟩) 2 2)).put (some 8) (.agg #[.int .i64 cE.kind, .int .i64 cE.n, .slice cE.B cE.nb cE.cb, .slice cE.L cE.nl cE.cl])).put (some 12) (.agg #[.int .i64 cA.kind, .int .i64 cA.n, .slice cA.B cA.nb cA.cb, .slice cA.L cA.nl cA.cl])).put (some 16) (.agg #[.int .i64 1, .int .i64 (p.C), .slice none 0 0, .slice none 0 0])) u := by
    intro gE cE cA u FB FE HE HA
    have hHeld := hS.out _ FB
    rw [hT, ha0]
    try simp only [qq1, qq2, qq3, Act.put, qq4, qq5, qq6]
    refine wpT_one (i := 17) (by kernel_rfl) rfl (fun K hK => ?_)
    go_simp
    refine (rints_any p.Z p.zs p.nz p.cz hnz (by omega) _ (kZ.out _ (Lib.hid FB.out))).mono ?_
    rintro e wB ⟨cB, rfl, hit, hq⟩
    have FB2 := hBx.out _ _ FB hq
    refine hK.out _ _ ?_ (fun hHeld => ?_)
    · exact hS.out _ FB2
    clear hK K hHeld
    try simp only [qq1, qq2, qq3, Act.put, qq4, qq5, qq6]
    have hG := G4_5_9_13_17 gE cE cA cB wB FB2 (Lib.hid (FE.out.below hq)) (Lib.hid (HE.out.kept hq)) (Lib.hid (HA.out.kept hq)) (Lib.hid (hit.mono (by have := FB.out.size; omega)))
    rw [hT, ha0] at hG
    (try simp only [qq1, qq2, qq3, Act.put, qq4, qq5, qq6] at hG)
    exact hG
  have G4_5_9 : ∀ (gE : Nat) (cE : Ic) (cA : Ic) (u : World), (Hid (Below w0.heap.size w0 u)) → (Hid (IB2 u gE (p.ix) (p.v))) → (Hid (ItS w0.heap.size u (.lst ([p.ix, p.v].map .int)) cE)) → (Hid (ItS w0.heap.size u (.lst ((p.al).map .int)) cA)) → T 5 #[true, true, true, true, true, true, true, true, true, true, true, true, true, false, true, true, true, false, false, false, false] (((a0.put (some 7) (.slice (some ⟨gE, 0, none⟩) 2 2)).put (some 8) (.agg #[.int .i64 cE.kind, .int .i64 cE.n, .slice cE.B cE.nb cE.cb, .slice cE.L cE.nl cE.cl])).put (some 12) (.agg #[.int .i64 cA.kind, .int .i64 cA.n, .slice cA.B cA.nb cA.cb, .slice cA.L cA.nl cA.cl])) u := by
    intro gE cE cA u FB FE HE HA
    have hHeld := hS.out _ FB
    rw [hT, ha0]
    try simp only [qq1, qq2, qq3, Act.put, qq4, qq5, qq6]
    refine wpT_one (i := 13) (by kernel_rfl) rfl (fun K hK => ?_)
    go_simp
    refine (rinteger_it p.C _).mono ?_
    rintro e wB ⟨rfl, hq⟩
    have FB2 := hBx.out _ _ FB hq
    refine hK.out _ _ ?_ (fun hHeld => ?_)
    · exact hS.out _ FB2
    clear hK K hHeld
    try simp only [qq1, qq2, qq3, Act.put, qq4, qq5, qq6]
    have hG := G4_5_9_13 gE cE cA wB FB2 (Lib.hid (FE.out.below hq)) (Lib.hid (HE.out.kept hq)) (Lib.hid (HA.out.kept hq))
    rw [hT, ha0] at hG
    (try simp only [qq1, qq2, qq3, Act.put, qq4, qq5, qq6] at hG)
    exact hG
  have G4_5 : ∀ (gE : Nat) (cE : Ic) (u : World), (Hid (Below w0.heap.size w0 u)) → (Hid (IB2 u gE (p.ix) (p.v))) → (Hid (ItS w0.heap.size u (.lst ([p.ix, p.v].map .int)) cE)) → T 6 #[true, true, true, true, true, true, true, true, true, false, true, true, true, false, true, true, true, false, false, false, false] ((a0.put (some 7) (.slice (some ⟨gE, 0, none⟩) 2 2)).put (some 8) (.agg #[.int .i64 cE.kind, .int .i64 cE.n, .slice cE.B cE.nb cE.cb, .slice cE.L cE.nl cE.cl])) u := by
    intro gE cE u FB FE HE
    have hHeld := hS.out _ FB
    rw [hT, ha0]
    try simp only [qq1, qq2, qq3, Act.put, qq4, qq5, qq6]
    refine wpT_one (i := 9) (by kernel_rfl) rfl (fun K hK => ?_)
    go_simp
    refine (rints_any p.A p.al p.na p.ca hna (by omega) _ (kA.out _ (Lib.hid FB.out))).mono ?_
    rintro e wB ⟨cB, rfl, hit, hq⟩
    have FB2 := hBx.out _ _ FB hq
    refine hK.out _ _ ?_ (fun hHeld => ?_)
    · exact hS.out _ FB2
    clear hK K hHeld
    try simp only [qq1, qq2, qq3, Act.put, qq4, qq5, qq6]
    have hG := G4_5_9 gE cE cB wB FB2 (Lib.hid (FE.out.below hq)) (Lib.hid (HE.out.kept hq)) (Lib.hid (hit.mono (by have := FB.out.size; omega)))
    rw [hT, ha0] at hG
    (try simp only [qq1, qq2, qq3, Act.put, qq4, qq5, qq6] at hG)
    exact hG
  have G4 : ∀ (gE : Nat) (u : World), (Hid (Below w0.heap.size w0 u)) → (Hid (IB2 u gE (p.ix) (p.v))) → T 7 #[true, true, true, true, true, false, true, true, true, false, true, true, true, false, true, true, true, false, false, false, false] (a0.put (some 7) (.slice (some ⟨gE, 0, none⟩) 2 2)) u := by
    intro gE u FB FE
    have hHeld := hS.out _ FB
    rw [hT, ha0]
    try simp only [qq1, qq2, qq3, Act.put, qq4, qq5, qq6]
    refine wpT_one (i := 5) (by kernel_rfl) rfl (fun K hK => ?_)
    go_simp
    refine (rints_any (some ⟨gE, 0, none⟩) [p.ix, p.v] 2 2 (Lib.hid rfl) (by omega) _ (Lib.hid FE.out.sl)).mono ?_
    rintro e wB ⟨cB, rfl, hit, hq⟩
    have FB2 := hBx.out _ _ FB hq
    refine hK.out _ _ ?_ (fun hHeld => ?_)
    · exact hS.out _ FB2
    clear hK K hHeld
    try simp only [qq1, qq2, qq3, Act.put, qq4, qq5, qq6]
    have hG := G4_5 gE cB wB FB2 (Lib.hid (FE.out.below hq)) (Lib.hid (hit.mono (by have := FB.out.size; omega)))
    rw [hT, ha0] at hG
    (try simp only [qq1, qq2, qq3, Act.put, qq4, qq5, qq6] at hG)
    exact hG
  have G0 : ∀  (u : World), (Hid (Below w0.heap.size w0 u)) → T 8 #[true, true, true, true, false, false, true, true, true, false, true, true, true, false, true, true, true, false, false, false, false] a0 u := by
    intro  u FB
    have hHeld := hS.out _ FB
    rw [hT, ha0]
    try simp only [qq1, qq2, qq3, Act.put, qq4, qq5, qq6]
    refine wpT_one (i := 4) (by kernel_rfl) rfl (fun K hK => ?_)
    go_simp
    have FB2 := hBx.out _ _ FB (below_box0 u (.cells #[.int .i64 (p.ix), .int .i64 (p.v)] 3))
    refine hK.out _ _ ?_ (fun hHeld => ?_)
    · exact hS.out _ FB2
    clear hK K hHeld
    try simp only [qq1, qq2, qq3, Act.put, qq4, qq5, qq6]
    have hG := G4 u.heap.size (u.alloc (.cells #[.int .i64 (p.ix), .int .i64 (p.v)] 3)) FB2 (Lib.hid (IB2.new u (p.ix) (p.v)))
    rw [hT, ha0] at hG
    (try simp only [qq1, qq2, qq3, Act.put, qq4, qq5, qq6] at hG)
    exact hG
  exact G0 _ HBD
set_option maxHeartbeats 51200000 in
theorem ritem_any (o : OrdR) (hs : OrdS o) (w : World) (ho : Hid (OrdOk w o)) :
    Calls Tryd.prog 45 #[orV o] w (ItOutS (oIt o) w) := by
  obtain ⟨w0, hW⟩ : ∃ W, ((w.alloc (orO o)).alloc (.cells #[.int .i64 0, .int .i64 0, .slice none 0 0, .slice none 0 0] 67)) = W := ⟨_, rfl⟩
  have HBw : Hid (Below w.heap.size w w0) := Lib.hid (by rw [← hW]; exact below_two (Below.refl _ _))
  have hc : w0.cell? ⟨w.heap.size, 0, none⟩ = some (.int .i64 o.num) ∧ w0.cell? ⟨w.heap.size, 1, none⟩ = some (.string o.rs) ∧ w0.cell? ⟨w.heap.size, 2, none⟩ = some (.int .i64 o.E1) ∧ w0.cell? ⟨w.heap.size, 3, none⟩ = some (.int .i64 o.E2) ∧ w0.cell? ⟨w.heap.size, 4, none⟩ = some (.slice o.A o.na o.ca) ∧ w0.cell? ⟨w.heap.size, 5, none⟩ = some (.int .i64 o.C) ∧ w0.cell? ⟨w.heap.size, 6, none⟩ = some (.slice o.Z o.nz o.cz) ∧ w0.cell? ⟨w.heap.size, 7, none⟩ = some (.slice o.L o.np o.cp) ∧ w0.cell? ⟨w.heap.size, 8, none⟩ = some (.int .i64 o.key) ∧ Own w0 ⟨w.heap.size + 1, 0, none⟩ (.int .i64 0) ∧ Own w0 ⟨w.heap.size + 1, 1, none⟩ (.int .i64 0) ∧ Own w0 ⟨w.heap.size + 1, 2, none⟩ (.slice none 0 0) ∧ Own w0 ⟨w.heap.size + 1, 3, none⟩ (.slice none 0 0) := by rw [← hW]; exact ⟨cell_below (allocs_cell (by simp) (by rfl)) (below_box0 _ _), cell_below (allocs_cell (by simp) (by rfl)) (below_box0 _ _), cell_below (allocs_cell (by simp) (by rfl)) (below_box0 _ _), cell_below (allocs_cell (by simp) (by rfl)) (below_box0 _ _), cell_below (allocs_cell (by simp) (by rfl)) (below_box0 _ _), cell_below (allocs_cell (by simp) (by rfl)) (below_box0 _ _), cell_below (allocs_cell (by simp) (by rfl)) (below_box0 _ _), cell_below (allocs_cell (by simp) (by rfl)) (below_box0 _ _), cell_below (allocs_cell (by simp) (by rfl)) (below_box0 _ _), allocs_own (by simp) (by rfl), allocs_own (by simp) (by rfl), allocs_own (by simp) (by rfl), allocs_own (by simp) (by rfl)⟩
  have kC := Lib.hid (show ∀ u : World, Hid (Below w0.heap.size w0 u) → u.cell? ⟨w.heap.size, 0, none⟩ = some (.int .i64 o.num) ∧ u.cell? ⟨w.heap.size, 1, none⟩ = some (.string o.rs) ∧ u.cell? ⟨w.heap.size, 2, none⟩ = some (.int .i64 o.E1) ∧ u.cell? ⟨w.heap.size, 3, none⟩ = some (.int .i64 o.E2) ∧ u.cell? ⟨w.heap.size, 4, none⟩ = some (.slice o.A o.na o.ca) ∧ u.cell? ⟨w.heap.size, 5, none⟩ = some (.int .i64 o.C) ∧ u.cell? ⟨w.heap.size, 6, none⟩ = some (.slice o.Z o.nz o.cz) ∧ u.cell? ⟨w.heap.size, 7, none⟩ = some (.slice o.L o.np o.cp) ∧ u.cell? ⟨w.heap.size, 8, none⟩ = some (.int .i64 o.key) ∧ Own u ⟨w.heap.size + 1, 0, none⟩ (.int .i64 0) ∧ Own u ⟨w.heap.size + 1, 1, none⟩ (.int .i64 0) ∧ Own u ⟨w.heap.size + 1, 2, none⟩ (.slice none 0 0) ∧ Own u ⟨w.heap.size + 1, 3, none⟩ (.slice none 0 0) from fun u h => ⟨cell_below hc.1 h.out, cell_below hc.2.1 h.out, cell_below hc.2.2.1 h.out, cell_below hc.2.2.2.1 h.out, cell_below hc.2.2.2.2.1 h.out, cell_below hc.2.2.2.2.2.1 h.out, cell_below hc.2.2.2.2.2.2.1 h.out, cell_below hc.2.2.2.2.2.2.2.1 h.out, cell_below hc.2.2.2.2.2.2.2.2.1 h.out, (hc.2.2.2.2.2.2.2.2.2.1).below h.out, (hc.2.2.2.2.2.2.2.2.2.2.1).below h.out, (hc.2.2.2.2.2.2.2.2.2.2.2.1).below h.out, (hc.2.2.2.2.2.2.2.2.2.2.2.2).below h.out⟩)
  have kO := Lib.hid (show ∀ u : World, Hid (Below w0.heap.size w0 u) → Hid (OrdOk u o) from fun u h => Lib.hid ((ho.out.below) (below_ext HBw.out h.out)))
  have HB_0 : Hid (Below w0.heap.size w0 w0) := Lib.hid (Below.refl _ _)
  have HW := Lib.hid hW
  have kRB := Lib.hid (show ∀ u : World, Hid (Below w0.heap.size w0 u) → Hid (u.heap[w.heap.size + 1]? = some (.cells #[.int .i64 0, .int .i64 0, .slice none 0 0, .slice none 0 0] 67)) from fun u h => Lib.hid (blk_below (by rw [← hW]; exact heap_alloc2_new _ _ _) h.out))
  clear hW hc ho
  go_enter Tryd.func45, Tryd.ntmps45
  go_wp2_with fail
  rw [HW.out]
  obtain ⟨zc0, zc1, zc2, zc3, zc4, zc5, zc6, zc7, zc8, ⟨zc9, zf9⟩, ⟨zc10, zf10⟩, ⟨zc11, zf11⟩, ⟨zc12, zf12⟩⟩ := kC.out _ HB_0
  have HSZ0 : Hid (w0.heap.size = w.heap.size + 2) := Lib.hid (by rw [← HW.out]; simp)
  go_wp2
  clear zc0 zc1 zc2 zc3 zc4 zc5 zc6 zc7 zc8 zc9 zf9 zc10 zf10 zc11 zf11 zc12 zf12
  obtain ⟨i0, hi, hz0, hz1, hz2⟩ := info_parts itemInfo
  obtain ⟨⟨okn, okc⟩, ok8⟩ : (o.ps.length = o.np ∧ o.np ≤ o.cp) ∧ o.ps.length ≤ 8 := ⟨((kO.out _ HB_0).out).2.2.1, hs.n⟩
  go_loopw [3, 4] (fun v i u => ∃ (k : Nat) (cs : List Ic), k ≤ o.np ∧ i = .int .i64 k ∧ Hid (cs.length = k) ∧ Hid (OwnI u w0.heap.size v cs) ∧ Hid (∀ j, j < k → ItG v.ownBlock w0.heap.size u (pIt (o.ps.getD j noPart)) (cs.getD j default)) ∧ Hid (Below w0.heap.size w0 u)) (fun _ i _ => o.np - (intOf i).toNat)
  case atStart => exact ⟨0, [], by omega, rfl, Lib.hid rfl, Lib.hid (ownI_nil _ _), Lib.hid (fun j h => absurd h (by omega)), HB_0⟩
  case round =>
    obtain ⟨k, cs, hk, rfl, HCL, HO, HG, HBr⟩ := hrel
    obtain ⟨v, rfl⟩ : ∃ v9, v9 = u3 := ⟨_, rfl⟩
    by_cases hlt : k < o.np
    · skip
      have hkl : k < o.ps.length := by rw [okn]; exact hlt
      obtain ⟨b, f, hA, j0, j1, j2, j3, j4, j5⟩ := (kO.out _ HBr).out.2.2.2.2.2 k hkl
      have HLA := Lib.hid hA
      have hps := hs.p _ (getP_mem hkl)
      obtain ⟨p, hp⟩ : ∃ p, o.ps.getD k noPart = p := ⟨_, rfl⟩
      have HPP := Lib.hid hp
      rw [hp] at j0 j1 j2 j3 j4 j5 hps
      obtain ⟨x1, x2, x3, x4⟩ := j5
      have HNA := Lib.hid x1
      have HNZ := Lib.hid x2
      have HSA := Lib.hid x3
      have HSZ := Lib.hid x4
      obtain ⟨hps1, hps2⟩ := hps
      have bna : p.na ≤ 20 := by rw [← x1]; exact hps1
      have bnz : p.nz ≤ 20 := by rw [← x2]; exact hps2
      clear hp hA hkl x1 x2 x3 x4 hps1 hps2
      obtain ⟨LA, hLA⟩ : ∃ x, o.L = x := ⟨_, rfl⟩
      rw [hLA] at HLA
      have HLB := Lib.hid hLA
      have hLB2 := HLA.out
      subst hLB2
      clear hLA
      obtain ⟨zc0, zc1, zc2, zc3, zc4, zc5, zc6, zc7, zc8, ⟨zc9, zf9⟩, ⟨zc10, zf10⟩, ⟨zc11, zf11⟩, ⟨zc12, zf12⟩⟩ := kC.out _ HBr
      rw [HLB.out] at zc7
      have HB_wr_0 : Hid (Below wr.heap.size wr wr) := Lib.hid (Below.refl _ _)
      go_wp2_with fail
      refine (rpart_any p HNA HNZ (by omega) (by omega) _ (Lib.hid HSA.out) (Lib.hid HSZ.out)).mono ?_
      rintro e w1 ⟨cP, rfl, hit, hb0⟩
      have HIT := Lib.hid hit
      clear hit
      rw [show cP.val = .agg #[.int .i64 cP.kind, .int .i64 cP.n, .slice cP.B cP.nb cP.cb, .slice cP.L cP.nl cP.cl] from rfl]
      have HB_1 := Lib.hid (below_ext HBr.out hb0)
      have HB_wr_1 := Lib.hid (below_ext HB_wr_0.out hb0)
      clear zc0 zc1 zc2 zc3 zc4 zc5 zc6 zc7 zc8 zc9 zf9 zc10 zf10 zc11 zf11 zc12 zf12
      clear hb0
      clear j0 j1 j2 j3 j4
      have hown : w1.ownsRow w0.heap.size 67 4 v k (cs.flatMap itemCells) := by
        have h := HO.out.keep HB_wr_1.out
        unfold OwnI at h
        rwa [HCL.out] at h
      have hbz := HB_1.out.size
      have b1 : k + 1 ≤ maxLen := by unfold maxLen; omega
      have b2 : (k + 1) * 64 ≤ 140737488355328 := by omega
      have b3 : w0.heap.size ≤ (w1.alloc (.cells #[.int .i64 cP.kind, .int .i64 cP.n, .slice cP.B cP.nb cP.cb, .slice cP.L cP.nl cP.cl] 67)).heap.size := by simp; omega
      go_wp2_with (at_builtin; refine wpList_append_lies rfl _ _ 65 rfl w0.heap.size 67 i0 (.agg #[.int .i64 0, .int .i64 0, .slice none 0 0, .slice none 0 0]) 4 64 Tryd.underlying65 hi hz0 hz1 hz2 rfl (by decide) v _ _ rfl (hown.alloc _) ⟨w1.heap.size, 0, none⟩ 1 1 [.int .i64 cP.kind, .int .i64 cP.n, .slice cP.B cP.nb cP.cb, .slice cP.L cP.nl cP.cl] rfl rfl (World.news_of_block (cs := #[.int .i64 cP.kind, .int .i64 cP.n, .slice cP.B cP.nb cP.cb, .slice cP.L cP.nl cP.cl]) (t := 67) (fr := (0, 0)) (heap_alloc_new w1 _)) (by simp [Value.oneCell']) (by decide) b1 b2 b3 _ rfl ?_; intro gg cap wz hown1 hgrow hgg hlt2)
      have hgz : (w1.alloc (.cells #[.int .i64 cP.kind, .int .i64 cP.n, .slice cP.B cP.nb cP.cb, .slice cP.L cP.nl cP.cl] 67)).heap.size ≤ wz.heap.size := hgrow.size
      have hwr9 := HB_wr_1.out.size
      have hsq : (w1.alloc (.cells #[.int .i64 cP.kind, .int .i64 cP.n, .slice cP.B cP.nb cP.cb, .slice cP.L cP.nl cP.cl] 67)).heap.size = w1.heap.size + 1 := by simp
      have HO4 : Hid (OwnI wz w0.heap.size (.slice (some ⟨gg, 0, none⟩) (k + 1) cap) (cs ++ [cP])) := Lib.hid (OwnI.app HCL.out.symm (by simpa [itemCells] using hown1))
      have hgg2 : ∀ b, ((.slice (some ⟨gg, 0, none⟩) (k + 1) cap) : Value).ownBlock = some b → v.ownBlock = some b ∨ (w1.alloc (.cells #[.int .i64 cP.kind, .int .i64 cP.n, .slice cP.B cP.nb cP.cb, .slice cP.L cP.nl cP.cl] 67)).heap.size ≤ b := fun b e => by
        cases e
        rcases hgg with e | e
        · exact Or.inl e
        · exact Or.inr (show (w1.alloc (.cells #[.int .i64 cP.kind, .int .i64 cP.n, .slice cP.B cP.nb cP.cb, .slice cP.L cP.nl cP.cl] 67)).heap.size ≤ gg by omega)
      have hown_lt : ∀ b, v.ownBlock = some b → b < wr.heap.size := fun b e => (World.ownsRow.lt HO.out b e).2
      have HG4 : Hid (∀ j, j < k + 1 → ItG ((.slice (some ⟨gg, 0, none⟩) (k + 1) cap) : Value).ownBlock w0.heap.size wz (pIt (o.ps.getD j noPart)) ((cs ++ [cP]).getD j default)) := Lib.hid (fun j hj => by
        by_cases e : j = k
        · subst e
          rw [HPP.out, show (cs ++ [cP]).getD j default = cP by rw [List.getD_eq_getElem?_getD, List.getElem?_append_right (by rw [HCL.out]; exact Nat.le_refl _), HCL.out, Nat.sub_self]; rfl]
          exact (((HIT.out.kept (below_box0 _ (.cells #[.int .i64 cP.kind, .int .i64 cP.n, .slice cP.B cP.nb cP.cb, .slice cP.L cP.nl cP.cl] 67))).g (lo := w0.heap.size) (by have := HBr.out.size; omega) (fun b e => hown_lt b e)).grown hgrow hgz hgg2)
        · rw [show (cs ++ [cP]).getD j default = cs.getD j default by rw [List.getD_eq_getElem?_getD, List.getElem?_append_left (by rw [HCL.out]; omega), ← List.getD_eq_getElem?_getD]]
          exact (((HG.out j (by omega)).kept (below_ext HB_wr_1.out (below_box0 _ (.cells #[.int .i64 cP.kind, .int .i64 cP.n, .slice cP.B cP.nb cP.cb, .slice cP.L cP.nl cP.cl] 67)))).grown hgrow hgz hgg2))
      have HB4 : Hid (Below w0.heap.size w0 wz) := Lib.hid ((HB_1.out.alloc (by omega) (.cells #[.int .i64 cP.kind, .int .i64 cP.n, .slice cP.B cP.nb cP.cb, .slice cP.L cP.nl cP.cl] 67)).grown hgrow (by simp; omega) (fun j hj => by have := (World.ownsRow.lt HO.out j hj).1; omega))
      have HCL4 : Hid ((cs ++ [cP]).length = k + 1) := Lib.hid (by rw [List.length_append, HCL.out]; rfl)
      clear hown hown1 hgrow hgg hlt2 hgg2 hown_lt b1 b2 b3
      go_roundw
      case rel => exact ⟨k + 1, _, by omega, by go_num, HCL4, HO4, HG4, HB4⟩
      case measure => simp [intOf]; omega
    · skip
      have hke : k = o.np := by omega
      obtain ⟨L5, cl5, hv5, hit5⟩ := its_own (l := o.ps.map pIt) (lo := w0.heap.size) HO.out HCL.out (by rw [List.length_map, okn, hke]) (Nat.le_refl _) (fun j hj => by
        rw [show (o.ps.map pIt).getD j default = pIt (o.ps.getD j noPart) by rw [List.getD_eq_getElem?_getD, List.getElem?_map, List.getD_eq_getElem?_getD, List.getElem?_eq_getElem (show j < o.ps.length by omega)]; rfl]
        exact (HG.out j hj).s)
      subst hv5
      have HIT5 := Lib.hid hit5
      have HKE := Lib.hid hke
      clear hit5 HO HG hke
      have HB_wr_0 : Hid (Below wr.heap.size wr wr) := Lib.hid (Below.refl _ _)
      have kA := Lib.hid (show ∀ u : World, Hid (Below wr.heap.size wr u) → Hid (Sl u o.A o.al) from fun u h => Lib.hid ((kO.out _ HBr).out.2.2.2.1.below h.out))
      have kZ := Lib.hid (show ∀ u : World, Hid (Below wr.heap.size wr u) → Hid (Sl u o.Z o.zs) from fun u h => Lib.hid ((kO.out _ HBr).out.2.2.2.2.1.below h.out))
      obtain ⟨q1, q2⟩ : Hid (o.al.length = o.na) ∧ Hid (o.zs.length = o.nz) := ⟨Lib.hid (kO.out _ HBr).out.1, Lib.hid (kO.out _ HBr).out.2.1⟩
      have bna : o.na ≤ 20 := by rw [← q1.out]; exact hs.a
      have bnz : o.nz ≤ 20 := by rw [← q2.out]; exact hs.z
      obtain ⟨zc0, zc1, zc2, zc3, zc4, zc5, zc6, zc7, zc8, ⟨zc9, zf9⟩, ⟨zc10, zf10⟩, ⟨zc11, zf11⟩, ⟨zc12, zf12⟩⟩ := kC.out _ HBr
      go_upto_region 6 with (fail)
      clear zc0 zc1 zc2 zc3 zc4 zc5 zc6 zc7 zc8 zc9 zf9 zc10 zf10 zc11 zf11 zc12 zf12
      have hBx := Lib.hid (show ∀ u u2 : World, Hid (Below w0.heap.size w0 u ∧ Below wr.heap.size wr u) → Below u.heap.size u u2 → Hid (Below w0.heap.size w0 u2 ∧ Below wr.heap.size wr u2) from fun u u2 h1 h2 => Lib.hid ⟨(below_ext h1.out.1 h2), (below_ext h1.out.2 h2)⟩)
      have hS := Lib.hid (show ∀ u : World, Hid (Below w0.heap.size w0 u ∧ Below wr.heap.size wr u) → (u.cell? ⟨w.heap.size, 0, none⟩ = some (.int .i64 o.num) ∧ u.cell? ⟨w.heap.size, 1, none⟩ = some (.string o.rs) ∧ u.cell? ⟨w.heap.size, 2, none⟩ = some (.int .i64 o.E1) ∧ u.cell? ⟨w.heap.size, 3, none⟩ = some (.int .i64 o.E2) ∧ u.cell? ⟨w.heap.size, 4, none⟩ = some (.slice o.A o.na o.ca) ∧ u.cell? ⟨w.heap.size, 5, none⟩ = some (.int .i64 o.C) ∧ u.cell? ⟨w.heap.size, 6, none⟩ = some (.slice o.Z o.nz o.cz) ∧ u.cell? ⟨w.heap.size, 7, none⟩ = some (.slice o.L o.np o.cp) ∧ u.cell? ⟨w.heap.size, 8, none⟩ = some (.int .i64 o.key) ∧ Own u ⟨w.heap.size + 1, 0, none⟩ (.int .i64 0) ∧ Own u ⟨w.heap.size + 1, 1, none⟩ (.int .i64 0) ∧ Own u ⟨w.heap.size + 1, 2, none⟩ (.slice none 0 0) ∧ Own u ⟨w.heap.size + 1, 3, none⟩ (.slice none 0 0)) from fun u h1 => by
        obtain ⟨y0, y1, y2, y3, y4, y5, y6, y7, y8, y9, y10, y11, y12⟩ := kC.out _ (Lib.hid h1.out.1)
        exact ⟨y0, y1, y2, y3, y4, y5, y6, y7, y8, y9, y10, y11, y12⟩)
      have HBA : Hid (Below w0.heap.size w0 wr ∧ Below wr.heap.size wr wr) := Lib.hid ⟨HBr.out, HB_wr_0.out⟩
      have HBD := hBx.out _ _ HBA (Below.refl _ _).drew
      refine wp_region_T (S := fun w' => w'.cell? ⟨w.heap.size, 0, none⟩ = some (.int .i64 o.num) ∧ w'.cell? ⟨w.heap.size, 1, none⟩ = some (.string o.rs) ∧ w'.cell? ⟨w.heap.size, 2, none⟩ = some (.int .i64 o.E1) ∧ w'.cell? ⟨w.heap.size, 3, none⟩ = some (.int .i64 o.E2) ∧ w'.cell? ⟨w.heap.size, 4, none⟩ = some (.slice o.A o.na o.ca) ∧ w'.cell? ⟨w.heap.size, 5, none⟩ = some (.int .i64 o.C) ∧ w'.cell? ⟨w.heap.size, 6, none⟩ = some (.slice o.Z o.nz o.cz) ∧ w'.cell? ⟨w.heap.size, 7, none⟩ = some (.slice o.L o.np o.cp) ∧ w'.cell? ⟨w.heap.size, 8, none⟩ = some (.int .i64 o.key) ∧ Own w' ⟨w.heap.size + 1, 0, none⟩ (.int .i64 0) ∧ Own w' ⟨w.heap.size + 1, 1, none⟩ (.int .i64 0) ∧ Own w' ⟨w.heap.size + 1, 2, none⟩ (.slice none 0 0) ∧ Own w' ⟨w.heap.size + 1, 3, none⟩ (.slice none 0 0)) (E := [16]) (by kernel_rfl) (hS.out _ HBD) (fun hHeld => ?_)
      obtain ⟨wD, hwD⟩ : ∃ u, wr.drew = u := ⟨_, rfl⟩
      rw [hwD] at HBD hHeld ⊢
      have HSZD : Hid (wr.heap.size ≤ wD.heap.size) := Lib.hid (by rw [← hwD]; exact Nat.le_refl _)
      clear hwD
      refine tkV 0 ?_
      try simp only [qq1, qq2, qq3, Act.put, qq4, qq5, qq6]
      refine tkV 1 ?_
      try simp only [qq1, qq2, qq3, Act.put, qq4, qq5, qq6]
      refine tkV 3 ?_
      try simp only [qq1, qq2, qq3, Act.put, qq4, qq5, qq6]
      refine tkV 4 ?_
      try simp only [qq1, qq2, qq3, Act.put, qq4, qq5, qq6]
      refine tkV 6 ?_
      try simp only [qq1, qq2, qq3, Act.put, qq4, qq5, qq6]
      refine tkV 7 ?_
      try simp only [qq1, qq2, qq3, Act.put, qq4, qq5, qq6]
      refine tkV 9 ?_
      try simp only [qq1, qq2, qq3, Act.put, qq4, qq5, qq6]
      refine tkV 11 ?_
      try simp only [qq1, qq2, qq3, Act.put, qq4, qq5, qq6]
      refine tkV 12 ?_
      try simp only [qq1, qq2, qq3, Act.put, qq4, qq5, qq6]
      refine wpT_frame (fun T a0 hT ha0 => ?_)
      clear hHeld
      have G2_5_8_10_13_14_15 : ∀ (cR : Ic) (cE : Ic) (gL : Nat) (u : World), (Hid (Below w0.heap.size w0 u ∧ Below wr.heap.size wr u)) → (Hid (ItS w0.heap.size u (.byt (bys o.rs)) cR)) → (Hid (ItS w0.heap.size u (eIt o.E1 o.E2 o.al o.C o.zs) cE)) → (Hid (u.heap[gL]? = some (.cells #[.int .i64 1, .int .i64 o.num, .slice none 0 0, .slice none 0 0, .int .i64 cR.kind, .int .i64 cR.n, .slice cR.B cR.nb cR.cb, .slice cR.L cR.nl cR.cl, .int .i64 cE.kind, .int .i64 cE.n, .slice cE.B cE.nb cE.cb, .slice cE.L cE.nl cE.cl, .int .i64 3, .int .i64 0, .slice none 0 0, .slice L5 k cl5, .int .i64 1, .int .i64 o.key, .slice none 0 0, .slice none 0 0] 67))) → (Hid (w0.heap.size ≤ gL)) → T 1 #[true, true, true, true, true, true, true, true, true, true, true, true, true, true, true, true, false] (((((((a0.put (some 23) (.agg #[.int .i64 1, .int .i64 (o.num), .slice none 0 0, .slice none 0 0])).put (some 26) (.agg #[.int .i64 cR.kind, .int .i64 cR.n, .slice cR.B cR.nb cR.cb, .slice cR.L cR.nl cR.cl])).put (some 29) (.agg #[.int .i64 cE.kind, .int .i64 cE.n, .slice cE.B cE.nb cE.cb, .slice cE.L cE.nl cE.cl])).put (some 31) (.agg #[.int .i64 3, .int .i64 (0), .slice none 0 0, .slice L5 k cl5])).put (some 34) (.agg #[.int .i64 1, .int .i64 (o.key), .slice none 0 0, .slice none 0 0])).put (some 35) (.slice (some ⟨gL, 0, none⟩) 5 5)).put (some 36) (.agg #[.int .i64 3, .int .i64 (0), .slice none 0 0, .slice (some ⟨gL, 0, none⟩) 5 5])) u := by
        intro cR cE gL u FB HR HE FL FLl
        have hHeld := hS.out _ FB
        rw [hT, ha0]
        try simp only [qq1, qq2, qq3, Act.put, qq4, qq5, qq6]
        have HE_w0 := Lib.hid FB.out.1
        have HE_wr := Lib.hid FB.out.2
        have FNIL := kRB.out _ (Lib.hid FB.out.1)
        refine wpT_pass (i := 16) (by kernel_rfl) (by simp) rfl (fun K hK => ?_)
        rw [show (if Region.wanted _ _ = true then _ else _ : Prop) = _ from if_pos rfl]
        refine wp_store_row 67 _ _ rfl (w.heap.size + 1) (Ic.cs (Ic.mk 3 0 none 0 0 (some ⟨gL, 0, none⟩) 5 5)) rfl rfl 67 _ FNIL.out (ic_info _) rfl (ic_one _) ?_
        refine hK.out _ _ ?_
        clear hK K
        try simp only [qq1, qq2, qq3, Act.put, qq4, qq5, qq6]
        refine wpT_done (by kernel_rfl) ?_ _
        have hit : ItS w0.heap.size u (oIt o) (Ic.mk 3 0 none 0 0 (some ⟨gL, 0, none⟩) 5 5) := its_blk (fun k9 => match k9 with | 0 => icInt o.num | 1 => cR | 2 => cE | 3 => ⟨3, 0, none, 0, 0, L5, k, cl5⟩ | _ => icInt o.key) FL.out FLl.out rfl (fun k9 hk => by
            rcases (show k9 = 0 ∨ k9 = 1 ∨ k9 = 2 ∨ k9 = 3 ∨ k9 = 4 by omega) with rfl | rfl | rfl | rfl | rfl <;> exact ⟨rfl, rfl, rfl, rfl⟩) (fun k9 hk => by
            rcases (show k9 = 0 ∨ k9 = 1 ∨ k9 = 2 ∨ k9 = 3 ∨ k9 = 4 by omega) with rfl | rfl | rfl | rfl | rfl
            · exact its_int _ _ _
            · exact HR.out
            · exact HE.out
            · exact HIT5.out.kept FB.out.2
            · exact its_int _ _ _)
        have hit2 := (hit.setRow (g := w.heap.size + 1) (by have := HSZ0.out; omega) (Ic.cs (Ic.mk 3 0 none 0 0 (some ⟨gL, 0, none⟩) 5 5))).mono (lo' := w.heap.size) (by have := HSZ0.out; omega)
        have hbF := below_setRow' (below_ext HBw.out FB.out.1) (cs := Ic.cs (Ic.mk 3 0 none 0 0 (some ⟨gL, 0, none⟩) 5 5)) (Nat.le_add_right w.heap.size 1)
        have hrw := setRow_heap _ _ _ (Ic.cs (Ic.mk 3 0 none 0 0 (some ⟨gL, 0, none⟩) 5 5)) _ _ FNIL.out
        go_wp2
        exact bodyPost_ret (v := (Ic.mk 3 0 none 0 0 (some ⟨gL, 0, none⟩) 5 5).val) (results_cell1 (p := 2) (ty := 67) rfl _ _ ⟨w.heap.size + 1, 0, none⟩ _ rfl (run_loadVar_row _ _ _ _ _ _ _ hrw Tryd.underlying67 rfl (ic_info _))) rfl ⟨_, rfl, hit2, hbF⟩
      have G2_5_8_10_13_14 : ∀ (cR : Ic) (cE : Ic) (gL : Nat) (u : World), (Hid (Below w0.heap.size w0 u ∧ Below wr.heap.size wr u)) → (Hid (ItS w0.heap.size u (.byt (bys o.rs)) cR)) → (Hid (ItS w0.heap.size u (eIt o.E1 o.E2 o.al o.C o.zs) cE)) → (Hid (u.heap[gL]? = some (.cells #[.int .i64 1, .int .i64 o.num, .slice none 0 0, .slice none 0 0, .int .i64 cR.kind, .int .i64 cR.n, .slice cR.B cR.nb cR.cb, .slice cR.L cR.nl cR.cl, .int .i64 cE.kind, .int .i64 cE.n, .slice cE.B cE.nb cE.cb, .slice cE.L cE.nl cE.cl, .int .i64 3, .int .i64 0, .slice none 0 0, .slice L5 k cl5, .int .i64 1, .int .i64 o.key, .slice none 0 0, .slice none 0 0] 67))) → (Hid (w0.heap.size ≤ gL)) → T 2 #[true, true, true, true, true, true, true, true, true, true, true, true, true, true, true, false, false] ((((((a0.put (some 23) (.agg #[.int .i64 1, .int .i64 (o.num), .slice none 0 0, .slice none 0 0])).put (some 26) (.agg #[.int .i64 cR.kind, .int .i64 cR.n, .slice cR.B cR.nb cR.cb, .slice cR.L cR.nl cR.cl])).put (some 29) (.agg #[.int .i64 cE.kind, .int .i64 cE.n, .slice cE.B cE.nb cE.cb, .slice cE.L cE.nl cE.cl])).put (some 31) (.agg #[.int .i64 3, .int .i64 (0), .slice none 0 0, .slice L5 k cl5])).put (some 34) (.agg #[.int .i64 1, .int .i64 (o.key), .slice none 0 0, .slice none 0 0])).put (some 35) (.slice (some ⟨gL, 0, none⟩) 5 5)) u := by
        intro cR cE gL u FB HR HE FL FLl
        have hHeld := hS.out _ FB
        rw [hT, ha0]
        try simp only [qq1, qq2, qq3, Act.put, qq4, qq5, qq6]
        refine wpT_one (i := 15) (by kernel_rfl) rfl (fun K hK => ?_)
        go_simp
        refine (rlist_it (some ⟨gL, 0, none⟩) 5 5 _).mono ?_
        rintro e wB ⟨rfl, hq⟩
        have FB2 := hBx.out _ _ FB hq
        refine hK.out _ _ ?_ (fun hHeld => ?_)
        · exact hS.out _ FB2
        clear hK K hHeld
        try simp only [qq1, qq2, qq3, Act.put, qq4, qq5, qq6]
        have hG := G2_5_8_10_13_14_15 cR cE gL wB FB2 (Lib.hid (HR.out.kept hq)) (Lib.hid (HE.out.kept hq)) (Lib.hid (blk_below FL.out hq)) (FLl)
        rw [hT, ha0] at hG
        (try simp only [qq1, qq2, qq3, Act.put, qq4, qq5, qq6] at hG)
        exact hG
      have G2_5_8_10_13 : ∀ (cR : Ic) (cE : Ic) (u : World), (Hid (Below w0.heap.size w0 u ∧ Below wr.heap.size wr u)) → (Hid (ItS w0.heap.size u (.byt (bys o.rs)) cR)) → (Hid (ItS w0.heap.size u (eIt o.E1 o.E2 o.al o.C o.zs) cE)) → T 3 #[true, true, true, true, true, true, true, true, true, true, true, true, true, true, false, false, false] (((((a0.put (some 23) (.agg #[.int .i64 1, .int .i64 (o.num), .slice none 0 0, .slice none 0 0])).put (some 26) (.agg #[.int .i64 cR.kind, .int .i64 cR.n, .slice cR.B cR.nb cR.cb, .slice cR.L cR.nl cR.cl])).put (some 29) (.agg #[.int .i64 cE.kind, .int .i64 cE.n, .slice cE.B cE.nb cE.cb, .slice cE.L cE.nl cE.cl])).put (some 31) (.agg #[.int .i64 3, .int .i64 (0), .slice none 0 0, .slice L5 k cl5])).put (some 34) (.agg #[.int .i64 1, .int .i64 (o.key), .slice none 0 0, .slice none 0 0])) u := by
        intro cR cE u FB HR HE
        have hHeld := hS.out _ FB
        rw [hT, ha0]
        try simp only [qq1, qq2, qq3, Act.put, qq4, qq5, qq6]
        refine wpT_one (i := 14) (by kernel_rfl) rfl (fun K hK => ?_)
        go_simp
        have FB2 := hBx.out _ _ FB (below_box0 u (.cells #[.int .i64 1, .int .i64 o.num, .slice none 0 0, .slice none 0 0, .int .i64 cR.kind, .int .i64 cR.n, .slice cR.B cR.nb cR.cb, .slice cR.L cR.nl cR.cl, .int .i64 cE.kind, .int .i64 cE.n, .slice cE.B cE.nb cE.cb, .slice cE.L cE.nl cE.cl, .int .i64 3, .int .i64 0, .slice none 0 0, .slice L5 k cl5, .int .i64 1, .int .i64 o.key, .slice none 0 0, .slice none 0 0] 67))
        refine hK.out _ _ ?_ (fun hHeld => ?_)
        · exact hS.out _ FB2
        clear hK K hHeld
        try simp only [qq1, qq2, qq3, Act.put, qq4, qq5, qq6]
        have hG := G2_5_8_10_13_14 cR cE u.heap.size (u.alloc (.cells #[.int .i64 1, .int .i64 o.num, .slice none 0 0, .slice none 0 0, .int .i64 cR.kind, .int .i64 cR.n, .slice cR.B cR.nb cR.cb, .slice cR.L cR.nl cR.cl, .int .i64 cE.kind, .int .i64 cE.n, .slice cE.B cE.nb cE.cb, .slice cE.L cE.nl cE.cl, .int .i64 3, .int .i64 0, .slice none 0 0, .slice L5 k cl5, .int .i64 1, .int .i64 o.key, .slice none 0 0, .slice none 0 0] 67)) FB2 (Lib.hid (HR.out.kept (below_box0 u (.cells #[.int .i64 1, .int .i64 o.num, .slice none 0 0, .slice none 0 0, .int .i64 cR.kind, .int .i64 cR.n, .slice cR.B cR.nb cR.cb, .slice cR.L cR.nl cR.cl, .int .i64 cE.kind, .int .i64 cE.n, .slice cE.B cE.nb cE.cb, .slice cE.L cE.nl cE.cl, .int .i64 3, .int .i64 0, .slice none 0 0, .slice L5 k cl5, .int .i64 1, .int .i64 o.key, .slice none 0 0, .slice none 0 0] 67)))) (Lib.hid (HE.out.kept (below_box0 u (.cells #[.int .i64 1, .int .i64 o.num, .slice none 0 0, .slice none 0 0, .int .i64 cR.kind, .int .i64 cR.n, .slice cR.B cR.nb cR.cb, .slice cR.L cR.nl cR.cl, .int .i64 cE.kind, .int .i64 cE.n, .slice cE.B cE.nb cE.cb, .slice cE.L cE.nl cE.cl, .int .i64 3, .int .i64 0, .slice none 0 0, .slice L5 k cl5, .int .i64 1, .int .i64 o.key, .slice none 0 0, .slice none 0 0] 67)))) (Lib.hid (heap_alloc_new u _)) (Lib.hid (by have := FB.out.1.size; omega))
        rw [hT, ha0] at hG
        (try simp only [qq1, qq2, qq3, Act.put, qq4, qq5, qq6] at hG)
        exact hG
      have G2_5_8_10 : ∀ (cR : Ic) (cE : Ic) (u : World), (Hid (Below w0.heap.size w0 u ∧ Below wr.heap.size wr u)) → (Hid (ItS w0.heap.size u (.byt (bys o.rs)) cR)) → (Hid (ItS w0.heap.size u (eIt o.E1 o.E2 o.al o.C o.zs) cE)) → T 4 #[true, true, true, true, true, true, true, true, true, true, true, true, true, false, false, false, false] ((((a0.put (some 23) (.agg #[.int .i64 1, .int .i64 (o.num), .slice none 0 0, .slice none 0 0])).put (some 26) (.agg #[.int .i64 cR.kind, .int .i64 cR.n, .slice cR.B cR.nb cR.cb, .slice cR.L cR.nl cR.cl])).put (some 29) (.agg #[.int .i64 cE.kind, .int .i64 cE.n, .slice cE.B cE.nb cE.cb, .slice cE.L cE.nl cE.cl])).put (some 31) (.agg #[.int .i64 3, .int .i64 (0), .slice none 0 0, .slice L5 k cl5])) u := by
        intro cR cE u FB HR HE
        have hHeld := hS.out _ FB
        rw [hT, ha0]
        try simp only [qq1, qq2, qq3, Act.put, qq4, qq5, qq6]
        refine wpT_one (i := 13) (by kernel_rfl) rfl (fun K hK => ?_)
        go_simp
        refine (rinteger_it o.key _).mono ?_
        rintro e wB ⟨rfl, hq⟩
        have FB2 := hBx.out _ _ FB hq
        refine hK.out _ _ ?_ (fun hHeld => ?_)
        · exact hS.out _ FB2
        clear hK K hHeld
        try simp only [qq1, qq2, qq3, Act.put, qq4, qq5, qq6]
        have hG := G2_5_8_10_13 cR cE wB FB2 (Lib.hid (HR.out.kept hq)) (Lib.hid (HE.out.kept hq))
        rw [hT, ha0] at hG
        (try simp only [qq1, qq2, qq3, Act.put, qq4, qq5, qq6] at hG)
        exact hG
      have G2_5_8 : ∀ (cR : Ic) (cE : Ic) (u : World), (Hid (Below w0.heap.size w0 u ∧ Below wr.heap.size wr u)) → (Hid (ItS w0.heap.size u (.byt (bys o.rs)) cR)) → (Hid (ItS w0.heap.size u (eIt o.E1 o.E2 o.al o.C o.zs) cE)) → T 5 #[true, true, true, true, true, true, true, true, true, true, false, true, true, false, false, false, false] (((a0.put (some 23) (.agg #[.int .i64 1, .int .i64 (o.num), .slice none 0 0, .slice none 0 0])).put (some 26) (.agg #[.int .i64 cR.kind, .int .i64 cR.n, .slice cR.B cR.nb cR.cb, .slice cR.L cR.nl cR.cl])).put (some 29) (.agg #[.int .i64 cE.kind, .int .i64 cE.n, .slice cE.B cE.nb cE.cb, .slice cE.L cE.nl cE.cl])) u := by
        intro cR cE u FB HR HE
        have hHeld := hS.out _ FB
        rw [hT, ha0]
        try simp only [qq1, qq2, qq3, Act.put, qq4, qq5, qq6]
        refine wpT_one (i := 10) (by kernel_rfl) rfl (fun K hK => ?_)
        go_simp
        refine (rlist_it L5 k cl5 _).mono ?_
        rintro e wB ⟨rfl, hq⟩
        have FB2 := hBx.out _ _ FB hq
        refine hK.out _ _ ?_ (fun hHeld => ?_)
        · exact hS.out _ FB2
        clear hK K hHeld
        try simp only [qq1, qq2, qq3, Act.put, qq4, qq5, qq6]
        have hG := G2_5_8_10 cR cE wB FB2 (Lib.hid (HR.out.kept hq)) (Lib.hid (HE.out.kept hq))
        rw [hT, ha0] at hG
        (try simp only [qq1, qq2, qq3, Act.put, qq4, qq5, qq6] at hG)
        exact hG
      have G2_5 : ∀ (cR : Ic) (u : World), (Hid (Below w0.heap.size w0 u ∧ Below wr.heap.size wr u)) → (Hid (ItS w0.heap.size u (.byt (bys o.rs)) cR)) → T 6 #[true, true, true, true, true, true, true, true, false, true, false, true, true, false, false, false, false] ((a0.put (some 23) (.agg #[.int .i64 1, .int .i64 (o.num), .slice none 0 0, .slice none 0 0])).put (some 26) (.agg #[.int .i64 cR.kind, .int .i64 cR.n, .slice cR.B cR.nb cR.cb, .slice cR.L cR.nl cR.cl])) u := by
        intro cR u FB HR
        have hHeld := hS.out _ FB
        rw [hT, ha0]
        try simp only [qq1, qq2, qq3, Act.put, qq4, qq5, qq6]
        refine wpT_one (i := 8) (by kernel_rfl) rfl (fun K hK => ?_)
        go_simp
        refine (reitem_any o.E1 o.E2 o.A o.na o.ca o.al o.C o.Z o.nz o.cz o.zs q1 q2 (by omega) (by omega) _ (kA.out _ (Lib.hid FB.out.2)) (kZ.out _ (Lib.hid FB.out.2))).mono ?_
        rintro e wB ⟨cB, rfl, hit, hq⟩
        have FB2 := hBx.out _ _ FB hq
        refine hK.out _ _ ?_ (fun hHeld => ?_)
        · exact hS.out _ FB2
        clear hK K hHeld
        try simp only [qq1, qq2, qq3, Act.put, qq4, qq5, qq6]
        have hG := G2_5_8 cR cB wB FB2 (Lib.hid (HR.out.kept hq)) (Lib.hid (hit.mono (by have := FB.out.1.size; omega)))
        rw [hT, ha0] at hG
        (try simp only [qq1, qq2, qq3, Act.put, qq4, qq5, qq6] at hG)
        exact hG
      have G2 : ∀  (u : World), (Hid (Below w0.heap.size w0 u ∧ Below wr.heap.size wr u)) → T 7 #[true, true, true, true, true, false, true, true, false, true, false, true, true, false, false, false, false] (a0.put (some 23) (.agg #[.int .i64 1, .int .i64 (o.num), .slice none 0 0, .slice none 0 0])) u := by
        intro  u FB
        have hHeld := hS.out _ FB
        rw [hT, ha0]
        try simp only [qq1, qq2, qq3, Act.put, qq4, qq5, qq6]
        refine wpT_one (i := 5) (by kernel_rfl) rfl (fun K hK => ?_)
        go_simp
        refine (rtext_it o.rs hs.r0 (by have := hs.r1; omega) _).mono ?_
        rintro e wB ⟨cB, rfl, hit, hq⟩
        have FB2 := hBx.out _ _ FB hq
        refine hK.out _ _ ?_ (fun hHeld => ?_)
        · exact hS.out _ FB2
        clear hK K hHeld
        try simp only [qq1, qq2, qq3, Act.put, qq4, qq5, qq6]
        have hG := G2_5 cB wB FB2 (Lib.hid (hit.mono (by have := FB.out.1.size; omega)))
        rw [hT, ha0] at hG
        (try simp only [qq1, qq2, qq3, Act.put, qq4, qq5, qq6] at hG)
        exact hG
      have G0 : ∀  (u : World), (Hid (Below w0.heap.size w0 u ∧ Below wr.heap.size wr u)) → T 8 #[true, true, false, true, true, false, true, true, false, true, false, true, true, false, false, false, false] a0 u := by
        intro  u FB
        have hHeld := hS.out _ FB
        rw [hT, ha0]
        try simp only [qq1, qq2, qq3, Act.put, qq4, qq5, qq6]
        refine wpT_one (i := 2) (by kernel_rfl) rfl (fun K hK => ?_)
        go_simp
        refine (rinteger_it o.num _).mono ?_
        rintro e wB ⟨rfl, hq⟩
        have FB2 := hBx.out _ _ FB hq
        refine hK.out _ _ ?_ (fun hHeld => ?_)
        · exact hS.out _ FB2
        clear hK K hHeld
        try simp only [qq1, qq2, qq3, Act.put, qq4, qq5, qq6]
        have hG := G2  wB FB2
        rw [hT, ha0] at hG
        (try simp only [qq1, qq2, qq3, Act.put, qq4, qq5, qq6] at hG)
        exact hG
      exact G0 _ HBD
set_option maxHeartbeats 12800000 in
theorem rlink_any (h : List Int) (hl : Hid (h.length = 32)) (hb : Hid (bytesB h = true)) (o : OrdR) (hi : Hid (OrdI o)) (hs : OrdS o) (w : World) (hv : Hid (VarsD w)) (ho : Hid (OrdOk w o)) :
    Calls Tryd.prog 34 #[.agg (arr .u8 h), orV o] w fun e' w' => e' = .returned (.agg (arr .u8 (lnk h o))) ∧ Below w.heap.size w w' := by
  obtain ⟨RR, hRR⟩ : ∃ R, tagged (bys tagTl) (enc (lIt h o)) = R := ⟨_, rfl⟩
  rw [show lnk h o = tagged (bys tagTl) (enc (lIt h o)) from rfl, hRR]
  have HRR : Kp (tagged (bys tagTl) (enc (lIt h o)) = RR) := ⟨hRR⟩
  have HRL : Hid (RR.length = 32) := Lib.hid (by rw [← hRR]; exact tagged_len _ _)
  have HFIT : Hid (fits 8 (lIt h o)) := Lib.hid (fits_l hl.out hb.out hi.out hs)
  have HLEN : Hid ((enc (lIt h o)).length ≤ 16384) := Lib.hid (enc_l hl.out hs)
  clear hRR
  obtain ⟨E, hE⟩ : ∃ E, enc (lIt h o) = E := ⟨_, rfl⟩
  have HEB : Hid (bytesB E = true) := Lib.hid (by rw [← hE]; exact enc_bytes HFIT.out)
  have HEL : Hid (0 < E.length ∧ E.length ≤ 16384) := Lib.hid (by rw [← hE]; exact ⟨enc_pos _, HLEN.out⟩)
  have HEE : Kp (enc (lIt h o) = E) := ⟨hE⟩
  obtain ⟨nE, hnE⟩ : ∃ n, E.length = n := ⟨_, rfl⟩
  have HEN := Lib.hid hnE
  have he0 : 0 < nE := by rw [← hnE]; exact HEL.out.1
  have he1 : nE ≤ 16384 := by rw [← hnE]; exact HEL.out.2
  clear hE hnE
  obtain ⟨w0, hW⟩ : ∃ W, (((w.alloc (.cells (arr .u8 h) 42)).alloc (orO o)).alloc (.cells #[.int .u8 0, .int .u8 0, .int .u8 0, .int .u8 0, .int .u8 0, .int .u8 0, .int .u8 0, .int .u8 0, .int .u8 0, .int .u8 0, .int .u8 0, .int .u8 0, .int .u8 0, .int .u8 0, .int .u8 0, .int .u8 0, .int .u8 0, .int .u8 0, .int .u8 0, .int .u8 0, .int .u8 0, .int .u8 0, .int .u8 0, .int .u8 0, .int .u8 0, .int .u8 0, .int .u8 0, .int .u8 0, .int .u8 0, .int .u8 0, .int .u8 0, .int .u8 0] 42)) = W := ⟨_, rfl⟩
  have HBw : Hid (Below w.heap.size w w0) := Lib.hid (by rw [← hW]; exact (((Below.refl _ _).alloc (Nat.le_refl _) _).alloc (by simp) _).alloc (by simp; omega) _)
  have hc : w0.cell? ⟨w.heap.size + 1, 0, none⟩ = some (.int .i64 o.num) ∧ w0.cell? ⟨w.heap.size + 1, 1, none⟩ = some (.string o.rs) ∧ w0.cell? ⟨w.heap.size + 1, 2, none⟩ = some (.int .i64 o.E1) ∧ w0.cell? ⟨w.heap.size + 1, 3, none⟩ = some (.int .i64 o.E2) ∧ w0.cell? ⟨w.heap.size + 1, 4, none⟩ = some (.slice o.A o.na o.ca) ∧ w0.cell? ⟨w.heap.size + 1, 5, none⟩ = some (.int .i64 o.C) ∧ w0.cell? ⟨w.heap.size + 1, 6, none⟩ = some (.slice o.Z o.nz o.cz) ∧ w0.cell? ⟨w.heap.size + 1, 7, none⟩ = some (.slice o.L o.np o.cp) ∧ w0.cell? ⟨w.heap.size + 1, 8, none⟩ = some (.int .i64 o.key) := by rw [← hW]; exact ⟨cell_below (allocs_cell (by simp) (by rfl)) (below_box0 _ _), cell_below (allocs_cell (by simp) (by rfl)) (below_box0 _ _), cell_below (allocs_cell (by simp) (by rfl)) (below_box0 _ _), cell_below (allocs_cell (by simp) (by rfl)) (below_box0 _ _), cell_below (allocs_cell (by simp) (by rfl)) (below_box0 _ _), cell_below (allocs_cell (by simp) (by rfl)) (below_box0 _ _), cell_below (allocs_cell (by simp) (by rfl)) (below_box0 _ _), cell_below (allocs_cell (by simp) (by rfl)) (below_box0 _ _), cell_below (allocs_cell (by simp) (by rfl)) (below_box0 _ _)⟩
  have kC := Lib.hid (show ∀ u : World, Hid (Below w0.heap.size w0 u) → u.cell? ⟨w.heap.size + 1, 0, none⟩ = some (.int .i64 o.num) ∧ u.cell? ⟨w.heap.size + 1, 1, none⟩ = some (.string o.rs) ∧ u.cell? ⟨w.heap.size + 1, 2, none⟩ = some (.int .i64 o.E1) ∧ u.cell? ⟨w.heap.size + 1, 3, none⟩ = some (.int .i64 o.E2) ∧ u.cell? ⟨w.heap.size + 1, 4, none⟩ = some (.slice o.A o.na o.ca) ∧ u.cell? ⟨w.heap.size + 1, 5, none⟩ = some (.int .i64 o.C) ∧ u.cell? ⟨w.heap.size + 1, 6, none⟩ = some (.slice o.Z o.nz o.cz) ∧ u.cell? ⟨w.heap.size + 1, 7, none⟩ = some (.slice o.L o.np o.cp) ∧ u.cell? ⟨w.heap.size + 1, 8, none⟩ = some (.int .i64 o.key) from fun u h => ⟨cell_below hc.1 h.out, cell_below hc.2.1 h.out, cell_below hc.2.2.1 h.out, cell_below hc.2.2.2.1 h.out, cell_below hc.2.2.2.2.1 h.out, cell_below hc.2.2.2.2.2.1 h.out, cell_below hc.2.2.2.2.2.2.1 h.out, cell_below hc.2.2.2.2.2.2.2.1 h.out, cell_below hc.2.2.2.2.2.2.2.2 h.out⟩)
  have kO := Lib.hid (show ∀ u : World, Hid (Below w0.heap.size w0 u) → Hid (OrdOk u o) from fun u h => Lib.hid ((ho.out.below) (below_ext HBw.out h.out)))
  have kD := Lib.hid (show ∀ u : World, Hid (Below w0.heap.size w0 u) → Hid (VarsD u) from fun u h => Lib.hid ((hv.out.below) (below_ext HBw.out h.out)))
  have HB_0 : Hid (Below w0.heap.size w0 w0) := Lib.hid (Below.refl _ _)
  have HW := Lib.hid hW
  have kHB := Lib.hid (show ∀ u : World, Hid (Below w0.heap.size w0 u) → Hid (Blk .u8 42 u w.heap.size h) from fun u h9 => Lib.hid (Blk.below (by rw [← hW]; exact ((Blk.new w h).old _).old _) h9.out))
  have kRB := Lib.hid (show ∀ u : World, Hid (Below w0.heap.size w0 u) → Hid (Blk .u8 42 u (w.heap.size + 2) (zer 32)) from fun u h9 => Lib.hid (Blk.below (by rw [← hW, zarrh]; exact heap_alloc3_new _ _ _ _) h9.out))
  clear hW hc ho hv
  go_enter Tryd.func34, Tryd.ntmps34
  go_upto_region 1 with (fail)
  rw [HW.out]
  obtain ⟨zc0, zc1, zc2, zc3, zc4, zc5, zc6, zc7, zc8⟩ := kC.out _ HB_0
  have HSZ0 : Hid (w0.heap.size = w.heap.size + 3) := Lib.hid (by rw [← HW.out]; simp)
  have kHg := Lib.hid (show ∀ u : World, Hid (Below w0.heap.size w0 u) → Blk .u8 42 u w.heap.size h from fun u h9 => (kHB.out u h9).out)
  clear zc0 zc1 zc2 zc3 zc4 zc5 zc6 zc7 zc8
  have hBx := Lib.hid (show ∀ u u2 : World, Hid (Below w0.heap.size w0 u) → Below u.heap.size u u2 → Hid (Below w0.heap.size w0 u2) from fun u u2 h1 h2 => Lib.hid (below_ext h1.out h2))
  have hS := Lib.hid (show ∀ u : World, Hid (Below w0.heap.size w0 u) → (u.cell? ⟨w.heap.size + 1, 0, none⟩ = some (.int .i64 o.num) ∧ u.cell? ⟨w.heap.size + 1, 1, none⟩ = some (.string o.rs) ∧ u.cell? ⟨w.heap.size + 1, 2, none⟩ = some (.int .i64 o.E1) ∧ u.cell? ⟨w.heap.size + 1, 3, none⟩ = some (.int .i64 o.E2) ∧ u.cell? ⟨w.heap.size + 1, 4, none⟩ = some (.slice o.A o.na o.ca) ∧ u.cell? ⟨w.heap.size + 1, 5, none⟩ = some (.int .i64 o.C) ∧ u.cell? ⟨w.heap.size + 1, 6, none⟩ = some (.slice o.Z o.nz o.cz) ∧ u.cell? ⟨w.heap.size + 1, 7, none⟩ = some (.slice o.L o.np o.cp) ∧ u.cell? ⟨w.heap.size + 1, 8, none⟩ = some (.int .i64 o.key) ∧ Blk .u8 42 u w.heap.size h) from fun u h1 => by
    obtain ⟨y0, y1, y2, y3, y4, y5, y6, y7, y8⟩ := kC.out _ (Lib.hid h1.out)
    have kHg_0 := kHg.out _ (Lib.hid h1.out)
    exact ⟨y0, y1, y2, y3, y4, y5, y6, y7, y8, kHg_0⟩)
  have HBA : Hid (Below w0.heap.size w0 w0) := Lib.hid HB_0.out
  have HBD := hBx.out _ _ HBA (Below.refl _ _).drew
  refine wp_region_T (S := fun w' => w'.cell? ⟨w.heap.size + 1, 0, none⟩ = some (.int .i64 o.num) ∧ w'.cell? ⟨w.heap.size + 1, 1, none⟩ = some (.string o.rs) ∧ w'.cell? ⟨w.heap.size + 1, 2, none⟩ = some (.int .i64 o.E1) ∧ w'.cell? ⟨w.heap.size + 1, 3, none⟩ = some (.int .i64 o.E2) ∧ w'.cell? ⟨w.heap.size + 1, 4, none⟩ = some (.slice o.A o.na o.ca) ∧ w'.cell? ⟨w.heap.size + 1, 5, none⟩ = some (.int .i64 o.C) ∧ w'.cell? ⟨w.heap.size + 1, 6, none⟩ = some (.slice o.Z o.nz o.cz) ∧ w'.cell? ⟨w.heap.size + 1, 7, none⟩ = some (.slice o.L o.np o.cp) ∧ w'.cell? ⟨w.heap.size + 1, 8, none⟩ = some (.int .i64 o.key) ∧ Blk .u8 42 w' w.heap.size h) (E := [8]) (by kernel_rfl) (hS.out _ HBD) (fun hHeld => ?_)
  obtain ⟨wD, hwD⟩ : ∃ u, w0.drew = u := ⟨_, rfl⟩
  rw [hwD] at HBD hHeld ⊢
  have HSZD : Hid (w0.heap.size ≤ wD.heap.size) := Lib.hid (by rw [← hwD]; exact Nat.le_refl _)
  clear hwD
  refine wpT_take (i := 0) (oi := _) (v := (.agg (arr .u8 h))) rfl (by kernel_rfl) (by kernel_rfl) (by kernel_rfl) (by kernel_rfl) (fun _ _ _ h => h) (Or.inl ⟨by rfl, yields_row 42 _ rfl w.heap.size rfl _ _ _ _ (fun _ hq => hq.2.2.2.2.2.2.2.2.2) Tryd.underlying42 rfl (hash_info hl.out)⟩) (by assumption) ?_
  try simp only [qq1, qq2, qq3, Act.put, qq4, qq5, qq6]
  refine tkV 2 ?_
  try simp only [qq1, qq2, qq3, Act.put, qq4, qq5, qq6]
  refine wpT_frame (fun T a0 hT ha0 => ?_)
  clear hHeld
  have G1_3_4_5_6_7 : ∀ (cB_ : Ic) (cO : Ic) (gL : Nat) (gE : Nat) (cE : Nat) (u : World), (Hid (Below w0.heap.size w0 u)) → (Hid (ItS w0.heap.size u (.byt h) cB_)) → (Hid (ItS w0.heap.size u (oIt o) cO)) → (Hid (u.heap[gL]? = some (.cells #[.int .i64 cB_.kind, .int .i64 cB_.n, .slice cB_.B cB_.nb cB_.cb, .slice cB_.L cB_.nl cB_.cl, .int .i64 cO.kind, .int .i64 cO.n, .slice cO.B cO.nb cO.cb, .slice cO.L cO.nl cO.cl] 67))) → (Hid (w0.heap.size ≤ gL)) → (Hid (Sk .u8 u (some ⟨gE, 0, none⟩) E)) → T 1 #[true, true, true, true, true, true, true, true, false] ((((((a0.put (some 6) (.agg #[.int .i64 cB_.kind, .int .i64 cB_.n, .slice cB_.B cB_.nb cB_.cb, .slice cB_.L cB_.nl cB_.cl])).put (some 8) (.agg #[.int .i64 cO.kind, .int .i64 cO.n, .slice cO.B cO.nb cO.cb, .slice cO.L cO.nl cO.cl])).put (some 9) (.slice (some ⟨gL, 0, none⟩) 2 2)).put (some 10) (.agg #[.int .i64 3, .int .i64 (0), .slice none 0 0, .slice (some ⟨gL, 0, none⟩) 2 2])).put (some 11) (.slice (some ⟨gE, 0, none⟩) nE cE)).put (some 12) (.agg (arr .u8 RR))) u := by
    intro cB_ cO gL gE cE u FB HB HO FL FLl FE
    have hHeld := hS.out _ FB
    rw [hT, ha0]
    try simp only [qq1, qq2, qq3, Act.put, qq4, qq5, qq6]
    have HE_w0 := Lib.hid FB.out
    have FNIL := kRB.out _ (Lib.hid FB.out)
    refine wpT_pass (i := 8) (by kernel_rfl) (by simp) rfl (fun K hK => ?_)
    rw [show (if Region.wanted _ _ = true then _ else _ : Prop) = _ from if_pos rfl]
    refine wp_store_row 42 _ _ rfl (w.heap.size + 2) (arr .u8 RR) rfl rfl 42 _ FNIL.out (hash_info HRL.out) (arrs_sz (l := zer 32) rfl HRL.out) (arr_one _) ?_
    refine hK.out _ _ ?_
    clear hK K
    try simp only [qq1, qq2, qq3, Act.put, qq4, qq5, qq6]
    refine wpT_done (by kernel_rfl) ?_ _
    have hbF := below_setRow' (below_ext HBw.out FB.out) (cs := arr .u8 RR) (Nat.le_add_right w.heap.size 2)
    have hrw := FNIL.out.setRow (l' := RR)
    go_wp2
    exact bodyPost_ret (v := .agg (arr .u8 RR)) (results_cell1 (p := 4) (ty := 42) rfl _ _ ⟨w.heap.size + 2, 0, none⟩ _ rfl (run_loadVar_row _ _ _ _ _ _ _ hrw Tryd.underlying42 rfl (hash_info HRL.out))) rfl ⟨rfl, hbF⟩
  have G1_3_4_5_6 : ∀ (cB_ : Ic) (cO : Ic) (gL : Nat) (gE : Nat) (cE : Nat) (u : World), (Hid (Below w0.heap.size w0 u)) → (Hid (ItS w0.heap.size u (.byt h) cB_)) → (Hid (ItS w0.heap.size u (oIt o) cO)) → (Hid (u.heap[gL]? = some (.cells #[.int .i64 cB_.kind, .int .i64 cB_.n, .slice cB_.B cB_.nb cB_.cb, .slice cB_.L cB_.nl cB_.cl, .int .i64 cO.kind, .int .i64 cO.n, .slice cO.B cO.nb cO.cb, .slice cO.L cO.nl cO.cl] 67))) → (Hid (w0.heap.size ≤ gL)) → (Hid (Sk .u8 u (some ⟨gE, 0, none⟩) E)) → T 2 #[true, true, true, true, true, true, true, false, false] (((((a0.put (some 6) (.agg #[.int .i64 cB_.kind, .int .i64 cB_.n, .slice cB_.B cB_.nb cB_.cb, .slice cB_.L cB_.nl cB_.cl])).put (some 8) (.agg #[.int .i64 cO.kind, .int .i64 cO.n, .slice cO.B cO.nb cO.cb, .slice cO.L cO.nl cO.cl])).put (some 9) (.slice (some ⟨gL, 0, none⟩) 2 2)).put (some 10) (.agg #[.int .i64 3, .int .i64 (0), .slice none 0 0, .slice (some ⟨gL, 0, none⟩) 2 2])).put (some 11) (.slice (some ⟨gE, 0, none⟩) nE cE)) u := by
    intro cB_ cO gL gE cE u FB HB HO FL FLl FE
    have hHeld := hS.out _ FB
    rw [hT, ha0]
    try simp only [qq1, qq2, qq3, Act.put, qq4, qq5, qq6]
    refine wpT_one (i := 7) (by kernel_rfl) rfl (fun K hK => ?_)
    go_simp
    refine (rtagged_any tagTl (by decide) (by decide) gE 0 cE E nE HEN he0 (by omega) HEB _ FE).mono ?_
    rintro e wB ⟨rfl, hq⟩
    rw [← HEE.1, HRR.1]
    have FB2 := hBx.out _ _ FB hq
    refine hK.out _ _ ?_ (fun hHeld => ?_)
    · exact hS.out _ FB2
    clear hK K hHeld
    try simp only [qq1, qq2, qq3, Act.put, qq4, qq5, qq6]
    have hG := G1_3_4_5_6_7 cB_ cO gL gE cE wB FB2 (Lib.hid (HB.out.kept hq)) (Lib.hid (HO.out.kept hq)) (Lib.hid (blk_below FL.out hq)) (FLl) (Lib.hid (FE.out.below hq))
    rw [hT, ha0] at hG
    (try simp only [qq1, qq2, qq3, Act.put, qq4, qq5, qq6] at hG)
    exact hG
  have G1_3_4_5 : ∀ (cB_ : Ic) (cO : Ic) (gL : Nat) (u : World), (Hid (Below w0.heap.size w0 u)) → (Hid (ItS w0.heap.size u (.byt h) cB_)) → (Hid (ItS w0.heap.size u (oIt o) cO)) → (Hid (u.heap[gL]? = some (.cells #[.int .i64 cB_.kind, .int .i64 cB_.n, .slice cB_.B cB_.nb cB_.cb, .slice cB_.L cB_.nl cB_.cl, .int .i64 cO.kind, .int .i64 cO.n, .slice cO.B cO.nb cO.cb, .slice cO.L cO.nl cO.cl] 67))) → (Hid (w0.heap.size ≤ gL)) → T 3 #[true, true, true, true, true, true, false, false, false] ((((a0.put (some 6) (.agg #[.int .i64 cB_.kind, .int .i64 cB_.n, .slice cB_.B cB_.nb cB_.cb, .slice cB_.L cB_.nl cB_.cl])).put (some 8) (.agg #[.int .i64 cO.kind, .int .i64 cO.n, .slice cO.B cO.nb cO.cb, .slice cO.L cO.nl cO.cl])).put (some 9) (.slice (some ⟨gL, 0, none⟩) 2 2)).put (some 10) (.agg #[.int .i64 3, .int .i64 (0), .slice none 0 0, .slice (some ⟨gL, 0, none⟩) 2 2])) u := by
    intro cB_ cO gL u FB HB HO FL FLl
    have hHeld := hS.out _ FB
    rw [hT, ha0]
    try simp only [qq1, qq2, qq3, Act.put, qq4, qq5, qq6]
    refine wpT_one (i := 6) (by kernel_rfl) rfl (fun K hK => ?_)
    go_simp
    have hit : ItR u (lIt h o) (Ic.mk 3 0 none 0 0 (some ⟨gL, 0, none⟩) 2 2) := itr_blk (fun k => match k with | 0 => cB_ | _ => cO) FL.out rfl (fun k hk => by
        rcases (show k = 0 ∨ k = 1 by omega) with rfl | rfl <;> exact ⟨rfl, rfl, rfl, rfl⟩) (fun k hk => by
        rcases (show k = 0 ∨ k = 1 by omega) with rfl | rfl
        · exact HB.out.it
        · exact HO.out.it)
    refine (renc_any 8 (lIt h o) (Ic.mk 3 0 none 0 0 (some ⟨gL, 0, none⟩) 2 2) _ HFIT.out hit HLEN.out).mono ?_
    rintro e wB ⟨v4, rfl, ho4, hq⟩
    rw [HEE.1] at ho4
    obtain ⟨g4, cap4, e4, hg4, -, -, hsk4⟩ := ho4.cells HEL.out.1
    rw [HEN.out] at e4
    subst e4
    clear hit ho4
    have FB2 := hBx.out _ _ FB hq
    refine hK.out _ _ ?_ (fun hHeld => ?_)
    · exact hS.out _ FB2
    clear hK K hHeld
    try simp only [qq1, qq2, qq3, Act.put, qq4, qq5, qq6]
    have hG := G1_3_4_5_6 cB_ cO gL g4 cap4 wB FB2 (Lib.hid (HB.out.kept hq)) (Lib.hid (HO.out.kept hq)) (Lib.hid (blk_below FL.out hq)) (FLl) (Lib.hid hsk4)
    rw [hT, ha0] at hG
    (try simp only [qq1, qq2, qq3, Act.put, qq4, qq5, qq6] at hG)
    exact hG
  have G1_3_4 : ∀ (cB_ : Ic) (cO : Ic) (gL : Nat) (u : World), (Hid (Below w0.heap.size w0 u)) → (Hid (ItS w0.heap.size u (.byt h) cB_)) → (Hid (ItS w0.heap.size u (oIt o) cO)) → (Hid (u.heap[gL]? = some (.cells #[.int .i64 cB_.kind, .int .i64 cB_.n, .slice cB_.B cB_.nb cB_.cb, .slice cB_.L cB_.nl cB_.cl, .int .i64 cO.kind, .int .i64 cO.n, .slice cO.B cO.nb cO.cb, .slice cO.L cO.nl cO.cl] 67))) → (Hid (w0.heap.size ≤ gL)) → T 4 #[true, true, true, true, true, false, false, false, false] (((a0.put (some 6) (.agg #[.int .i64 cB_.kind, .int .i64 cB_.n, .slice cB_.B cB_.nb cB_.cb, .slice cB_.L cB_.nl cB_.cl])).put (some 8) (.agg #[.int .i64 cO.kind, .int .i64 cO.n, .slice cO.B cO.nb cO.cb, .slice cO.L cO.nl cO.cl])).put (some 9) (.slice (some ⟨gL, 0, none⟩) 2 2)) u := by
    intro cB_ cO gL u FB HB HO FL FLl
    have hHeld := hS.out _ FB
    rw [hT, ha0]
    try simp only [qq1, qq2, qq3, Act.put, qq4, qq5, qq6]
    refine wpT_one (i := 5) (by kernel_rfl) rfl (fun K hK => ?_)
    go_simp
    refine (rlist_it (some ⟨gL, 0, none⟩) 2 2 _).mono ?_
    rintro e wB ⟨rfl, hq⟩
    have FB2 := hBx.out _ _ FB hq
    refine hK.out _ _ ?_ (fun hHeld => ?_)
    · exact hS.out _ FB2
    clear hK K hHeld
    try simp only [qq1, qq2, qq3, Act.put, qq4, qq5, qq6]
    have hG := G1_3_4_5 cB_ cO gL wB FB2 (Lib.hid (HB.out.kept hq)) (Lib.hid (HO.out.kept hq)) (Lib.hid (blk_below FL.out hq)) (FLl)
    rw [hT, ha0] at hG
    (try simp only [qq1, qq2, qq3, Act.put, qq4, qq5, qq6] at hG)
    exact hG
  have G1_3 : ∀ (cB_ : Ic) (cO : Ic) (u : World), (Hid (Below w0.heap.size w0 u)) → (Hid (ItS w0.heap.size u (.byt h) cB_)) → (Hid (ItS w0.heap.size u (oIt o) cO)) → T 5 #[true, true, true, true, false, false, false, false, false] ((a0.put (some 6) (.agg #[.int .i64 cB_.kind, .int .i64 cB_.n, .slice cB_.B cB_.nb cB_.cb, .slice cB_.L cB_.nl cB_.cl])).put (some 8) (.agg #[.int .i64 cO.kind, .int .i64 cO.n, .slice cO.B cO.nb cO.cb, .slice cO.L cO.nl cO.cl])) u := by
    intro cB_ cO u FB HB HO
    have hHeld := hS.out _ FB
    rw [hT, ha0]
    try simp only [qq1, qq2, qq3, Act.put, qq4, qq5, qq6]
    refine wpT_one (i := 4) (by kernel_rfl) rfl (fun K hK => ?_)
    go_simp
    have FB2 := hBx.out _ _ FB (below_box0 u (.cells #[.int .i64 cB_.kind, .int .i64 cB_.n, .slice cB_.B cB_.nb cB_.cb, .slice cB_.L cB_.nl cB_.cl, .int .i64 cO.kind, .int .i64 cO.n, .slice cO.B cO.nb cO.cb, .slice cO.L cO.nl cO.cl] 67))
    refine hK.out _ _ ?_ (fun hHeld => ?_)
    · exact hS.out _ FB2
    clear hK K hHeld
    try simp only [qq1, qq2, qq3, Act.put, qq4, qq5, qq6]
    have hG := G1_3_4 cB_ cO u.heap.size (u.alloc (.cells #[.int .i64 cB_.kind, .int .i64 cB_.n, .slice cB_.B cB_.nb cB_.cb, .slice cB_.L cB_.nl cB_.cl, .int .i64 cO.kind, .int .i64 cO.n, .slice cO.B cO.nb cO.cb, .slice cO.L cO.nl cO.cl] 67)) FB2 (Lib.hid (HB.out.kept (below_box0 u (.cells #[.int .i64 cB_.kind, .int .i64 cB_.n, .slice cB_.B cB_.nb cB_.cb, .slice cB_.L cB_.nl cB_.cl, .int .i64 cO.kind, .int .i64 cO.n, .slice cO.B cO.nb cO.cb, .slice cO.L cO.nl cO.cl] 67)))) (Lib.hid (HO.out.kept (below_box0 u (.cells #[.int .i64 cB_.kind, .int .i64 cB_.n, .slice cB_.B cB_.nb cB_.cb, .slice cB_.L cB_.nl cB_.cl, .int .i64 cO.kind, .int .i64 cO.n, .slice cO.B cO.nb cO.cb, .slice cO.L cO.nl cO.cl] 67)))) (Lib.hid (heap_alloc_new u _)) (Lib.hid (by have := FB.out.size; omega))
    rw [hT, ha0] at hG
    (try simp only [qq1, qq2, qq3, Act.put, qq4, qq5, qq6] at hG)
    exact hG
  have G1 : ∀ (cB_ : Ic) (u : World), (Hid (Below w0.heap.size w0 u)) → (Hid (ItS w0.heap.size u (.byt h) cB_)) → T 6 #[true, true, true, false, false, false, false, false, false] (a0.put (some 6) (.agg #[.int .i64 cB_.kind, .int .i64 cB_.n, .slice cB_.B cB_.nb cB_.cb, .slice cB_.L cB_.nl cB_.cl])) u := by
    intro cB_ u FB HB
    have hHeld := hS.out _ FB
    rw [hT, ha0]
    try simp only [qq1, qq2, qq3, Act.put, qq4, qq5, qq6]
    refine wpT_one (i := 3) (by kernel_rfl) rfl (fun K hK => ?_)
    go_simp
    refine (ritem_any o hs _ (kO.out _ (Lib.hid FB.out))).mono ?_
    rintro e wB ⟨cB, rfl, hit, hq⟩
    have FB2 := hBx.out _ _ FB hq
    refine hK.out _ _ ?_ (fun hHeld => ?_)
    · exact hS.out _ FB2
    clear hK K hHeld
    try simp only [qq1, qq2, qq3, Act.put, qq4, qq5, qq6]
    have hG := G1_3 cB_ cB wB FB2 (Lib.hid (HB.out.kept hq)) (Lib.hid (hit.mono (by have := FB.out.size; omega)))
    rw [hT, ha0] at hG
    (try simp only [qq1, qq2, qq3, Act.put, qq4, qq5, qq6] at hG)
    exact hG
  have G0 : ∀  (u : World), (Hid (Below w0.heap.size w0 u)) → T 7 #[true, false, true, false, false, false, false, false, false] a0 u := by
    intro  u FB
    have hHeld := hS.out _ FB
    rw [hT, ha0]
    try simp only [qq1, qq2, qq3, Act.put, qq4, qq5, qq6]
    refine wpT_one (i := 1) (by kernel_rfl) rfl (fun K hK => ?_)
    go_simp
    refine (r31bytes_any h hl _).mono ?_
    rintro e wB ⟨cB, rfl, hit, hq⟩
    have FB2 := hBx.out _ _ FB hq
    refine hK.out _ _ ?_ (fun hHeld => ?_)
    · exact hS.out _ FB2
    clear hK K hHeld
    try simp only [qq1, qq2, qq3, Act.put, qq4, qq5, qq6]
    have hG := G1 cB wB FB2 (Lib.hid (hit.mono (by have := FB.out.size; omega)))
    rw [hT, ha0] at hG
    (try simp only [qq1, qq2, qq3, Act.put, qq4, qq5, qq6] at hG)
    exact hG
  exact G0 _ HBD
set_option maxHeartbeats 12800000 in
theorem same51_any (O1 : Option Addr) (os1 : List OrdR) (c1 : Nat) (K1 : Option Addr) (d1 : Nat) (O2 : Option Addr) (os2 : List OrdR) (c2 : Nat) (K2 : Option Addr) (d2 : Nat) (n : Nat) (hs : List (List Int)) (m : Nat) (hn1 : Hid (os1.length = n)) (hn2 : Hid (os2.length = n)) (hm : Hid (hs.length = m)) (hb1 : n ≤ 1000000) (hb2 : m ≤ 1000000) (hS : Hid (∀ k, k < n → OrdS (orL os1 k) ∧ OrdS (orL os2 k) ∧ OrdI (orL os1 k) ∧ oIt (orL os1 k) = oIt (orL os2 k))) (w : World) (hO1 : Hid (Os w O1 os1)) (hK1 : Hid (Hs w K1 hs)) (hO2 : Hid (Os w O2 os2)) (hK2 : Hid (Hs w K2 hs)) :
    Calls Tryd.prog 20 #[tlV O1 n c1 K1 m d1, tlV O2 n c2 K2 m d2] w fun e' w' => e' = .returned (.bool true) ∧ Below w.heap.size w w' := by
  obtain ⟨w0, hW⟩ : ∃ W, ((w.alloc (tlO O1 n c1 K1 m d1)).alloc (tlO O2 n c2 K2 m d2)) = W := ⟨_, rfl⟩
  have HBw : Hid (Below w.heap.size w w0) := Lib.hid (by rw [← hW]; exact below_two (Below.refl _ _))
  have hc : w0.cell? ⟨w.heap.size, 0, none⟩ = some (.slice O1 n c1) ∧ w0.cell? ⟨w.heap.size, 1, none⟩ = some (.slice K1 m d1) ∧ w0.cell? ⟨w.heap.size + 1, 0, none⟩ = some (.slice O2 n c2) ∧ w0.cell? ⟨w.heap.size + 1, 1, none⟩ = some (.slice K2 m d2) := by rw [← hW]; exact ⟨cell_below (allocs_cell (by simp) (by rfl)) (below_box0 _ _), cell_below (allocs_cell (by simp) (by rfl)) (below_box0 _ _), allocs_cell (by simp) (by rfl), allocs_cell (by simp) (by rfl)⟩
  have kC := Lib.hid (show ∀ u : World, Hid (Below w0.heap.size w0 u) → u.cell? ⟨w.heap.size, 0, none⟩ = some (.slice O1 n c1) ∧ u.cell? ⟨w.heap.size, 1, none⟩ = some (.slice K1 m d1) ∧ u.cell? ⟨w.heap.size + 1, 0, none⟩ = some (.slice O2 n c2) ∧ u.cell? ⟨w.heap.size + 1, 1, none⟩ = some (.slice K2 m d2) from fun u h => ⟨cell_below hc.1 h.out, cell_below hc.2.1 h.out, cell_below hc.2.2.1 h.out, cell_below hc.2.2.2 h.out⟩)
  have kO1 := Lib.hid (show ∀ u : World, Hid (Below w0.heap.size w0 u) → Hid (Os u O1 os1) from fun u h => Lib.hid ((hO1.out.below) (below_ext HBw.out h.out)))
  have kH1 := Lib.hid (show ∀ u : World, Hid (Below w0.heap.size w0 u) → Hid (Hs u K1 hs) from fun u h => Lib.hid ((hK1.out.below) (below_ext HBw.out h.out)))
  have kO2 := Lib.hid (show ∀ u : World, Hid (Below w0.heap.size w0 u) → Hid (Os u O2 os2) from fun u h => Lib.hid ((hO2.out.below) (below_ext HBw.out h.out)))
  have kH2 := Lib.hid (show ∀ u : World, Hid (Below w0.heap.size w0 u) → Hid (Hs u K2 hs) from fun u h => Lib.hid ((hK2.out.below) (below_ext HBw.out h.out)))
  have HB_0 : Hid (Below w0.heap.size w0 w0) := Lib.hid (Below.refl _ _)
  have HW := Lib.hid hW
  clear hW hc hO1 hK1 hO2 hK2
  go_enter Tryd.func20, Tryd.ntmps20
  go_upto_region 1 with (fail)
  rw [HW.out]
  obtain ⟨zc0, zc1, zc2, zc3⟩ := kC.out _ HB_0
  go_wp2
  clear zc0 zc1 zc2 zc3
  go_loopw [5] (fun i u => ∃ k : Nat, k ≤ n ∧ i = .int .i64 k ∧ Hid (Below w0.heap.size w0 u)) (fun i _ => n - (intOf i).toNat)
  case atStart => exact ⟨0, by omega, rfl, Lib.hid (Below.refl _ _)⟩
  case round =>
    obtain ⟨k, hk, rfl, HBr⟩ := hrel
    by_cases hlt : k < n
    · skip
      obtain ⟨a1, f1, e1, q1, ok1⟩ := ((kO1.out _ HBr)).out k (by rw [hn1.out]; exact hlt)
      obtain ⟨a2, f2, e2, q2, ok2⟩ := ((kO2.out _ HBr)).out k (by rw [hn2.out]; exact hlt)
      subst e1
      subst e2
      obtain ⟨s1, s2, s3, s4⟩ := hS.out k hlt
      obtain ⟨o1, ho1⟩ : ∃ x, orL os1 k = x := ⟨_, rfl⟩
      obtain ⟨o2, ho2⟩ : ∃ x, orL os2 k = x := ⟨_, rfl⟩
      rw [show os1.getD k noOrd = o1 from ho1] at q1 ok1
      rw [show os2.getD k noOrd = o2 from ho2] at q2 ok2
      rw [ho1, ho2] at s4
      rw [ho1] at s1 s3
      rw [ho2] at s2
      have HQ1 := Lib.hid q1
      have HQ2 := Lib.hid q2
      have HOK1 := Lib.hid ok1
      have HOK2 := Lib.hid ok2
      have HFT := Lib.hid (fits_o s3 s1)
      have HEQ := Lib.hid s4
      clear q1 q2 ok1 ok2 ho1 ho2 s3 s4
      have HB_wr_0 : Hid (Below wr.heap.size wr wr) := Lib.hid (Below.refl _ _)
      have kE := Lib.hid (show ∀ u : World, Hid (Below wr.heap.size wr u) → u.cell? ⟨a1, f1 + k * 9, none⟩ = some (.int .i64 o1.num) ∧ u.cell? ⟨a1, f1 + k * 9 + 1, none⟩ = some (.string o1.rs) ∧ u.cell? ⟨a1, f1 + k * 9 + 2, none⟩ = some (.int .i64 o1.E1) ∧ u.cell? ⟨a1, f1 + k * 9 + 3, none⟩ = some (.int .i64 o1.E2) ∧ u.cell? ⟨a1, f1 + k * 9 + 4, none⟩ = some (.slice o1.A o1.na o1.ca) ∧ u.cell? ⟨a1, f1 + k * 9 + 5, none⟩ = some (.int .i64 o1.C) ∧ u.cell? ⟨a1, f1 + k * 9 + 6, none⟩ = some (.slice o1.Z o1.nz o1.cz) ∧ u.cell? ⟨a1, f1 + k * 9 + 7, none⟩ = some (.slice o1.L o1.np o1.cp) ∧ u.cell? ⟨a1, f1 + k * 9 + 8, none⟩ = some (.int .i64 o1.key) ∧ u.cell? ⟨a2, f2 + k * 9, none⟩ = some (.int .i64 o2.num) ∧ u.cell? ⟨a2, f2 + k * 9 + 1, none⟩ = some (.string o2.rs) ∧ u.cell? ⟨a2, f2 + k * 9 + 2, none⟩ = some (.int .i64 o2.E1) ∧ u.cell? ⟨a2, f2 + k * 9 + 3, none⟩ = some (.int .i64 o2.E2) ∧ u.cell? ⟨a2, f2 + k * 9 + 4, none⟩ = some (.slice o2.A o2.na o2.ca) ∧ u.cell? ⟨a2, f2 + k * 9 + 5, none⟩ = some (.int .i64 o2.C) ∧ u.cell? ⟨a2, f2 + k * 9 + 6, none⟩ = some (.slice o2.Z o2.nz o2.cz) ∧ u.cell? ⟨a2, f2 + k * 9 + 7, none⟩ = some (.slice o2.L o2.np o2.cp) ∧ u.cell? ⟨a2, f2 + k * 9 + 8, none⟩ = some (.int .i64 o2.key) from fun u h => by
        obtain ⟨r0, r1, r2, r3, r4, r5, r6, r7, r8⟩ := HQ1.out.below h.out
        obtain ⟨s0, s1, s2, s3, s4, s5, s6, s7, s8⟩ := HQ2.out.below h.out
        exact ⟨r0, r1, r2, r3, r4, r5, r6, r7, r8, s0, s1, s2, s3, s4, s5, s6, s7, s8⟩)
      have kOK1 := Lib.hid (show ∀ u : World, Hid (Below wr.heap.size wr u) → Hid (OrdOk u o1) from fun u h => Lib.hid (HOK1.out.below h.out))
      have kOK2 := Lib.hid (show ∀ u : World, Hid (Below wr.heap.size wr u) → Hid (OrdOk u o2) from fun u h => Lib.hid (HOK2.out.below h.out))
      obtain ⟨zc0, zc1, zc2, zc3⟩ := kC.out _ HBr
      obtain ⟨kE_0, kE_1, kE_2, kE_3, kE_4, kE_5, kE_6, kE_7, kE_8, kE_9, kE_10, kE_11, kE_12, kE_13, kE_14, kE_15, kE_16, kE_17⟩ := kE.out _ HB_wr_0
      go_upto_region 6 with (fail)
      clear zc0 zc1 zc2 zc3 kE_0 kE_1 kE_2 kE_3 kE_4 kE_5 kE_6 kE_7 kE_8 kE_9 kE_10 kE_11 kE_12 kE_13 kE_14 kE_15 kE_16 kE_17
      have hBx1 := Lib.hid (show ∀ u u2 : World, Hid (Below w0.heap.size w0 u ∧ Below wr.heap.size wr u) → Below u.heap.size u u2 → Hid (Below w0.heap.size w0 u2 ∧ Below wr.heap.size wr u2) from fun u u2 h1 h2 => Lib.hid ⟨(below_ext h1.out.1 h2), (below_ext h1.out.2 h2)⟩)
      have hS1 := Lib.hid (show ∀ u : World, Hid (Below w0.heap.size w0 u ∧ Below wr.heap.size wr u) → (u.cell? ⟨w.heap.size, 0, none⟩ = some (.slice (some ⟨a1, f1, none⟩) n c1) ∧ u.cell? ⟨w.heap.size, 1, none⟩ = some (.slice K1 m d1) ∧ u.cell? ⟨w.heap.size + 1, 0, none⟩ = some (.slice (some ⟨a2, f2, none⟩) n c2) ∧ u.cell? ⟨w.heap.size + 1, 1, none⟩ = some (.slice K2 m d2) ∧ u.cell? ⟨a1, f1 + k * 9, none⟩ = some (.int .i64 o1.num) ∧ u.cell? ⟨a1, f1 + k * 9 + 1, none⟩ = some (.string o1.rs) ∧ u.cell? ⟨a1, f1 + k * 9 + 2, none⟩ = some (.int .i64 o1.E1) ∧ u.cell? ⟨a1, f1 + k * 9 + 3, none⟩ = some (.int .i64 o1.E2) ∧ u.cell? ⟨a1, f1 + k * 9 + 4, none⟩ = some (.slice o1.A o1.na o1.ca) ∧ u.cell? ⟨a1, f1 + k * 9 + 5, none⟩ = some (.int .i64 o1.C) ∧ u.cell? ⟨a1, f1 + k * 9 + 6, none⟩ = some (.slice o1.Z o1.nz o1.cz) ∧ u.cell? ⟨a1, f1 + k * 9 + 7, none⟩ = some (.slice o1.L o1.np o1.cp) ∧ u.cell? ⟨a1, f1 + k * 9 + 8, none⟩ = some (.int .i64 o1.key) ∧ u.cell? ⟨a2, f2 + k * 9, none⟩ = some (.int .i64 o2.num) ∧ u.cell? ⟨a2, f2 + k * 9 + 1, none⟩ = some (.string o2.rs) ∧ u.cell? ⟨a2, f2 + k * 9 + 2, none⟩ = some (.int .i64 o2.E1) ∧ u.cell? ⟨a2, f2 + k * 9 + 3, none⟩ = some (.int .i64 o2.E2) ∧ u.cell? ⟨a2, f2 + k * 9 + 4, none⟩ = some (.slice o2.A o2.na o2.ca) ∧ u.cell? ⟨a2, f2 + k * 9 + 5, none⟩ = some (.int .i64 o2.C) ∧ u.cell? ⟨a2, f2 + k * 9 + 6, none⟩ = some (.slice o2.Z o2.nz o2.cz) ∧ u.cell? ⟨a2, f2 + k * 9 + 7, none⟩ = some (.slice o2.L o2.np o2.cp) ∧ u.cell? ⟨a2, f2 + k * 9 + 8, none⟩ = some (.int .i64 o2.key) ∧ Hid (Below w0.heap.size w0 u ∧ Below wr.heap.size wr u)) from fun u h1 => by
        obtain ⟨y0, y1, y2, y3⟩ := kC.out _ (Lib.hid h1.out.1)
        obtain ⟨kE_0, kE_1, kE_2, kE_3, kE_4, kE_5, kE_6, kE_7, kE_8, kE_9, kE_10, kE_11, kE_12, kE_13, kE_14, kE_15, kE_16, kE_17⟩ := kE.out _ (Lib.hid h1.out.2)
        exact ⟨y0, y1, y2, y3, kE_0, kE_1, kE_2, kE_3, kE_4, kE_5, kE_6, kE_7, kE_8, kE_9, kE_10, kE_11, kE_12, kE_13, kE_14, kE_15, kE_16, kE_17, h1⟩)
      have HBA1 : Hid (Below w0.heap.size w0 wr ∧ Below wr.heap.size wr wr) := Lib.hid ⟨HBr.out, HB_wr_0.out⟩
      refine wp_region_T (S := fun w' => w'.cell? ⟨w.heap.size, 0, none⟩ = some (.slice (some ⟨a1, f1, none⟩) n c1) ∧ w'.cell? ⟨w.heap.size, 1, none⟩ = some (.slice K1 m d1) ∧ w'.cell? ⟨w.heap.size + 1, 0, none⟩ = some (.slice (some ⟨a2, f2, none⟩) n c2) ∧ w'.cell? ⟨w.heap.size + 1, 1, none⟩ = some (.slice K2 m d2) ∧ w'.cell? ⟨a1, f1 + k * 9, none⟩ = some (.int .i64 o1.num) ∧ w'.cell? ⟨a1, f1 + k * 9 + 1, none⟩ = some (.string o1.rs) ∧ w'.cell? ⟨a1, f1 + k * 9 + 2, none⟩ = some (.int .i64 o1.E1) ∧ w'.cell? ⟨a1, f1 + k * 9 + 3, none⟩ = some (.int .i64 o1.E2) ∧ w'.cell? ⟨a1, f1 + k * 9 + 4, none⟩ = some (.slice o1.A o1.na o1.ca) ∧ w'.cell? ⟨a1, f1 + k * 9 + 5, none⟩ = some (.int .i64 o1.C) ∧ w'.cell? ⟨a1, f1 + k * 9 + 6, none⟩ = some (.slice o1.Z o1.nz o1.cz) ∧ w'.cell? ⟨a1, f1 + k * 9 + 7, none⟩ = some (.slice o1.L o1.np o1.cp) ∧ w'.cell? ⟨a1, f1 + k * 9 + 8, none⟩ = some (.int .i64 o1.key) ∧ w'.cell? ⟨a2, f2 + k * 9, none⟩ = some (.int .i64 o2.num) ∧ w'.cell? ⟨a2, f2 + k * 9 + 1, none⟩ = some (.string o2.rs) ∧ w'.cell? ⟨a2, f2 + k * 9 + 2, none⟩ = some (.int .i64 o2.E1) ∧ w'.cell? ⟨a2, f2 + k * 9 + 3, none⟩ = some (.int .i64 o2.E2) ∧ w'.cell? ⟨a2, f2 + k * 9 + 4, none⟩ = some (.slice o2.A o2.na o2.ca) ∧ w'.cell? ⟨a2, f2 + k * 9 + 5, none⟩ = some (.int .i64 o2.C) ∧ w'.cell? ⟨a2, f2 + k * 9 + 6, none⟩ = some (.slice o2.Z o2.nz o2.cz) ∧ w'.cell? ⟨a2, f2 + k * 9 + 7, none⟩ = some (.slice o2.L o2.np o2.cp) ∧ w'.cell? ⟨a2, f2 + k * 9 + 8, none⟩ = some (.int .i64 o2.key) ∧ Hid (Below w0.heap.size w0 w' ∧ Below wr.heap.size wr w')) (E := []) (by kernel_rfl) (hS1.out _ (hBx1.out _ _ HBA1 ((Below.refl _ _).drew))) (fun hHeld => ?_)
      refine tkV 0 ?_
      try simp only [qq1, qq2, qq3, Act.put, qq4, qq5, qq6]
      refine tkV 1 ?_
      try simp only [qq1, qq2, qq3, Act.put, qq4, qq5, qq6]
      refine tkV 2 ?_
      try simp only [qq1, qq2, qq3, Act.put, qq4, qq5, qq6]
      refine tkV 3 ?_
      try simp only [qq1, qq2, qq3, Act.put, qq4, qq5, qq6]
      refine tkV 4 ?_
      try simp only [qq1, qq2, qq3, Act.put, qq4, qq5, qq6]
      refine tkV 6 ?_
      try simp only [qq1, qq2, qq3, Act.put, qq4, qq5, qq6]
      refine tkV 7 ?_
      try simp only [qq1, qq2, qq3, Act.put, qq4, qq5, qq6]
      refine tkV 8 ?_
      try simp only [qq1, qq2, qq3, Act.put, qq4, qq5, qq6]
      refine tkV 9 ?_
      try simp only [qq1, qq2, qq3, Act.put, qq4, qq5, qq6]
      refine tkV 10 ?_
      try simp only [qq1, qq2, qq3, Act.put, qq4, qq5, qq6]
      refine wpT_one (i := 5) (by kernel_rfl) rfl (fun K hK => ?_)
      go_simp
      refine (ritem_any o1 s1 _ (kOK1.out _ (Lib.hid (hHeld.2.2.2.2.2.2.2.2.2.2.2.2.2.2.2.2.2.2.2.2.2.2).out.2))).mono ?_
      rintro e wA ⟨y1, rfl, hi1, hbA⟩
      refine hK.out _ _ ?_ (fun hHeld => ?_)
      · exact hS1.out _ (hBx1.out _ _ hHeld.2.2.2.2.2.2.2.2.2.2.2.2.2.2.2.2.2.2.2.2.2.2 hbA)
      clear hK K
      try simp only [qq1, qq2, qq3, Act.put, qq4, qq5, qq6]
      refine wpT_one (i := 11) (by kernel_rfl) rfl (fun K hK => ?_)
      go_simp
      refine (ritem_any o2 s2 _ (kOK2.out _ (Lib.hid (hHeld.2.2.2.2.2.2.2.2.2.2.2.2.2.2.2.2.2.2.2.2.2.2).out.2))).mono ?_
      rintro e wA ⟨y2, rfl, hi2, hbA⟩
      have hi1 := hi1.kept hbA
      rw [HEQ.out] at hi1
      refine hK.out _ _ ?_ (fun hHeld => ?_)
      · exact hS1.out _ (hBx1.out _ _ hHeld.2.2.2.2.2.2.2.2.2.2.2.2.2.2.2.2.2.2.2.2.2.2 hbA)
      clear hK K
      try simp only [qq1, qq2, qq3, Act.put, qq4, qq5, qq6]
      refine wpT_one (i := 12) (by kernel_rfl) rfl (fun K hK => ?_)
      go_simp
      refine (same07_any 4 (oIt o2) y1 y2 _ (by rw [← HEQ.out]; exact HFT.out) hi1.it hi2.it).mono ?_
      rintro e wA ⟨rfl, hbA⟩
      refine hK.out _ _ ?_ (fun hHeld => ?_)
      · exact hS1.out _ (hBx1.out _ _ hHeld.2.2.2.2.2.2.2.2.2.2.2.2.2.2.2.2.2.2.2.2.2.2 hbA)
      clear hK K
      try simp only [qq1, qq2, qq3, Act.put, qq4, qq5, qq6]
      refine tkV 13 ?_
      try simp only [qq1, qq2, qq3, Act.put, qq4, qq5, qq6]
      refine wpT_done (by kernel_rfl) ?_ _
      obtain ⟨x0, x1, x2, x3, x4, x5, x6, x7, x8, x9, x10, x11, x12, x13, x14, x15, x16, x17, x18, x19, x20, x21, FB1⟩ := hHeld
      clear x0 x1 x2 x3 x4 x5 x6 x7 x8 x9 x10 x11 x12 x13 x14 x15 x16 x17 x18 x19 x20 x21 hS1 hBx1 HBA1
      have HL1_w0 := Lib.hid FB1.out.1
      have HL1_wr := Lib.hid FB1.out.2
      obtain ⟨zc0, zc1, zc2, zc3⟩ := kC.out _ HL1_w0
      obtain ⟨kE_0, kE_1, kE_2, kE_3, kE_4, kE_5, kE_6, kE_7, kE_8, kE_9, kE_10, kE_11, kE_12, kE_13, kE_14, kE_15, kE_16, kE_17⟩ := kE.out _ HL1_wr
      have HBN := HL1_w0
      clear zc0 zc1 zc2 zc3 kE_0 kE_1 kE_2 kE_3 kE_4 kE_5 kE_6 kE_7 kE_8 kE_9 kE_10 kE_11 kE_12 kE_13 kE_14 kE_15 kE_16 kE_17
      go_wp2
      go_roundw
      case rel => exact ⟨k + 1, by omega, by go_num, HBN⟩
      case measure => simp [intOf]; omega
    · skip
      have hke : k = n := by omega
      obtain ⟨wo, rfl⟩ : ∃ wo : World, wo = wr := ⟨_, rfl⟩
      obtain ⟨zc0, zc1, zc2, zc3⟩ := kC.out _ HBr
      go_wp2
      clear zc0 zc1 zc2 zc3
      go_loopw [6] (fun i u => ∃ k : Nat, k ≤ m ∧ i = .int .i64 k ∧ Hid (Below w0.heap.size w0 u)) (fun i _ => m - (intOf i).toNat)
      case atStart => exact ⟨0, by omega, rfl, HBr⟩
      case round =>
        obtain ⟨j, hj, rfl, HBs⟩ := hrel
        by_cases hlj : j < m
        · skip
          obtain ⟨a1, f1, e1, q1, g1⟩ := ((kH1.out _ HBs)).out j (by rw [hm.out]; exact hlj)
          obtain ⟨a2, f2, e2, q2, g2⟩ := ((kH2.out _ HBs)).out j (by rw [hm.out]; exact hlj)
          subst e1
          subst e2
          obtain ⟨hj9, hhj⟩ : ∃ x, hsL hs j = x := ⟨_, rfl⟩
          rw [hhj] at q1 g1 g2
          have HL := Lib.hid q1
          have HG1 := Lib.hid g1
          have HG2 := Lib.hid g2
          have HEQ : Hid ((!(hj9 == hj9)) = false) := Lib.hid (by simp)
          clear q1 q2 g1 g2 hhj
          have HB_wr_0 : Hid (Below wr.heap.size wr wr) := Lib.hid (Below.refl _ _)
          have kG1 := Lib.hid (show ∀ u : World, Hid (Below wr.heap.size wr u) → Hid (u.rangeAt a1 (f1 + j * 32) (hj9.map (Value.int .u8))) from fun u h => Lib.hid (rangeAt_below HG1.out h.out))
          have kG2 := Lib.hid (show ∀ u : World, Hid (Below wr.heap.size wr u) → Hid (u.rangeAt a2 (f2 + j * 32) (hj9.map (Value.int .u8))) from fun u h => Lib.hid (rangeAt_below HG2.out h.out))
          obtain ⟨zc0, zc1, zc2, zc3⟩ := kC.out _ HBs
          go_upto_region 11 with (fail)
          clear zc0 zc1 zc2 zc3
          have hBx1 := Lib.hid (show ∀ u u2 : World, Hid (Below w0.heap.size w0 u ∧ Below wr.heap.size wr u) → Below u.heap.size u u2 → Hid (Below w0.heap.size w0 u2 ∧ Below wr.heap.size wr u2) from fun u u2 h1 h2 => Lib.hid ⟨(below_ext h1.out.1 h2), (below_ext h1.out.2 h2)⟩)
          have hS1 := Lib.hid (show ∀ u : World, Hid (Below w0.heap.size w0 u ∧ Below wr.heap.size wr u) → (u.cell? ⟨w.heap.size, 0, none⟩ = some (.slice O1 n c1) ∧ u.cell? ⟨w.heap.size, 1, none⟩ = some (.slice (some ⟨a1, f1, none⟩) m d1) ∧ u.cell? ⟨w.heap.size + 1, 0, none⟩ = some (.slice O2 n c2) ∧ u.cell? ⟨w.heap.size + 1, 1, none⟩ = some (.slice (some ⟨a2, f2, none⟩) m d2) ∧ Hid (Below w0.heap.size w0 u ∧ Below wr.heap.size wr u)) from fun u h1 => by
            obtain ⟨y0, y1, y2, y3⟩ := kC.out _ (Lib.hid h1.out.1)
            exact ⟨y0, y1, y2, y3, h1⟩)
          have HBA1 : Hid (Below w0.heap.size w0 wr ∧ Below wr.heap.size wr wr) := Lib.hid ⟨HBs.out, HB_wr_0.out⟩
          refine wp_region_T (S := fun w' => w'.cell? ⟨w.heap.size, 0, none⟩ = some (.slice O1 n c1) ∧ w'.cell? ⟨w.heap.size, 1, none⟩ = some (.slice (some ⟨a1, f1, none⟩) m d1) ∧ w'.cell? ⟨w.heap.size + 1, 0, none⟩ = some (.slice O2 n c2) ∧ w'.cell? ⟨w.heap.size + 1, 1, none⟩ = some (.slice (some ⟨a2, f2, none⟩) m d2) ∧ Hid (Below w0.heap.size w0 w' ∧ Below wr.heap.size wr w')) (E := []) (by kernel_rfl) (hS1.out _ (hBx1.out _ _ HBA1 ((Below.refl _ _).drew))) (fun hHeld => ?_)
          refine tkV 0 ?_
          try simp only [qq1, qq2, qq3, Act.put, qq4, qq5, qq6]
          refine tkV 1 ?_
          try simp only [qq1, qq2, qq3, Act.put, qq4, qq5, qq6]
          refine tkV 2 ?_
          try simp only [qq1, qq2, qq3, Act.put, qq4, qq5, qq6]
          refine tkV 3 ?_
          try simp only [qq1, qq2, qq3, Act.put, qq4, qq5, qq6]
          refine wpT_take (i := 4) (oi := _) (v := (.agg (arr .u8 hj9))) rfl (by kernel_rfl) (by kernel_rfl) (by kernel_rfl) (by kernel_rfl) (fun _ _ _ h => h) (Or.inl ⟨by rfl, yields_mid 42 _ rfl a1 (f1 + j * 32) rfl (hj9.map (Value.int .u8)) _ (fun _ hq => ((kG1.out _ (Lib.hid (hq.2.2.2.2).out.2))).out) Tryd.underlying42 rfl (map_size HL.out)⟩) (by assumption) ?_
          try simp only [qq1, qq2, qq3, Act.put, qq4, qq5, qq6]
          refine tkV 5 ?_
          try simp only [qq1, qq2, qq3, Act.put, qq4, qq5, qq6]
          refine tkV 6 ?_
          try simp only [qq1, qq2, qq3, Act.put, qq4, qq5, qq6]
          refine tkV 7 ?_
          try simp only [qq1, qq2, qq3, Act.put, qq4, qq5, qq6]
          refine tkV 8 ?_
          try simp only [qq1, qq2, qq3, Act.put, qq4, qq5, qq6]
          refine wpT_take (i := 9) (oi := _) (v := (.agg (arr .u8 hj9))) rfl (by kernel_rfl) (by kernel_rfl) (by kernel_rfl) (by kernel_rfl) (fun _ _ _ h => h) (Or.inl ⟨by rfl, yields_mid 42 _ rfl a2 (f2 + j * 32) rfl (hj9.map (Value.int .u8)) _ (fun _ hq => ((kG2.out _ (Lib.hid (hq.2.2.2.2).out.2))).out) Tryd.underlying42 rfl (map_size HL.out)⟩) (by assumption) ?_
          try simp only [qq1, qq2, qq3, Act.put, qq4, qq5, qq6]
          refine wpT_take (i := 10) (oi := _) (v := (.bool false)) rfl (by kernel_rfl) (by kernel_rfl) (by kernel_rfl) (by kernel_rfl) (fun _ _ _ h => h) (Or.inl ⟨by rfl, yields_neq_hash _ _ _ rfl hj9 hj9 HL.out HL.out rfl rfl false HEQ.out⟩) (by assumption) ?_
          try simp only [qq1, qq2, qq3, Act.put, qq4, qq5, qq6]
          refine wpT_done (by kernel_rfl) ?_ _
          obtain ⟨x0, x1, x2, x3, FB1⟩ := hHeld
          clear x0 x1 x2 x3 hS1 hBx1 HBA1
          have HL1_w0 := Lib.hid FB1.out.1
          have HL1_wr := Lib.hid FB1.out.2
          obtain ⟨zc0, zc1, zc2, zc3⟩ := kC.out _ HL1_w0
          have HBN := HL1_w0
          clear zc0 zc1 zc2 zc3
          go_wp2
          go_roundw
          case rel => exact ⟨j + 1, by omega, by go_num, HBN⟩
          case measure => simp [intOf]; omega
        · skip
          have hje : j = m := by omega
          obtain ⟨zc0, zc1, zc2, zc3⟩ := kC.out _ HBs
          have hbF := below_ext HBw.out HBs.out
          go_wp2
          go_ret
          exact ⟨rfl, hbF⟩
def TrRet (osX : List OrdR) (n : Nat) (hsX : List (List Int)) (m : Nat) (rest : List Value) (w : World) (e : Ending) (w' : World) : Prop := ∃ O c K d os', e = .returned (.tuple (tlV O n c K m d :: rest).toArray) ∧ os'.length = n ∧ (∀ k, k < n → SamO (orL osX k) (orL os' k)) ∧ Os w' O os' ∧ Hs w' K hsX ∧ Below w.heap.size w w'
theorem trRet_none {w w' : World} {e : Ending} {rest : List Value} (he : e = .returned (.tuple (tlV none 0 0 none 0 0 :: rest).toArray)) (hb : Below w.heap.size w w') : TrRet [] 0 [] 0 rest w e w' :=
  ⟨none, 0, none, 0, [], he, rfl, fun k h => absurd h (by omega), fun k h => absurd h (by simp), fun k h => absurd h (by simp), hb⟩
theorem trS_mono' {os : List OrdR} {hs : List (List Int)} {n : Nat} : ∀ {k j : Nat}, trS os hs n k = true → j ≤ k → trS os hs n j = true := fun {k j} h hj => by
  cases e : trS os hs n j with
  | true => rfl
  | false => rw [trS_mono e k hj] at h; cases h
theorem opn_lt {os : List OrdR} {hs : List (List Int)} (h : trlB os hs = true) : opnB os os.length = decide (hs.length < os.length) := by
  obtain ⟨h1, h2, _⟩ := trl_parts h
  by_cases hz : os.length = 0
  · rw [opnB, hz]
    rw [hz] at h2
    have h3 : hs.length = 0 := h2.symm
    rw [h3]; rfl
  · obtain ⟨k, hk⟩ : ∃ k, os.length = k + 1 := ⟨os.length - 1, by omega⟩
    have hc : clN os k = k := cl_eq (trS_mono' h1 (by omega)) (by omega)
    rw [hk] at h2
    rw [clN, hc] at h2
    rw [opnB, hk, show k + 1 - 1 = k by omega, decide_eq_true (show 0 < k + 1 by omega), Bool.true_and]
    by_cases e : (orL os k).key = 0
    · rw [if_pos e] at h2
      rw [e, decide_eq_true (show hs.length < k + 1 by omega)]; rfl
    · rw [if_neg e] at h2
      rw [decide_eq_false (show ¬ hs.length < k + 1 by omega)]
      simpa using e
theorem open_any (O : Option Addr) (os : List OrdR) (n c : Nat) (K : Option Addr) (m d : Nat) (hn : Hid (os.length = n)) (hb : n ≤ 1000000) (r : Bool) (hr : Hid (opnB os n = r)) (w : World) (hO : Hid (Os w O os)) :
    Calls Tryd.prog 27 #[tlV O n c K m d] w fun e' w' => e' = .returned (.bool r) ∧ Below w.heap.size w w' := by
  cases n with
  | zero =>
    obtain rfl : r = false := by rw [← hr.out]; rfl
    exact open_0 O c K m d w
  | succ n => exact open_1 O os n c K m d hn (by omega) r hr w hO
set_option maxHeartbeats 6400000 in
theorem opn_1 (O : Option Addr) (os : List OrdR) (n c : Nat) (K : Option Addr) (hs : List (List Int)) (m d : Nat) (hn : Hid (os.length = n)) (hm : Hid (hs.length = m)) (hI : ∀ k, k < n → OrdI (orL os k)) (hb1 : n ≤ 1000000) (hb2 : m ≤ 1000000) (E1 E2 : Int) (A : Option Addr) (na ca : Nat) (C : Int) (Z : Option Addr) (nz cz : Nat) (s : ByteArray) (hr : Kp (trlB os hs = false)) (w : World) (hv : Hid (VarsD w)) (hO : Hid (Os w O os)) (hK : Hid (Hs w K hs)) :
    Calls Tryd.prog 7 #[tlV O n c K m d, .string s, esV E1 E2 A na ca C Z nz cz] w (TrRet [] 0 [] 0 [.int .i64 0, .int .i64 1] w) := by
  obtain ⟨w0, hW⟩ : ∃ W, (((w.alloc (tlO O n c K m d)).alloc (esO E1 E2 A na ca C Z nz cz)).alloc (.cells #[.slice none 0 0, .slice none 0 0] 25)) = W := ⟨_, rfl⟩
  have HBw : Hid (Below w.heap.size w w0) := Lib.hid (by rw [← hW]; exact (((Below.refl _ _).alloc (Nat.le_refl _) _).alloc (by simp) _).alloc (by simp; omega) _)
  have hc : w0.cell? ⟨w.heap.size, 0, none⟩ = some (.slice O n c) ∧ w0.cell? ⟨w.heap.size, 1, none⟩ = some (.slice K m d) ∧ w0.cell? ⟨w.heap.size + 1, 0, none⟩ = some (.int .i64 E1) ∧ w0.cell? ⟨w.heap.size + 1, 1, none⟩ = some (.int .i64 E2) ∧ w0.cell? ⟨w.heap.size + 1, 2, none⟩ = some (.slice A na ca) ∧ w0.cell? ⟨w.heap.size + 1, 3, none⟩ = some (.int .i64 C) ∧ w0.cell? ⟨w.heap.size + 1, 4, none⟩ = some (.slice Z nz cz) := by rw [← hW]; exact ⟨cell_below (cell_below (allocs_cell (by simp) (by rfl)) (below_box0 _ _)) (below_box0 _ _), cell_below (cell_below (allocs_cell (by simp) (by rfl)) (below_box0 _ _)) (below_box0 _ _), cell_below (allocs_cell (by simp) (by rfl)) (below_box0 _ _), cell_below (allocs_cell (by simp) (by rfl)) (below_box0 _ _), cell_below (allocs_cell (by simp) (by rfl)) (below_box0 _ _), cell_below (allocs_cell (by simp) (by rfl)) (below_box0 _ _), cell_below (allocs_cell (by simp) (by rfl)) (below_box0 _ _)⟩
  have kC := Lib.hid (show ∀ u : World, Hid (Below w0.heap.size w0 u) → u.cell? ⟨w.heap.size, 0, none⟩ = some (.slice O n c) ∧ u.cell? ⟨w.heap.size, 1, none⟩ = some (.slice K m d) ∧ u.cell? ⟨w.heap.size + 1, 0, none⟩ = some (.int .i64 E1) ∧ u.cell? ⟨w.heap.size + 1, 1, none⟩ = some (.int .i64 E2) ∧ u.cell? ⟨w.heap.size + 1, 2, none⟩ = some (.slice A na ca) ∧ u.cell? ⟨w.heap.size + 1, 3, none⟩ = some (.int .i64 C) ∧ u.cell? ⟨w.heap.size + 1, 4, none⟩ = some (.slice Z nz cz) from fun u h => ⟨cell_below hc.1 h.out, cell_below hc.2.1 h.out, cell_below hc.2.2.1 h.out, cell_below hc.2.2.2.1 h.out, cell_below hc.2.2.2.2.1 h.out, cell_below hc.2.2.2.2.2.1 h.out, cell_below hc.2.2.2.2.2.2 h.out⟩)
  have kD := Lib.hid (show ∀ u : World, Hid (Below w0.heap.size w0 u) → Hid (VarsD u) from fun u h => Lib.hid ((hv.out.below) (below_ext HBw.out h.out)))
  have kOs := Lib.hid (show ∀ u : World, Hid (Below w0.heap.size w0 u) → Hid (Os u O os) from fun u h => Lib.hid ((hO.out.below) (below_ext HBw.out h.out)))
  have kHs := Lib.hid (show ∀ u : World, Hid (Below w0.heap.size w0 u) → Hid (Hs u K hs) from fun u h => Lib.hid ((hK.out.below) (below_ext HBw.out h.out)))
  have HB_0 : Hid (Below w0.heap.size w0 w0) := Lib.hid (Below.refl _ _)
  have HW := Lib.hid hW
  have kRB := Lib.hid (show ∀ u : World, Hid (Below w0.heap.size w0 u) → Hid (u.heap[w.heap.size + 2]? = some (.cells #[.slice none 0 0, .slice none 0 0] 25)) from fun u h => Lib.hid (blk_below (by rw [← hW]; exact heap_alloc3_new _ _ _ _) h.out))
  clear hW hc hv hO hK
  go_enter Tryd.func7, Tryd.ntmps7
  go_upto_region 1 with (fail)
  rw [HW.out]
  obtain ⟨zc0, zc1, zc2, zc3, zc4, zc5, zc6⟩ := kC.out _ HB_0
  go_wp2_with fail
  refine (tval_any O os n c K hs m d hn hm hI hb1 hb2 false hr _ (kD.out _ HB_0) (kOs.out _ HB_0) (kHs.out _ HB_0)).mono ?_
  rintro e w1 ⟨rfl, hb0⟩
  have HB_1 := Lib.hid (below_ext HB_0.out hb0)
  clear zc0 zc1 zc2 zc3 zc4 zc5 zc6
  clear hb0
  obtain ⟨zc0, zc1, zc2, zc3, zc4, zc5, zc6⟩ := kC.out _ HB_1
  have HRF := kRB.out _ HB_1
  have hbF := below_setRow' (below_ext HBw.out HB_1.out) (cs := #[.slice none 0 0, .slice none 0 0]) (Nat.le_add_right w.heap.size 2)
  go_wp2_with ((with_reducible show wpList _ _ _ (⟨none, _, _, _, _, _⟩ :: _) _ _); refine wpList_store_row rfl 25 _ _ rfl (w.heap.size + 2) #[.slice none 0 0, .slice none 0 0] rfl rfl _ _ HRF.out (by kernel_rfl) rfl (by simp [Value.oneCell']) ?_)
  have hrw := setRow_heap _ _ _ #[.slice none 0 0, .slice none 0 0] _ _ HRF.out
  exact bodyPost_ret (v := .tuple #[tlV none 0 0 none 0 0, .int .i64 0, .int .i64 1]) (results_cell_tmp3 (p := 6) (q := 7) (r := 8) (ty := 25) rfl _ _ ⟨w.heap.size + 2, 0, none⟩ _ _ _ rfl rfl rfl (run_loadVar_row _ _ _ _ _ _ _ hrw Tryd.underlying25 rfl (by kernel_rfl))) rfl (trRet_none rfl hbF)
set_option maxHeartbeats 6400000 in
theorem opn_2 (O : Option Addr) (os : List OrdR) (n c : Nat) (K : Option Addr) (hs : List (List Int)) (m d : Nat) (hn : Hid (os.length = n)) (hm : Hid (hs.length = m)) (hI : ∀ k, k < n → OrdI (orL os k)) (hb1 : n ≤ 1000000) (hb2 : m ≤ 1000000) (E1 E2 : Int) (A : Option Addr) (na ca : Nat) (C : Int) (Z : Option Addr) (nz cz : Nat) (s : ByteArray) (hrs : Hid (rsB s = false)) (hr : Kp (trlB os hs = true)) (w : World) (hv : Hid (VarsD w)) (hO : Hid (Os w O os)) (hK : Hid (Hs w K hs)) :
    Calls Tryd.prog 7 #[tlV O n c K m d, .string s, esV E1 E2 A na ca C Z nz cz] w (TrRet [] 0 [] 0 [.int .i64 0, .int .i64 2] w) := by
  obtain ⟨w0, hW⟩ : ∃ W, (((w.alloc (tlO O n c K m d)).alloc (esO E1 E2 A na ca C Z nz cz)).alloc (.cells #[.slice none 0 0, .slice none 0 0] 25)) = W := ⟨_, rfl⟩
  have HBw : Hid (Below w.heap.size w w0) := Lib.hid (by rw [← hW]; exact (((Below.refl _ _).alloc (Nat.le_refl _) _).alloc (by simp) _).alloc (by simp; omega) _)
  have hc : w0.cell? ⟨w.heap.size, 0, none⟩ = some (.slice O n c) ∧ w0.cell? ⟨w.heap.size, 1, none⟩ = some (.slice K m d) ∧ w0.cell? ⟨w.heap.size + 1, 0, none⟩ = some (.int .i64 E1) ∧ w0.cell? ⟨w.heap.size + 1, 1, none⟩ = some (.int .i64 E2) ∧ w0.cell? ⟨w.heap.size + 1, 2, none⟩ = some (.slice A na ca) ∧ w0.cell? ⟨w.heap.size + 1, 3, none⟩ = some (.int .i64 C) ∧ w0.cell? ⟨w.heap.size + 1, 4, none⟩ = some (.slice Z nz cz) := by rw [← hW]; exact ⟨cell_below (cell_below (allocs_cell (by simp) (by rfl)) (below_box0 _ _)) (below_box0 _ _), cell_below (cell_below (allocs_cell (by simp) (by rfl)) (below_box0 _ _)) (below_box0 _ _), cell_below (allocs_cell (by simp) (by rfl)) (below_box0 _ _), cell_below (allocs_cell (by simp) (by rfl)) (below_box0 _ _), cell_below (allocs_cell (by simp) (by rfl)) (below_box0 _ _), cell_below (allocs_cell (by simp) (by rfl)) (below_box0 _ _), cell_below (allocs_cell (by simp) (by rfl)) (below_box0 _ _)⟩
  have kC := Lib.hid (show ∀ u : World, Hid (Below w0.heap.size w0 u) → u.cell? ⟨w.heap.size, 0, none⟩ = some (.slice O n c) ∧ u.cell? ⟨w.heap.size, 1, none⟩ = some (.slice K m d) ∧ u.cell? ⟨w.heap.size + 1, 0, none⟩ = some (.int .i64 E1) ∧ u.cell? ⟨w.heap.size + 1, 1, none⟩ = some (.int .i64 E2) ∧ u.cell? ⟨w.heap.size + 1, 2, none⟩ = some (.slice A na ca) ∧ u.cell? ⟨w.heap.size + 1, 3, none⟩ = some (.int .i64 C) ∧ u.cell? ⟨w.heap.size + 1, 4, none⟩ = some (.slice Z nz cz) from fun u h => ⟨cell_below hc.1 h.out, cell_below hc.2.1 h.out, cell_below hc.2.2.1 h.out, cell_below hc.2.2.2.1 h.out, cell_below hc.2.2.2.2.1 h.out, cell_below hc.2.2.2.2.2.1 h.out, cell_below hc.2.2.2.2.2.2 h.out⟩)
  have kD := Lib.hid (show ∀ u : World, Hid (Below w0.heap.size w0 u) → Hid (VarsD u) from fun u h => Lib.hid ((hv.out.below) (below_ext HBw.out h.out)))
  have kOs := Lib.hid (show ∀ u : World, Hid (Below w0.heap.size w0 u) → Hid (Os u O os) from fun u h => Lib.hid ((hO.out.below) (below_ext HBw.out h.out)))
  have kHs := Lib.hid (show ∀ u : World, Hid (Below w0.heap.size w0 u) → Hid (Hs u K hs) from fun u h => Lib.hid ((hK.out.below) (below_ext HBw.out h.out)))
  have HB_0 : Hid (Below w0.heap.size w0 w0) := Lib.hid (Below.refl _ _)
  have HW := Lib.hid hW
  have kRB := Lib.hid (show ∀ u : World, Hid (Below w0.heap.size w0 u) → Hid (u.heap[w.heap.size + 2]? = some (.cells #[.slice none 0 0, .slice none 0 0] 25)) from fun u h => Lib.hid (blk_below (by rw [← hW]; exact heap_alloc3_new _ _ _ _) h.out))
  clear hW hc hv hO hK
  go_enter Tryd.func7, Tryd.ntmps7
  go_upto_region 1 with (fail)
  rw [HW.out]
  obtain ⟨zc0, zc1, zc2, zc3, zc4, zc5, zc6⟩ := kC.out _ HB_0
  go_wp2_with fail
  refine (tval_any O os n c K hs m d hn hm hI hb1 hb2 true hr _ (kD.out _ HB_0) (kOs.out _ HB_0) (kHs.out _ HB_0)).mono ?_
  rintro e w1 ⟨rfl, hb0⟩
  have HB_1 := Lib.hid (below_ext HB_0.out hb0)
  clear zc0 zc1 zc2 zc3 zc4 zc5 zc6
  clear hb0
  obtain ⟨zc0, zc1, zc2, zc3, zc4, zc5, zc6⟩ := kC.out _ HB_1
  go_wp2_with fail
  refine (reason_any s false hrs _).mono ?_
  rintro e9 w9 ⟨rfl, hw9⟩
  rw [hw9]
  clear hw9
  have HRF := kRB.out _ HB_1
  have hbF := below_setRow' (below_ext HBw.out HB_1.out) (cs := #[.slice none 0 0, .slice none 0 0]) (Nat.le_add_right w.heap.size 2)
  go_wp2_with ((with_reducible show wpList _ _ _ (⟨none, _, _, _, _, _⟩ :: _) _ _); refine wpList_store_row rfl 25 _ _ rfl (w.heap.size + 2) #[.slice none 0 0, .slice none 0 0] rfl rfl _ _ HRF.out (by kernel_rfl) rfl (by simp [Value.oneCell']) ?_)
  have hrw := setRow_heap _ _ _ #[.slice none 0 0, .slice none 0 0] _ _ HRF.out
  exact bodyPost_ret (v := .tuple #[tlV none 0 0 none 0 0, .int .i64 0, .int .i64 2]) (results_cell_tmp3 (p := 6) (q := 7) (r := 8) (ty := 25) rfl _ _ ⟨w.heap.size + 2, 0, none⟩ _ _ _ rfl rfl rfl (run_loadVar_row _ _ _ _ _ _ _ hrw Tryd.underlying25 rfl (by kernel_rfl))) rfl (trRet_none rfl hbF)
set_option maxHeartbeats 6400000 in
theorem opn_3 (O : Option Addr) (os : List OrdR) (n c : Nat) (K : Option Addr) (hs : List (List Int)) (m d : Nat) (hn : Hid (os.length = n)) (hm : Hid (hs.length = m)) (hI : ∀ k, k < n → OrdI (orL os k)) (hb1 : n ≤ 1000000) (hb2 : m ≤ 1000000) (E1 E2 : Int) (A : Option Addr) (na ca : Nat) (C : Int) (Z : Option Addr) (nz cz : Nat) (s : ByteArray) (hrs : Hid (rsB s = true)) (hsh : Hid (shB na nz = false)) (hr : Kp (trlB os hs = true)) (w : World) (hv : Hid (VarsD w)) (hO : Hid (Os w O os)) (hK : Hid (Hs w K hs)) :
    Calls Tryd.prog 7 #[tlV O n c K m d, .string s, esV E1 E2 A na ca C Z nz cz] w (TrRet [] 0 [] 0 [.int .i64 0, .int .i64 2] w) := by
  obtain ⟨w0, hW⟩ : ∃ W, (((w.alloc (tlO O n c K m d)).alloc (esO E1 E2 A na ca C Z nz cz)).alloc (.cells #[.slice none 0 0, .slice none 0 0] 25)) = W := ⟨_, rfl⟩
  have HBw : Hid (Below w.heap.size w w0) := Lib.hid (by rw [← hW]; exact (((Below.refl _ _).alloc (Nat.le_refl _) _).alloc (by simp) _).alloc (by simp; omega) _)
  have hc : w0.cell? ⟨w.heap.size, 0, none⟩ = some (.slice O n c) ∧ w0.cell? ⟨w.heap.size, 1, none⟩ = some (.slice K m d) ∧ w0.cell? ⟨w.heap.size + 1, 0, none⟩ = some (.int .i64 E1) ∧ w0.cell? ⟨w.heap.size + 1, 1, none⟩ = some (.int .i64 E2) ∧ w0.cell? ⟨w.heap.size + 1, 2, none⟩ = some (.slice A na ca) ∧ w0.cell? ⟨w.heap.size + 1, 3, none⟩ = some (.int .i64 C) ∧ w0.cell? ⟨w.heap.size + 1, 4, none⟩ = some (.slice Z nz cz) := by rw [← hW]; exact ⟨cell_below (cell_below (allocs_cell (by simp) (by rfl)) (below_box0 _ _)) (below_box0 _ _), cell_below (cell_below (allocs_cell (by simp) (by rfl)) (below_box0 _ _)) (below_box0 _ _), cell_below (allocs_cell (by simp) (by rfl)) (below_box0 _ _), cell_below (allocs_cell (by simp) (by rfl)) (below_box0 _ _), cell_below (allocs_cell (by simp) (by rfl)) (below_box0 _ _), cell_below (allocs_cell (by simp) (by rfl)) (below_box0 _ _), cell_below (allocs_cell (by simp) (by rfl)) (below_box0 _ _)⟩
  have kC := Lib.hid (show ∀ u : World, Hid (Below w0.heap.size w0 u) → u.cell? ⟨w.heap.size, 0, none⟩ = some (.slice O n c) ∧ u.cell? ⟨w.heap.size, 1, none⟩ = some (.slice K m d) ∧ u.cell? ⟨w.heap.size + 1, 0, none⟩ = some (.int .i64 E1) ∧ u.cell? ⟨w.heap.size + 1, 1, none⟩ = some (.int .i64 E2) ∧ u.cell? ⟨w.heap.size + 1, 2, none⟩ = some (.slice A na ca) ∧ u.cell? ⟨w.heap.size + 1, 3, none⟩ = some (.int .i64 C) ∧ u.cell? ⟨w.heap.size + 1, 4, none⟩ = some (.slice Z nz cz) from fun u h => ⟨cell_below hc.1 h.out, cell_below hc.2.1 h.out, cell_below hc.2.2.1 h.out, cell_below hc.2.2.2.1 h.out, cell_below hc.2.2.2.2.1 h.out, cell_below hc.2.2.2.2.2.1 h.out, cell_below hc.2.2.2.2.2.2 h.out⟩)
  have kD := Lib.hid (show ∀ u : World, Hid (Below w0.heap.size w0 u) → Hid (VarsD u) from fun u h => Lib.hid ((hv.out.below) (below_ext HBw.out h.out)))
  have kOs := Lib.hid (show ∀ u : World, Hid (Below w0.heap.size w0 u) → Hid (Os u O os) from fun u h => Lib.hid ((hO.out.below) (below_ext HBw.out h.out)))
  have kHs := Lib.hid (show ∀ u : World, Hid (Below w0.heap.size w0 u) → Hid (Hs u K hs) from fun u h => Lib.hid ((hK.out.below) (below_ext HBw.out h.out)))
  have HB_0 : Hid (Below w0.heap.size w0 w0) := Lib.hid (Below.refl _ _)
  have HW := Lib.hid hW
  have kRB := Lib.hid (show ∀ u : World, Hid (Below w0.heap.size w0 u) → Hid (u.heap[w.heap.size + 2]? = some (.cells #[.slice none 0 0, .slice none 0 0] 25)) from fun u h => Lib.hid (blk_below (by rw [← hW]; exact heap_alloc3_new _ _ _ _) h.out))
  clear hW hc hv hO hK
  go_enter Tryd.func7, Tryd.ntmps7
  go_upto_region 1 with (fail)
  rw [HW.out]
  obtain ⟨zc0, zc1, zc2, zc3, zc4, zc5, zc6⟩ := kC.out _ HB_0
  go_wp2_with fail
  refine (tval_any O os n c K hs m d hn hm hI hb1 hb2 true hr _ (kD.out _ HB_0) (kOs.out _ HB_0) (kHs.out _ HB_0)).mono ?_
  rintro e w1 ⟨rfl, hb0⟩
  have HB_1 := Lib.hid (below_ext HB_0.out hb0)
  clear zc0 zc1 zc2 zc3 zc4 zc5 zc6
  clear hb0
  obtain ⟨zc0, zc1, zc2, zc3, zc4, zc5, zc6⟩ := kC.out _ HB_1
  go_wp2_with fail
  refine (reason_any s true hrs _).mono ?_
  rintro e9 w9 ⟨rfl, hw9⟩
  rw [hw9]
  clear hw9
  go_wp2_with fail
  refine (tshort_any A na ca C Z nz cz false hsh _).mono ?_
  rintro e w2 ⟨rfl, hb0⟩
  have HB_2 := Lib.hid (below_ext HB_1.out hb0)
  clear zc0 zc1 zc2 zc3 zc4 zc5 zc6
  clear hb0
  obtain ⟨zc0, zc1, zc2, zc3, zc4, zc5, zc6⟩ := kC.out _ HB_2
  have HRF := kRB.out _ HB_2
  have hbF := below_setRow' (below_ext HBw.out HB_2.out) (cs := #[.slice none 0 0, .slice none 0 0]) (Nat.le_add_right w.heap.size 2)
  go_wp2_with ((with_reducible show wpList _ _ _ (⟨none, _, _, _, _, _⟩ :: _) _ _); refine wpList_store_row rfl 25 _ _ rfl (w.heap.size + 2) #[.slice none 0 0, .slice none 0 0] rfl rfl _ _ HRF.out (by kernel_rfl) rfl (by simp [Value.oneCell']) ?_)
  have hrw := setRow_heap _ _ _ #[.slice none 0 0, .slice none 0 0] _ _ HRF.out
  exact bodyPost_ret (v := .tuple #[tlV none 0 0 none 0 0, .int .i64 0, .int .i64 2]) (results_cell_tmp3 (p := 6) (q := 7) (r := 8) (ty := 25) rfl _ _ ⟨w.heap.size + 2, 0, none⟩ _ _ _ rfl rfl rfl (run_loadVar_row _ _ _ _ _ _ _ hrw Tryd.underlying25 rfl (by kernel_rfl))) rfl (trRet_none rfl hbF)
set_option maxHeartbeats 6400000 in
theorem opn_4 (O : Option Addr) (os : List OrdR) (n c : Nat) (K : Option Addr) (hs : List (List Int)) (m d : Nat) (hn : Hid (os.length = n)) (hm : Hid (hs.length = m)) (hI : ∀ k, k < n → OrdI (orL os k)) (hb1 : n ≤ 1000000) (hb2 : m ≤ 1000000) (E1 E2 : Int) (A : Option Addr) (na ca : Nat) (C : Int) (Z : Option Addr) (nz cz : Nat) (s : ByteArray) (hrs : Hid (rsB s = true)) (hsh : Hid (shB na nz = true)) (ho9 : Hid (opnB os n = true)) (hr : Kp (trlB os hs = true)) (w : World) (hv : Hid (VarsD w)) (hO : Hid (Os w O os)) (hK : Hid (Hs w K hs)) :
    Calls Tryd.prog 7 #[tlV O n c K m d, .string s, esV E1 E2 A na ca C Z nz cz] w (TrRet [] 0 [] 0 [.int .i64 0, .int .i64 6] w) := by
  obtain ⟨w0, hW⟩ : ∃ W, (((w.alloc (tlO O n c K m d)).alloc (esO E1 E2 A na ca C Z nz cz)).alloc (.cells #[.slice none 0 0, .slice none 0 0] 25)) = W := ⟨_, rfl⟩
  have HBw : Hid (Below w.heap.size w w0) := Lib.hid (by rw [← hW]; exact (((Below.refl _ _).alloc (Nat.le_refl _) _).alloc (by simp) _).alloc (by simp; omega) _)
  have hc : w0.cell? ⟨w.heap.size, 0, none⟩ = some (.slice O n c) ∧ w0.cell? ⟨w.heap.size, 1, none⟩ = some (.slice K m d) ∧ w0.cell? ⟨w.heap.size + 1, 0, none⟩ = some (.int .i64 E1) ∧ w0.cell? ⟨w.heap.size + 1, 1, none⟩ = some (.int .i64 E2) ∧ w0.cell? ⟨w.heap.size + 1, 2, none⟩ = some (.slice A na ca) ∧ w0.cell? ⟨w.heap.size + 1, 3, none⟩ = some (.int .i64 C) ∧ w0.cell? ⟨w.heap.size + 1, 4, none⟩ = some (.slice Z nz cz) := by rw [← hW]; exact ⟨cell_below (cell_below (allocs_cell (by simp) (by rfl)) (below_box0 _ _)) (below_box0 _ _), cell_below (cell_below (allocs_cell (by simp) (by rfl)) (below_box0 _ _)) (below_box0 _ _), cell_below (allocs_cell (by simp) (by rfl)) (below_box0 _ _), cell_below (allocs_cell (by simp) (by rfl)) (below_box0 _ _), cell_below (allocs_cell (by simp) (by rfl)) (below_box0 _ _), cell_below (allocs_cell (by simp) (by rfl)) (below_box0 _ _), cell_below (allocs_cell (by simp) (by rfl)) (below_box0 _ _)⟩
  have kC := Lib.hid (show ∀ u : World, Hid (Below w0.heap.size w0 u) → u.cell? ⟨w.heap.size, 0, none⟩ = some (.slice O n c) ∧ u.cell? ⟨w.heap.size, 1, none⟩ = some (.slice K m d) ∧ u.cell? ⟨w.heap.size + 1, 0, none⟩ = some (.int .i64 E1) ∧ u.cell? ⟨w.heap.size + 1, 1, none⟩ = some (.int .i64 E2) ∧ u.cell? ⟨w.heap.size + 1, 2, none⟩ = some (.slice A na ca) ∧ u.cell? ⟨w.heap.size + 1, 3, none⟩ = some (.int .i64 C) ∧ u.cell? ⟨w.heap.size + 1, 4, none⟩ = some (.slice Z nz cz) from fun u h => ⟨cell_below hc.1 h.out, cell_below hc.2.1 h.out, cell_below hc.2.2.1 h.out, cell_below hc.2.2.2.1 h.out, cell_below hc.2.2.2.2.1 h.out, cell_below hc.2.2.2.2.2.1 h.out, cell_below hc.2.2.2.2.2.2 h.out⟩)
  have kD := Lib.hid (show ∀ u : World, Hid (Below w0.heap.size w0 u) → Hid (VarsD u) from fun u h => Lib.hid ((hv.out.below) (below_ext HBw.out h.out)))
  have kOs := Lib.hid (show ∀ u : World, Hid (Below w0.heap.size w0 u) → Hid (Os u O os) from fun u h => Lib.hid ((hO.out.below) (below_ext HBw.out h.out)))
  have kHs := Lib.hid (show ∀ u : World, Hid (Below w0.heap.size w0 u) → Hid (Hs u K hs) from fun u h => Lib.hid ((hK.out.below) (below_ext HBw.out h.out)))
  have HB_0 : Hid (Below w0.heap.size w0 w0) := Lib.hid (Below.refl _ _)
  have HW := Lib.hid hW
  have kRB := Lib.hid (show ∀ u : World, Hid (Below w0.heap.size w0 u) → Hid (u.heap[w.heap.size + 2]? = some (.cells #[.slice none 0 0, .slice none 0 0] 25)) from fun u h => Lib.hid (blk_below (by rw [← hW]; exact heap_alloc3_new _ _ _ _) h.out))
  clear hW hc hv hO hK
  go_enter Tryd.func7, Tryd.ntmps7
  go_upto_region 1 with (fail)
  rw [HW.out]
  obtain ⟨zc0, zc1, zc2, zc3, zc4, zc5, zc6⟩ := kC.out _ HB_0
  go_wp2_with fail
  refine (tval_any O os n c K hs m d hn hm hI hb1 hb2 true hr _ (kD.out _ HB_0) (kOs.out _ HB_0) (kHs.out _ HB_0)).mono ?_
  rintro e w1 ⟨rfl, hb0⟩
  have HB_1 := Lib.hid (below_ext HB_0.out hb0)
  clear zc0 zc1 zc2 zc3 zc4 zc5 zc6
  clear hb0
  obtain ⟨zc0, zc1, zc2, zc3, zc4, zc5, zc6⟩ := kC.out _ HB_1
  go_wp2_with fail
  refine (reason_any s true hrs _).mono ?_
  rintro e9 w9 ⟨rfl, hw9⟩
  rw [hw9]
  clear hw9
  go_wp2_with fail
  refine (tshort_any A na ca C Z nz cz true hsh _).mono ?_
  rintro e w2 ⟨rfl, hb0⟩
  have HB_2 := Lib.hid (below_ext HB_1.out hb0)
  clear zc0 zc1 zc2 zc3 zc4 zc5 zc6
  clear hb0
  obtain ⟨zc0, zc1, zc2, zc3, zc4, zc5, zc6⟩ := kC.out _ HB_2
  go_wp2_with fail
  refine (open_any O os n c K m d hn hb1 true ho9 _ (kOs.out _ HB_2)).mono ?_
  rintro e w3 ⟨rfl, hb0⟩
  have HB_3 := Lib.hid (below_ext HB_2.out hb0)
  clear zc0 zc1 zc2 zc3 zc4 zc5 zc6
  clear hb0
  obtain ⟨zc0, zc1, zc2, zc3, zc4, zc5, zc6⟩ := kC.out _ HB_3
  have HRF := kRB.out _ HB_3
  have hbF := below_setRow' (below_ext HBw.out HB_3.out) (cs := #[.slice none 0 0, .slice none 0 0]) (Nat.le_add_right w.heap.size 2)
  go_wp2_with ((with_reducible show wpList _ _ _ (⟨none, _, _, _, _, _⟩ :: _) _ _); refine wpList_store_row rfl 25 _ _ rfl (w.heap.size + 2) #[.slice none 0 0, .slice none 0 0] rfl rfl _ _ HRF.out (by kernel_rfl) rfl (by simp [Value.oneCell']) ?_)
  have hrw := setRow_heap _ _ _ #[.slice none 0 0, .slice none 0 0] _ _ HRF.out
  exact bodyPost_ret (v := .tuple #[tlV none 0 0 none 0 0, .int .i64 0, .int .i64 6]) (results_cell_tmp3 (p := 6) (q := 7) (r := 8) (ty := 25) rfl _ _ ⟨w.heap.size + 2, 0, none⟩ _ _ _ rfl rfl rfl (run_loadVar_row _ _ _ _ _ _ _ hrw Tryd.underlying25 rfl (by kernel_rfl))) rfl (trRet_none rfl hbF)
set_option maxHeartbeats 6400000 in
theorem opn_5 (O : Option Addr) (os : List OrdR) (n c : Nat) (K : Option Addr) (hs : List (List Int)) (m d : Nat) (hn : Hid (os.length = n)) (hm : Hid (hs.length = m)) (hI : ∀ k, k < n → OrdI (orL os k)) (hb1 : n ≤ 1000000) (hb2 : m ≤ 1000000) (E1 E2 : Int) (A : Option Addr) (na ca : Nat) (C : Int) (Z : Option Addr) (nz cz : Nat) (s : ByteArray) (hrs : Hid (rsB s = true)) (hsh : Hid (shB na nz = true)) (ho9 : Hid (opnB os n = false)) (h100 : Hid (n = 100)) (hr : Kp (trlB os hs = true)) (w : World) (hv : Hid (VarsD w)) (hO : Hid (Os w O os)) (hK : Hid (Hs w K hs)) :
    Calls Tryd.prog 7 #[tlV O n c K m d, .string s, esV E1 E2 A na ca C Z nz cz] w (TrRet [] 0 [] 0 [.int .i64 0, .int .i64 5] w) := by
  have d100 : (((n : Nat) : Int) == 100) = true := by rw [h100.out]; rfl
  obtain ⟨w0, hW⟩ : ∃ W, (((w.alloc (tlO O n c K m d)).alloc (esO E1 E2 A na ca C Z nz cz)).alloc (.cells #[.slice none 0 0, .slice none 0 0] 25)) = W := ⟨_, rfl⟩
  have HBw : Hid (Below w.heap.size w w0) := Lib.hid (by rw [← hW]; exact (((Below.refl _ _).alloc (Nat.le_refl _) _).alloc (by simp) _).alloc (by simp; omega) _)
  have hc : w0.cell? ⟨w.heap.size, 0, none⟩ = some (.slice O n c) ∧ w0.cell? ⟨w.heap.size, 1, none⟩ = some (.slice K m d) ∧ w0.cell? ⟨w.heap.size + 1, 0, none⟩ = some (.int .i64 E1) ∧ w0.cell? ⟨w.heap.size + 1, 1, none⟩ = some (.int .i64 E2) ∧ w0.cell? ⟨w.heap.size + 1, 2, none⟩ = some (.slice A na ca) ∧ w0.cell? ⟨w.heap.size + 1, 3, none⟩ = some (.int .i64 C) ∧ w0.cell? ⟨w.heap.size + 1, 4, none⟩ = some (.slice Z nz cz) := by rw [← hW]; exact ⟨cell_below (cell_below (allocs_cell (by simp) (by rfl)) (below_box0 _ _)) (below_box0 _ _), cell_below (cell_below (allocs_cell (by simp) (by rfl)) (below_box0 _ _)) (below_box0 _ _), cell_below (allocs_cell (by simp) (by rfl)) (below_box0 _ _), cell_below (allocs_cell (by simp) (by rfl)) (below_box0 _ _), cell_below (allocs_cell (by simp) (by rfl)) (below_box0 _ _), cell_below (allocs_cell (by simp) (by rfl)) (below_box0 _ _), cell_below (allocs_cell (by simp) (by rfl)) (below_box0 _ _)⟩
  have kC := Lib.hid (show ∀ u : World, Hid (Below w0.heap.size w0 u) → u.cell? ⟨w.heap.size, 0, none⟩ = some (.slice O n c) ∧ u.cell? ⟨w.heap.size, 1, none⟩ = some (.slice K m d) ∧ u.cell? ⟨w.heap.size + 1, 0, none⟩ = some (.int .i64 E1) ∧ u.cell? ⟨w.heap.size + 1, 1, none⟩ = some (.int .i64 E2) ∧ u.cell? ⟨w.heap.size + 1, 2, none⟩ = some (.slice A na ca) ∧ u.cell? ⟨w.heap.size + 1, 3, none⟩ = some (.int .i64 C) ∧ u.cell? ⟨w.heap.size + 1, 4, none⟩ = some (.slice Z nz cz) from fun u h => ⟨cell_below hc.1 h.out, cell_below hc.2.1 h.out, cell_below hc.2.2.1 h.out, cell_below hc.2.2.2.1 h.out, cell_below hc.2.2.2.2.1 h.out, cell_below hc.2.2.2.2.2.1 h.out, cell_below hc.2.2.2.2.2.2 h.out⟩)
  have kD := Lib.hid (show ∀ u : World, Hid (Below w0.heap.size w0 u) → Hid (VarsD u) from fun u h => Lib.hid ((hv.out.below) (below_ext HBw.out h.out)))
  have kOs := Lib.hid (show ∀ u : World, Hid (Below w0.heap.size w0 u) → Hid (Os u O os) from fun u h => Lib.hid ((hO.out.below) (below_ext HBw.out h.out)))
  have kHs := Lib.hid (show ∀ u : World, Hid (Below w0.heap.size w0 u) → Hid (Hs u K hs) from fun u h => Lib.hid ((hK.out.below) (below_ext HBw.out h.out)))
  have HB_0 : Hid (Below w0.heap.size w0 w0) := Lib.hid (Below.refl _ _)
  have HW := Lib.hid hW
  have kRB := Lib.hid (show ∀ u : World, Hid (Below w0.heap.size w0 u) → Hid (u.heap[w.heap.size + 2]? = some (.cells #[.slice none 0 0, .slice none 0 0] 25)) from fun u h => Lib.hid (blk_below (by rw [← hW]; exact heap_alloc3_new _ _ _ _) h.out))
  clear hW hc hv hO hK
  go_enter Tryd.func7, Tryd.ntmps7
  go_upto_region 1 with (fail)
  rw [HW.out]
  obtain ⟨zc0, zc1, zc2, zc3, zc4, zc5, zc6⟩ := kC.out _ HB_0
  go_wp2_with fail
  refine (tval_any O os n c K hs m d hn hm hI hb1 hb2 true hr _ (kD.out _ HB_0) (kOs.out _ HB_0) (kHs.out _ HB_0)).mono ?_
  rintro e w1 ⟨rfl, hb0⟩
  have HB_1 := Lib.hid (below_ext HB_0.out hb0)
  clear zc0 zc1 zc2 zc3 zc4 zc5 zc6
  clear hb0
  obtain ⟨zc0, zc1, zc2, zc3, zc4, zc5, zc6⟩ := kC.out _ HB_1
  go_wp2_with fail
  refine (reason_any s true hrs _).mono ?_
  rintro e9 w9 ⟨rfl, hw9⟩
  rw [hw9]
  clear hw9
  go_wp2_with fail
  refine (tshort_any A na ca C Z nz cz true hsh _).mono ?_
  rintro e w2 ⟨rfl, hb0⟩
  have HB_2 := Lib.hid (below_ext HB_1.out hb0)
  clear zc0 zc1 zc2 zc3 zc4 zc5 zc6
  clear hb0
  obtain ⟨zc0, zc1, zc2, zc3, zc4, zc5, zc6⟩ := kC.out _ HB_2
  go_wp2_with fail
  refine (open_any O os n c K m d hn hb1 false ho9 _ (kOs.out _ HB_2)).mono ?_
  rintro e w3 ⟨rfl, hb0⟩
  have HB_3 := Lib.hid (below_ext HB_2.out hb0)
  clear zc0 zc1 zc2 zc3 zc4 zc5 zc6
  clear hb0
  obtain ⟨zc0, zc1, zc2, zc3, zc4, zc5, zc6⟩ := kC.out _ HB_3
  have HRF := kRB.out _ HB_3
  have hbF := below_setRow' (below_ext HBw.out HB_3.out) (cs := #[.slice none 0 0, .slice none 0 0]) (Nat.le_add_right w.heap.size 2)
  go_wp2_with ((with_reducible show wpList _ _ _ (⟨none, _, _, _, _, _⟩ :: _) _ _); refine wpList_store_row rfl 25 _ _ rfl (w.heap.size + 2) #[.slice none 0 0, .slice none 0 0] rfl rfl _ _ HRF.out (by kernel_rfl) rfl (by simp [Value.oneCell']) ?_)
  have hrw := setRow_heap _ _ _ #[.slice none 0 0, .slice none 0 0] _ _ HRF.out
  exact bodyPost_ret (v := .tuple #[tlV none 0 0 none 0 0, .int .i64 0, .int .i64 5]) (results_cell_tmp3 (p := 6) (q := 7) (r := 8) (ty := 25) rfl _ _ ⟨w.heap.size + 2, 0, none⟩ _ _ _ rfl rfl rfl (run_loadVar_row _ _ _ _ _ _ _ hrw Tryd.underlying25 rfl (by kernel_rfl))) rfl (trRet_none rfl hbF)
theorem nine_row {w : World} {g k : Nat} {o : OrdR} (h : ∀ r, r < 9 → w.cell? ⟨g, k * 9 + r, none⟩ = (ordC o)[r]?) : Nine w g (0 + k * 9) o := by
  rw [Nat.zero_add]
  exact ⟨h 0 (by decide), h 1 (by decide), h 2 (by decide), h 3 (by decide), h 4 (by decide), h 5 (by decide), h 6 (by decide), h 7 (by decide), h 8 (by decide)⟩
theorem os_row {w : World} {base n cap g : Nat} {os : List OrdR} (h : w.ownsRow base 46 9 (.slice (some ⟨g, 0, none⟩) n cap) n (os.flatMap ordC)) (hn : os.length = n) (hok : ∀ k, k < n → OrdOk w (orL os k)) : Os w (some ⟨g, 0, none⟩) os := fun k hk => by
  obtain ⟨g', cap', e, _, _, _, _, hc⟩ := own_cells ordC 9 noOrd h hn (fun _ _ => rfl) (by omega)
  cases e
  exact ⟨g, 0, rfl, nine_row (hc k (by omega)), hok k (by omega)⟩
theorem Cld.opened {lw lo n m c d B N gg cap gT r : Nat} {os os' : List OrdR} {hs : List (List Int)} {O K : Option Addr} {Li : Option Nat} {u w8 wF : World} {o : OrdR} (h : Cld lw n lo os n hs m O c K d os' B N Li u) (hl : ∀ x ∈ hs, x.length = 32) (hm : hs.length = m)
    (hown : w8.ownsRow (B + 1) 46 9 (.slice (some ⟨gg, 0, none⟩) (n + 1) cap) (n + 1) (os'.flatMap ordC ++ ordC o)) (hgF : wF.heap[gg]? = w8.heap[gg]?) (hF : ∀ b, b < u.heap.size → (Value.slice O n c).ownBlock ≠ some b → b ≠ gT → b ≠ r → wF.heap[b]? = u.heap[b]?) (hT : (lw ≤ gT ∧ gT < lo) ∨ N ≤ gT) (hr : lw ≤ r ∧ r < lo) (hok : OrdOk wF o) :
    Os wF (some ⟨gg, 0, none⟩) (os' ++ [o]) ∧ Hs wF K hs := by
  have hlB := h.lB
  have hNu := h.Nu
  have hBN := h.BN
  refine ⟨?_, ?_⟩
  · refine os_row (base := B + 1) (n := n + 1) (cap := cap) (own_same (by rw [List.flatMap_append]; simpa using hown) (fun b e => by cases e; exact hgF)) (by rw [List.length_append, h.l]; rfl) fun k hk => ?_
    by_cases e : k = n
    · subst e; rw [orL_app_r h.l]; exact hok
    · rw [orL_app_l (by rw [h.l]; omega)]
      refine (h.ne k (by omega) e) wF fun b hb hnd => hF b hb (fun e => hnd (.inr (.inr (.inl e)))) (fun e => hnd ?_) (fun e => hnd (.inl ⟨by omega, by omega⟩))
      rcases hT with q | q
      · exact .inl ⟨by omega, by omega⟩
      · exact .inr (.inl (by omega))
  · refine hs_own (own_same h.rk fun b e => ?_) hm hl
    have hb := h.bk b e
    exact hF b (by omega) (fun e => by have := h.bo b e; omega) (by omega) (by omega)
set_option maxHeartbeats 25600000 in
theorem opn_ok (O : Option Addr) (os : List OrdR) (n c : Nat) (K : Option Addr) (hs : List (List Int)) (m d : Nat) (hn : Hid (os.length = n)) (hm : Hid (hs.length = m)) (hI : ∀ k, k < n → OrdI (orL os k)) (hb1 : n ≤ 1000000) (hb2 : m ≤ 1000000) (hSo : ∀ k, k < n → OrdS (orL os k)) (E1 E2 : Int) (A : Option Addr) (na ca : Nat) (al : List Int) (C : Int) (Z : Option Addr) (nz cz : Nat) (zs : List Int) (s : ByteArray) (hna : Hid (al.length = na)) (hnz : Hid (zs.length = nz)) (hba : na ≤ 100000) (hbz : nz ≤ 100000) (hrs : Hid (rsB s = true)) (hsh : Hid (shB na nz = true)) (ho9 : Hid (opnB os n = false)) (h100 : Hid (n ≠ 100)) (hr : Kp (trlB os hs = true)) (w : World) (hv : Hid (VarsD w)) (hO : Hid (Os w O os)) (hK : Hid (Hs w K hs)) (hA : Hid (Sl w A al)) (hZ : Hid (Sl w Z zs)) :
    Calls Tryd.prog 7 #[tlV O n c K m d, .string s, esV E1 E2 A na ca C Z nz cz] w (TrRet (os ++ [(⟨(n : Int), s, E1, E2, A, na, ca, al, C, Z, nz, cz, zs, none, 0, 0, [], 0⟩ : OrdR)]) (n + 1) hs m [.int .i64 (n : Int), .int .i64 0] w) := by
  have d100 : (((n : Nat) : Int) == 100) = false := by have := h100.out; simp; omega
  obtain ⟨w0, hW⟩ : ∃ W, (((w.alloc (tlO O n c K m d)).alloc (esO E1 E2 A na ca C Z nz cz)).alloc (.cells #[.slice none 0 0, .slice none 0 0] 25)) = W := ⟨_, rfl⟩
  have HBw : Hid (Below w.heap.size w w0) := Lib.hid (by rw [← hW]; exact (((Below.refl _ _).alloc (Nat.le_refl _) _).alloc (by simp) _).alloc (by simp; omega) _)
  have hc : w0.cell? ⟨w.heap.size, 0, none⟩ = some (.slice O n c) ∧ w0.cell? ⟨w.heap.size, 1, none⟩ = some (.slice K m d) ∧ w0.cell? ⟨w.heap.size + 1, 0, none⟩ = some (.int .i64 E1) ∧ w0.cell? ⟨w.heap.size + 1, 1, none⟩ = some (.int .i64 E2) ∧ w0.cell? ⟨w.heap.size + 1, 2, none⟩ = some (.slice A na ca) ∧ w0.cell? ⟨w.heap.size + 1, 3, none⟩ = some (.int .i64 C) ∧ w0.cell? ⟨w.heap.size + 1, 4, none⟩ = some (.slice Z nz cz) := by rw [← hW]; exact ⟨cell_below (cell_below (allocs_cell (by simp) (by rfl)) (below_box0 _ _)) (below_box0 _ _), cell_below (cell_below (allocs_cell (by simp) (by rfl)) (below_box0 _ _)) (below_box0 _ _), cell_below (allocs_cell (by simp) (by rfl)) (below_box0 _ _), cell_below (allocs_cell (by simp) (by rfl)) (below_box0 _ _), cell_below (allocs_cell (by simp) (by rfl)) (below_box0 _ _), cell_below (allocs_cell (by simp) (by rfl)) (below_box0 _ _), cell_below (allocs_cell (by simp) (by rfl)) (below_box0 _ _)⟩
  have kC := Lib.hid (show ∀ u : World, Hid (Below w0.heap.size w0 u) → u.cell? ⟨w.heap.size, 0, none⟩ = some (.slice O n c) ∧ u.cell? ⟨w.heap.size, 1, none⟩ = some (.slice K m d) ∧ u.cell? ⟨w.heap.size + 1, 0, none⟩ = some (.int .i64 E1) ∧ u.cell? ⟨w.heap.size + 1, 1, none⟩ = some (.int .i64 E2) ∧ u.cell? ⟨w.heap.size + 1, 2, none⟩ = some (.slice A na ca) ∧ u.cell? ⟨w.heap.size + 1, 3, none⟩ = some (.int .i64 C) ∧ u.cell? ⟨w.heap.size + 1, 4, none⟩ = some (.slice Z nz cz) from fun u h => ⟨cell_below hc.1 h.out, cell_below hc.2.1 h.out, cell_below hc.2.2.1 h.out, cell_below hc.2.2.2.1 h.out, cell_below hc.2.2.2.2.1 h.out, cell_below hc.2.2.2.2.2.1 h.out, cell_below hc.2.2.2.2.2.2 h.out⟩)
  have kD := Lib.hid (show ∀ u : World, Hid (Below w0.heap.size w0 u) → Hid (VarsD u) from fun u h => Lib.hid ((hv.out.below) (below_ext HBw.out h.out)))
  have kOs := Lib.hid (show ∀ u : World, Hid (Below w0.heap.size w0 u) → Hid (Os u O os) from fun u h => Lib.hid ((hO.out.below) (below_ext HBw.out h.out)))
  have kHs := Lib.hid (show ∀ u : World, Hid (Below w0.heap.size w0 u) → Hid (Hs u K hs) from fun u h => Lib.hid ((hK.out.below) (below_ext HBw.out h.out)))
  have kA := Lib.hid (show ∀ u : World, Hid (Below w0.heap.size w0 u) → Hid (Sl u A al) from fun u h => Lib.hid ((hA.out.below) (below_ext HBw.out h.out)))
  have kZ := Lib.hid (show ∀ u : World, Hid (Below w0.heap.size w0 u) → Hid (Sl u Z zs) from fun u h => Lib.hid ((hZ.out.below) (below_ext HBw.out h.out)))
  have HB_0 : Hid (Below w0.heap.size w0 w0) := Lib.hid (Below.refl _ _)
  have HW := Lib.hid hW
  have kFr := Lib.hid (show ∀ u : World, Hid (Below w0.heap.size w0 u) → ∀ j, u.frozen? ⟨w.heap.size + 1, j, none⟩ = false from fun u h j => frozen_blk (blk_below (by rw [← hW]; exact blk_below (heap_alloc2_new _ _ _) (below_box0 _ _)) h.out) j)
  have kRB := Lib.hid (show ∀ u : World, Hid (Below w0.heap.size w0 u) → Hid (u.heap[w.heap.size + 2]? = some (.cells #[.slice none 0 0, .slice none 0 0] 25)) from fun u h => Lib.hid (blk_below (by rw [← hW]; exact heap_alloc3_new _ _ _ _) h.out))
  clear hW hc hv hA hZ
  have HSZ0 : Hid (w0.heap.size = w.heap.size + 3) := Lib.hid (by rw [← HW.out]; simp)
  obtain ⟨i1, hi1, hy0, hy1, hy2⟩ := info_parts ordInfo
  go_enter Tryd.func7, Tryd.ntmps7
  go_upto_region 1 with (fail)
  rw [HW.out]
  obtain ⟨zc0, zc1, zc2, zc3, zc4, zc5, zc6⟩ := kC.out _ HB_0
  go_wp2_with fail
  refine (tval_any O os n c K hs m d hn hm hI hb1 hb2 true hr _ (kD.out _ HB_0) (kOs.out _ HB_0) (kHs.out _ HB_0)).mono ?_
  rintro e w1 ⟨rfl, hb0⟩
  have HB_1 := Lib.hid (below_ext HB_0.out hb0)
  clear zc0 zc1 zc2 zc3 zc4 zc5 zc6
  clear hb0
  obtain ⟨zc0, zc1, zc2, zc3, zc4, zc5, zc6⟩ := kC.out _ HB_1
  go_wp2_with fail
  refine (reason_any s true hrs _).mono ?_
  rintro e9 w9 ⟨rfl, hw9⟩
  rw [hw9]
  clear hw9
  go_wp2_with fail
  refine (tshort_any A na ca C Z nz cz true hsh _).mono ?_
  rintro e w2 ⟨rfl, hb0⟩
  have HB_2 := Lib.hid (below_ext HB_1.out hb0)
  clear zc0 zc1 zc2 zc3 zc4 zc5 zc6
  clear hb0
  obtain ⟨zc0, zc1, zc2, zc3, zc4, zc5, zc6⟩ := kC.out _ HB_2
  go_wp2_with fail
  refine (open_any O os n c K m d hn hb1 false ho9 _ (kOs.out _ HB_2)).mono ?_
  rintro e w3 ⟨rfl, hb0⟩
  have HB_3 := Lib.hid (below_ext HB_2.out hb0)
  clear zc0 zc1 zc2 zc3 zc4 zc5 zc6
  clear hb0
  obtain ⟨zc0, zc1, zc2, zc3, zc4, zc5, zc6⟩ := kC.out _ HB_3
  go_wp2_with fail
  refine (proof_f A na ca al C Z nz cz zs hna hnz hba hbz _ (kA.out _ HB_3) (kZ.out _ HB_3)).mono ?_
  rintro e w4 ⟨A2, ca2, Z2, cz2, rfl, hsa, hsz, hb0⟩
  have HSA := Lib.hid hsa
  have HSZ := Lib.hid hsz
  clear hsa hsz
  have HB_4 := Lib.hid (below_ext HB_3.out hb0)
  clear zc0 zc1 zc2 zc3 zc4 zc5 zc6
  clear hb0
  obtain ⟨zc0, zc1, zc2, zc3, zc4, zc5, zc6⟩ := kC.out _ HB_4
  have f0 := kFr.out _ HB_4 0
  have f1 := kFr.out _ HB_4 1
  have f2 := kFr.out _ HB_4 2
  have f3 := kFr.out _ HB_4 3
  have f4 := kFr.out _ HB_4 4
  go_upto_region 10 with (fail)
  obtain ⟨wz, hwz⟩ : ∃ x, (((w4.setCell ⟨w.heap.size + 1, 2, none⟩ (.slice A2 na ca2)).setCell ⟨w.heap.size + 1, 3, none⟩ (.int .i64 C)).setCell ⟨w.heap.size + 1, 4, none⟩ (.slice Z2 nz cz2)) = x := ⟨_, rfl⟩
  have HE : Hid (wz.cell? ⟨w.heap.size + 1, 0, none⟩ = some (.int .i64 E1) ∧ wz.cell? ⟨w.heap.size + 1, 1, none⟩ = some (.int .i64 E2) ∧ wz.cell? ⟨w.heap.size + 1, 2, none⟩ = some (.slice A2 na ca2) ∧ wz.cell? ⟨w.heap.size + 1, 3, none⟩ = some (.int .i64 C) ∧ wz.cell? ⟨w.heap.size + 1, 4, none⟩ = some (.slice Z2 nz cz2)) := Lib.hid (by
    rw [← hwz]
    exact ⟨(own_set_ne2 (own_set_ne2 (own_set_ne2 ⟨zc2, f0⟩ (by simp)) (by simp)) (by simp)).1, (own_set_ne2 (own_set_ne2 (own_set_ne2 ⟨zc3, f1⟩ (by simp)) (by simp)) (by simp)).1, (own_set_ne2 (own_set_ne2 (own_set_eq2 ⟨zc4, f2⟩) (by simp)) (by simp)).1, (own_set_ne2 (own_set_eq2 (own_set_ne2 ⟨zc5, f3⟩ (by simp))) (by simp)).1, (own_set_eq2 (own_set_ne2 (own_set_ne2 ⟨zc6, f4⟩ (by simp)) (by simp))).1⟩)
  have HT : Hid (wz.cell? ⟨w.heap.size, 0, none⟩ = some (.slice O n c) ∧ wz.cell? ⟨w.heap.size, 1, none⟩ = some (.slice K m d)) := Lib.hid (by
    rw [← hwz]
    exact ⟨by rw [World.cell?_setCell_other _ _ _ _ (by simp), World.cell?_setCell_other _ _ _ _ (by simp), World.cell?_setCell_other _ _ _ _ (by simp)]; exact zc0, by rw [World.cell?_setCell_other _ _ _ _ (by simp), World.cell?_setCell_other _ _ _ _ (by simp), World.cell?_setCell_other _ _ _ _ (by simp)]; exact zc1⟩)
  have HBz : Hid (Below w.heap.size w wz) := Lib.hid (by rw [← hwz]; exact (((below_ext HBw.out HB_4.out).setCell (by simp) _).setCell (by simp) _).setCell (by simp) _)
  have HRz : Hid (wz.heap[w.heap.size + 2]? = some (.cells #[.slice none 0 0, .slice none 0 0] 25)) := Lib.hid (by rw [← hwz]; exact (Go.Deep.blk_setCell_other _ _ _ _ (show w.heap.size + 2 ≠ w.heap.size + 1 by omega)).trans ((Go.Deep.blk_setCell_other _ _ _ _ (show w.heap.size + 2 ≠ w.heap.size + 1 by omega)).trans ((Go.Deep.blk_setCell_other _ _ _ _ (show w.heap.size + 2 ≠ w.heap.size + 1 by omega)).trans (kRB.out _ HB_4).out)))
  have HSz : Hid (w.heap.size + 3 ≤ wz.heap.size) := Lib.hid (by rw [← hwz, World.size_setCell, World.size_setCell, World.size_setCell]; have := (HB_4).out.size; have := HSZ0.out; omega)
  have HSL : Hid (w.heap.size + 3 ≤ w3.heap.size) := Lib.hid (by have := (HB_3).out.size; have := HSZ0.out; omega)
  have HDA : Hid (Dep (fun b => b < w.heap.size + 3) wz (fun u => Sl u A2 al)) := Lib.hid (by
    have hlt : w.heap.size + 1 < w.heap.size + 3 := by omega
    rw [← hwz]; exact (((sl_dep (D := fun b => b < w.heap.size + 3) HSA.out.1 fun b o e h0 => Nat.not_lt.2 (Nat.le_trans HSL.out (HSA.out.2 b o e h0))).setCell hlt).setCell hlt).setCell hlt)
  have HDZ : Hid (Dep (fun b => b < w.heap.size + 3) wz (fun u => Sl u Z2 zs)) := Lib.hid (by
    have hlt : w.heap.size + 1 < w.heap.size + 3 := by omega
    rw [← hwz]; exact (((sl_dep (D := fun b => b < w.heap.size + 3) HSZ.out.1 fun b o e h0 => Nat.not_lt.2 (Nat.le_trans HSL.out (HSZ.out.2 b o e h0))).setCell hlt).setCell hlt).setCell hlt)
  have HOZ : Hid (Os wz O os) := Lib.hid (hO.out.below HBz.out)
  have HKZ : Hid (Hs wz K hs) := Lib.hid (hK.out.below HBz.out)
  rw [hwz]
  clear hwz f0 f1 f2 f3 f4
  clear zc0 zc1 zc2 zc3 zc4 zc5 zc6
  clear kC kFr kD
  have kC := Lib.hid (show ∀ u : World, Hid (Below wz.heap.size wz u) → u.cell? ⟨w.heap.size, 0, none⟩ = some (.slice O n c) ∧ u.cell? ⟨w.heap.size, 1, none⟩ = some (.slice K m d) from fun u h => ⟨cell_below HT.out.1 h.out, cell_below HT.out.2 h.out⟩)
  have HB_z : Hid (Below wz.heap.size wz wz) := Lib.hid (Below.refl _ _)
  have kOz := Lib.hid (show ∀ u : World, Hid (Below wz.heap.size wz u) → Hid (Os u O os) from fun u h => Lib.hid (HOZ.out.below h.out))
  have kHz := Lib.hid (show ∀ u : World, Hid (Below wz.heap.size wz u) → Hid (Hs u K hs) from fun u h => Lib.hid (HKZ.out.below h.out))
  have hBx := Lib.hid (show ∀ u u2 : World, Hid (Below wz.heap.size wz u) → Below u.heap.size u u2 → Hid (Below wz.heap.size wz u2) from fun u u2 h1 h2 => Lib.hid (below_ext h1.out h2))
  have hS := Lib.hid (show ∀ u : World, Hid (Below wz.heap.size wz u) → (u.cell? ⟨w.heap.size, 0, none⟩ = some (.slice O n c) ∧ u.cell? ⟨w.heap.size, 1, none⟩ = some (.slice K m d)) from fun u h1 => by
    obtain ⟨y0, y1⟩ := kC.out _ (Lib.hid h1.out)
    exact ⟨y0, y1⟩)
  have HBA : Hid (Below wz.heap.size wz wz) := Lib.hid HB_z.out
  have HBD := hBx.out _ _ HBA (Below.refl _ _).drew
  refine wp_region_T (S := fun w' => w'.cell? ⟨w.heap.size, 0, none⟩ = some (.slice O n c) ∧ w'.cell? ⟨w.heap.size, 1, none⟩ = some (.slice K m d)) (E := [7]) (by kernel_rfl) (hS.out _ HBD) (fun hHeld => ?_)
  obtain ⟨wD, hwD⟩ : ∃ u, wz.drew = u := ⟨_, rfl⟩
  rw [hwD] at HBD hHeld ⊢
  have HSZD : Hid (wz.heap.size ≤ wD.heap.size) := Lib.hid (by rw [← hwD]; exact Nat.le_refl _)
  clear hwD
  refine tkV 0 ?_
  try simp only [qq1, qq2, qq3, Act.put, qq4, qq5, qq6]
  refine tkV 2 ?_
  try simp only [qq1, qq2, qq3, Act.put, qq4, qq5, qq6]
  refine tkV 3 ?_
  try simp only [qq1, qq2, qq3, Act.put, qq4, qq5, qq6]
  refine tkV 4 ?_
  try simp only [qq1, qq2, qq3, Act.put, qq4, qq5, qq6]
  refine wpT_frame (fun T a0 hT ha0 => ?_)
  clear hHeld
  have G1_5_6 : ∀ (O9 : Option Addr) (c9 : Nat) (K9 : Option Addr) (d9 : Nat) (os9 : List OrdR) (B9 : Nat) (N9 : Nat) (lo9 : Nat) (Li9 : Option Nat) (gT : Nat) (u : World), (Hid (Below wz.heap.size wz u)) → (Hid (Cld 0 n lo9 os n hs m O9 c9 K9 d9 os9 B9 N9 Li9 u)) → (Hid (wz.heap.size ≤ lo9)) → (Hid (∃ cs, u.heap[gT]? = some (.cells cs 25) ∧ cs.size = 2)) → (Hid (wz.heap.size ≤ gT)) → (Hid (gT < u.heap.size)) → (Hid (u.heap[gT]? = some (.cells #[.slice O9 n c9, .slice K9 m d9] 25))) → (Hid (gT < lo9 ∨ N9 ≤ gT)) → T 1 #[true, true, true, true, true, true, true, false] ((a0.put (some 42) (tlV O9 n c9 K9 m d9)).put (some 9) (.pointer (some ⟨gT, 0, none⟩))) u := by
    intro O9 c9 K9 d9 os9 B9 N9 lo9 Li9 gT u FB FC FCl FT FTl FGl FT2 FX
    have hHeld := hS.out _ FB
    rw [hT, ha0]
    try simp only [qq1, qq2, qq3, Act.put, qq4, qq5, qq6]
    have HE_wz := Lib.hid FB.out
    refine wpT_pass (i := 7) (by kernel_rfl) (by simp) rfl (fun K hK => ?_)
    go_simp
    refine hK.out _ _ ?_
    clear hK K
    try simp only [qq1, qq2, qq3, Act.put, qq4, qq5, qq6]
    refine wpT_done (by kernel_rfl) ?_ _
    clear hHeld hT ha0
    obtain ⟨wq, hwq⟩ : ∃ x, u = x := ⟨_, rfl⟩
    have HTq : Hid (wq.heap[gT]? = some (.cells #[.slice O9 n c9, .slice K9 m d9] 25)) := Lib.hid (by rw [← hwq]; exact FT2.out)
    have HBq : Hid (Below wz.heap.size wz wq) := Lib.hid (by rw [← hwq]; exact FB.out)
    have HCq : Hid (Cld 0 n lo9 os n hs m O9 c9 K9 d9 os9 B9 N9 Li9 wq) := Lib.hid (by rw [← hwq]; exact FC.out)
    rw [hwq]
    clear hwq FT FT2 FC
    have HE5 : Hid (wq.cell? ⟨w.heap.size + 1, 0, none⟩ = some (.int .i64 E1) ∧ wq.cell? ⟨w.heap.size + 1, 1, none⟩ = some (.int .i64 E2) ∧ wq.cell? ⟨w.heap.size + 1, 2, none⟩ = some (.slice A2 na ca2) ∧ wq.cell? ⟨w.heap.size + 1, 3, none⟩ = some (.int .i64 C) ∧ wq.cell? ⟨w.heap.size + 1, 4, none⟩ = some (.slice Z2 nz cz2)) := Lib.hid ⟨cell_below HE.out.1 HBq.out, cell_below HE.out.2.1 HBq.out, cell_below HE.out.2.2.1 HBq.out, cell_below HE.out.2.2.2.1 HBq.out, cell_below HE.out.2.2.2.2 HBq.out⟩
    obtain ⟨e0, e1, e2, e3, e4⟩ := HE5.out
    have t0 := cell_blk HTq.out 0
    have t1 := cell_blk HTq.out 1
    have y0 := frozen_blk HTq.out 0
    have hNu := HCq.out.Nu
    have hBN := HCq.out.BN
    have hlB := HCq.out.lB
    have hown : (wq.alloc (.cells #[.int .i64 (n : Int), .string s, .int .i64 E1, .int .i64 E2, .slice A2 na ca2, .int .i64 C, .slice Z2 nz cz2, .slice none 0 0, .int .i64 0] 46)).ownsRow (B9 + 1) 46 9 (.slice O9 n c9) n (os9.flatMap ordC) := HCq.out.ro.alloc _
    have b5 : n + 1 ≤ maxLen := by unfold maxLen; omega
    have b6 : (n + 1) * 128 ≤ 140737488355328 := by omega
    have b7 : B9 + 1 ≤ (wq.alloc (.cells #[.int .i64 (n : Int), .string s, .int .i64 E1, .int .i64 E2, .slice A2 na ca2, .int .i64 C, .slice Z2 nz cz2, .slice none 0 0, .int .i64 0] 46)).heap.size := by simp; omega
    have HTa := Lib.hid (below_box0 wq (.cells #[.int .i64 (n : Int), .string s, .int .i64 E1, .int .i64 E2, .slice A2 na ca2, .int .i64 C, .slice Z2 nz cz2, .slice none 0 0, .int .i64 0] 46))
    have hno8 : (Value.slice O9 n c9).ownBlock ≠ some gT := fun e => by have := HCq.out.bo _ e; have := FX.out; omega
    go_upto_region 12 with (at_builtin; refine wpList_append_lies rfl _ _ 22 rfl (B9 + 1) 46 i1 (.agg #[.int .i64 0, .string ⟨#[]⟩, .int .i64 0, .int .i64 0, .slice none 0 0, .int .i64 0, .slice none 0 0, .slice none 0 0, .int .i64 0]) 9 128 Tryd.underlying22 hi1 hy0 hy1 hy2 (by rfl) (by decide) _ _ _ rfl hown ⟨wq.heap.size, 0, none⟩ 1 1 [.int .i64 (n : Int), .string s, .int .i64 E1, .int .i64 E2, .slice A2 na ca2, .int .i64 C, .slice Z2 nz cz2, .slice none 0 0, .int .i64 0] rfl rfl (World.news_of_block (cs := #[.int .i64 (n : Int), .string s, .int .i64 E1, .int .i64 E2, .slice A2 na ca2, .int .i64 C, .slice Z2 nz cz2, .slice none 0 0, .int .i64 0]) (t := 46) (fr := (0, 0)) (heap_alloc_new wq _)) (by simp [Value.oneCell']) (by decide) b5 b6 b7 _ rfl ?_; intro gg cap w8 hown8 hgrow8 hgg8 hlt8; obtain ⟨p1, p2⟩ := own_grown2 (w := wq.alloc (.cells #[.int .i64 (n : Int), .string s, .int .i64 E1, .int .i64 E2, .slice A2 na ca2, .int .i64 C, .slice Z2 nz cz2, .slice none 0 0, .int .i64 0] 46)) ((show Own wq ⟨gT, 0, none⟩ (.slice O9 n c9) from ⟨t0, y0⟩).below HTa.out) hgrow8 hno8; obtain ⟨p3, p4⟩ := own_grown2 (w := wq.alloc (.cells #[.int .i64 (n : Int), .string s, .int .i64 E1, .int .i64 E2, .slice A2 na ca2, .int .i64 C, .slice Z2 nz cz2, .slice none 0 0, .int .i64 0] 46)) ((show Own wq ⟨gT, 1, none⟩ (.slice K9 m d9) from ⟨t1, frozen_blk HTq.out 1⟩).below HTa.out) hgrow8 hno8)
    have hgT : gT < wq.heap.size := heap_lt HTq.out
    have hsq : (wq.alloc (.cells #[.int .i64 (n : Int), .string s, .int .i64 E1, .int .i64 E2, .slice A2 na ca2, .int .i64 C, .slice Z2 nz cz2, .slice none 0 0, .int .i64 0] 46)).heap.size = wq.heap.size + 1 := by simp
    have HOW : Hid (w8.ownsRow (B9 + 1) 46 9 (.slice (some ⟨gg, 0, none⟩) (n + 1) cap) (n + 1) (os9.flatMap ordC ++ ordC (⟨(n : Int), s, E1, E2, A2, na, ca2, al, C, Z2, nz, cz2, zs, none, 0, 0, [], 0⟩ : OrdR))) := Lib.hid (by simpa using hown8)
    have HGG : Hid ((Value.slice O9 n c9).ownBlock = some gg ∨ wq.heap.size ≤ gg) := Lib.hid (by rcases hgg8 with e | e; exact .inl e; exact .inr (by omega))
    obtain ⟨w9, hw9⟩ : ∃ x, w8.setCell ⟨gT, 0, none⟩ (.slice (some ⟨gg, 0, none⟩) (n + 1) cap) = x := ⟨_, rfl⟩
    have T0 : Own w9 ⟨gT, 0, none⟩ (.slice (some ⟨gg, 0, none⟩) (n + 1) cap) := by rw [← hw9]; exact own_set_eq2 ⟨p1, p2⟩
    have T1 : Own w9 ⟨gT, 1, none⟩ (.slice K9 m d9) := by rw [← hw9]; exact own_set_ne2 ⟨p3, p4⟩ (by simp)
    have HFR : Hid (∀ b, b < wq.heap.size → (Value.slice O9 n c9).ownBlock ≠ some b → b ≠ gT → w9.heap[b]? = wq.heap[b]?) := Lib.hid (fun b h1 h2 h3 => by rw [← hw9]; exact (Go.Deep.blk_setCell_other _ _ _ _ h3).trans ((hgrow8.block b (by omega) (fun e => h2 e.symm)).trans (HTa.out.block b h1)))
    have HGF : Hid (gg ≠ gT ∧ w9.heap[gg]? = w8.heap[gg]?) := Lib.hid (by
      have hne : gg ≠ gT := by
        rcases HGG.out with e | e
        · exact fun e2 => hno8 (by rw [e, e2])
        · omega
      refine ⟨hne, ?_⟩
      rw [← hw9]; exact Go.Deep.blk_setCell_other _ _ _ _ hne)
    have HB8 : Hid (Below wz.heap.size wz w9) := Lib.hid (by
      have hlz := FCl.out
      rw [← hw9]
      exact ((HBq.out.alloc HBq.out.size (.cells #[.int .i64 (n : Int), .string s, .int .i64 E1, .int .i64 E2, .slice A2 na ca2, .int .i64 C, .slice Z2 nz cz2, .slice none 0 0, .int .i64 0] 46)).grown hgrow8 (by have := HBq.out.size; simp; omega) (fun j hj => by have := HCq.out.bo j hj; omega)).setCell FTl.out _)
    have HR9 : Hid (w9.heap[w.heap.size + 2]? = some (.cells #[.slice none 0 0, .slice none 0 0] 25)) := Lib.hid (blk_below HRz.out HB8.out)
    rw [hw9]
    clear hw9 hown hown8 hgrow8 hgg8 hlt8 p1 p2 p3 p4 e0 e1 e2 e3 e4 t0 t1 y0 b5 b6 b7 hsq
    obtain ⟨t0, y0⟩ := T0
    obtain ⟨t1, y1⟩ := T1
    go_wp2_with ((with_reducible show wpList _ _ _ (⟨none, _, _, _, _, _⟩ :: _) _ _); refine wpList_store_row rfl 25 _ _ rfl (w.heap.size + 2) #[.slice (some ⟨gg, 0, none⟩) (n + 1) cap, .slice K9 m d9] rfl rfl _ _ HR9.out (by kernel_rfl) rfl (by simp [Value.oneCell']) ?_)
    have hrw := setRow_heap _ _ _ #[.slice (some ⟨gg, 0, none⟩) (n + 1) cap, .slice K9 m d9] _ _ HR9.out
    have hbF := below_setRow' (below_ext HBz.out HB8.out) (cs := #[.slice (some ⟨gg, 0, none⟩) (n + 1) cap, .slice K9 m d9]) (Nat.le_add_right w.heap.size 2)
    have hsz3 := HSz.out
    have hlz := FCl.out
    have hX := FX.out
    have hgR : gg ≠ w.heap.size + 2 := by
      rcases HGG.out with e | e
      · have := HCq.out.bo _ e; omega
      · have := HBq.out.size; omega
    have hokN : OrdOk (w9.setRow (w.heap.size + 2) #[.slice (some ⟨gg, 0, none⟩) (n + 1) cap, .slice K9 m d9]) (⟨(n : Int), s, E1, E2, A2, na, ca2, al, C, Z2, nz, cz2, zs, none, 0, 0, [], 0⟩ : OrdR) := by
      have hag : ∀ b, b < wz.heap.size → ¬ b < w.heap.size + 3 → (w9.setRow (w.heap.size + 2) #[.slice (some ⟨gg, 0, none⟩) (n + 1) cap, .slice K9 m d9]).heap[b]? = wz.heap[b]? := fun b h1 h2 => (setRow_other _ _ _ _ (by omega)).trans (HB8.out.block b h1)
      exact ⟨hna.out, hnz.out, ⟨rfl, Nat.le_refl _⟩, HDA.out _ hag, HDZ.out _ hag, fun j hj => absurd hj (by simp)⟩
    obtain ⟨hos, hhs⟩ := HCq.out.opened (wF := w9.setRow (w.heap.size + 2) #[.slice (some ⟨gg, 0, none⟩) (n + 1) cap, .slice K9 m d9]) (gT := gT) (r := w.heap.size + 2) (o := (⟨(n : Int), s, E1, E2, A2, na, ca2, al, C, Z2, nz, cz2, zs, none, 0, 0, [], 0⟩ : OrdR)) (hs_lens HKZ.out) hm.out HOW.out ((setRow_other _ _ _ _ hgR).trans HGF.out.2) (fun b h1 h2 h3 h4 => (setRow_other _ _ _ _ h4).trans (HFR.out b h1 h2 h3)) (by omega) ⟨Nat.zero_le _, by omega⟩ hokN
    refine bodyPost_ret (v := .tuple #[tlV (some ⟨gg, 0, none⟩) (n + 1) cap K9 m d9, .int .i64 (n : Int), .int .i64 0]) (results_cell_tmp3 (p := 6) (q := 7) (r := 8) (ty := 25) rfl _ _ ⟨w.heap.size + 2, 0, none⟩ _ _ _ rfl rfl rfl (run_loadVar_row _ _ _ _ _ _ _ hrw Tryd.underlying25 rfl (by kernel_rfl))) rfl ⟨some ⟨gg, 0, none⟩, cap, K9, d9, os9 ++ [(⟨(n : Int), s, E1, E2, A2, na, ca2, al, C, Z2, nz, cz2, zs, none, 0, 0, [], 0⟩ : OrdR)], rfl, by rw [List.length_append, HCq.out.l]; rfl, fun k hk => ?_, hos, hhs, hbF⟩
    by_cases e : k = n
    · subst e
      rw [orL_app_r hn.out, orL_app_r HCq.out.l]
      exact ⟨rfl, rfl, rfl, rfl, rfl, rfl, rfl, rfl, rfl, rfl, rfl, rfl, fun q hq => absurd hq (by simp)⟩
    · rw [orL_app_l (by rw [hn.out]; omega), orL_app_l (by rw [HCq.out.l]; omega)]
      exact HCq.out.sam k (by omega)
  have G1_5 : ∀ (O9 : Option Addr) (c9 : Nat) (K9 : Option Addr) (d9 : Nat) (os9 : List OrdR) (B9 : Nat) (N9 : Nat) (lo9 : Nat) (Li9 : Option Nat) (gT : Nat) (u : World), (Hid (Below wz.heap.size wz u)) → (Hid (Cld 0 n lo9 os n hs m O9 c9 K9 d9 os9 B9 N9 Li9 u)) → (Hid (wz.heap.size ≤ lo9)) → (Hid (∃ cs, u.heap[gT]? = some (.cells cs 25) ∧ cs.size = 2)) → (Hid (wz.heap.size ≤ gT)) → (Hid (gT < u.heap.size)) → (Hid (gT < lo9 ∨ N9 ≤ gT)) → T 2 #[true, true, true, true, true, true, false, false] ((a0.put (some 42) (tlV O9 n c9 K9 m d9)).put (some 9) (.pointer (some ⟨gT, 0, none⟩))) u := by
    intro O9 c9 K9 d9 os9 B9 N9 lo9 Li9 gT u FB FC FCl FT FTl FGl FX
    have hHeld := hS.out _ FB
    rw [hT, ha0]
    try simp only [qq1, qq2, qq3, Act.put, qq4, qq5, qq6]
    refine wpT_one (i := 6) (by kernel_rfl) rfl (fun K hK => ?_)
    rw [show (if Region.wanted _ _ = true then _ else _ : Prop) = _ from if_pos rfl]
    obtain ⟨cs0, hcs0, hcz⟩ := FT.out
    refine wp_store_row 25 _ _ rfl gT #[.slice O9 n c9, .slice K9 m d9] rfl rfl 25 _ hcs0 (by kernel_rfl) hcz (by simp [Value.oneCell']) ?_
    have FB2 : Hid (Below wz.heap.size wz (u.setRow gT #[.slice O9 n c9, .slice K9 m d9])) := Lib.hid (below_setRow' FB.out FTl.out)
    refine hK.out _ _ ?_ (fun hHeld => ?_)
    · exact hS.out _ FB2
    clear hK K hHeld
    try simp only [qq1, qq2, qq3, Act.put, qq4, qq5, qq6]
    have hG := G1_5_6 O9 c9 K9 d9 os9 B9 N9 lo9 Li9 gT (u.setRow gT #[.slice O9 n c9, .slice K9 m d9]) FB2 (Lib.hid (FC.out.keep (by simp [World.setRow]) (fun b h1 h2 => setRow_other _ _ _ _ (by have := FX.out; have := FC.out.lB; omega)) (fun b h1 h2 => setRow_other _ _ _ _ (by have := FX.out; have := FC.out.BN; omega)))) FCl (Lib.hid ⟨_, setRow_heap _ _ _ _ _ _ hcs0, rfl⟩) FTl (Lib.hid (by simpa [World.setRow] using FGl.out)) (Lib.hid (setRow_heap _ _ _ _ _ _ hcs0)) FX
    rw [hT, ha0] at hG
    (try simp only [qq1, qq2, qq3, Act.put, qq4, qq5, qq6] at hG)
    exact hG
  have G1 : ∀ (O9 : Option Addr) (c9 : Nat) (K9 : Option Addr) (d9 : Nat) (os9 : List OrdR) (B9 : Nat) (N9 : Nat) (lo9 : Nat) (Li9 : Option Nat) (u : World), (Hid (Below wz.heap.size wz u)) → (Hid (Cld 0 n lo9 os n hs m O9 c9 K9 d9 os9 B9 N9 Li9 u)) → (Hid (wz.heap.size ≤ lo9)) → T 3 #[true, true, true, true, true, false, false, false] (a0.put (some 42) (tlV O9 n c9 K9 m d9)) u := by
    intro O9 c9 K9 d9 os9 B9 N9 lo9 Li9 u FB FC FCl
    have hHeld := hS.out _ FB
    rw [hT, ha0]
    try simp only [qq1, qq2, qq3, Act.put, qq4, qq5, qq6]
    refine wpT_one (i := 5) (by kernel_rfl) rfl (fun K hK => ?_)
    go_simp
    have FB2 := hBx.out _ _ FB (below_box0 u (.cells #[.slice none 0 0, .slice none 0 0] 25))
    refine hK.out _ _ ?_ (fun hHeld => ?_)
    · exact hS.out _ FB2
    clear hK K hHeld
    try simp only [qq1, qq2, qq3, Act.put, qq4, qq5, qq6]
    have hG := G1_5 O9 c9 K9 d9 os9 B9 N9 lo9 Li9 u.heap.size (u.alloc (.cells #[.slice none 0 0, .slice none 0 0] 25)) FB2 (Lib.hid (FC.out.below (below_box0 u (.cells #[.slice none 0 0, .slice none 0 0] 25)))) (FCl) (Lib.hid ⟨_, heap_alloc_new u _, rfl⟩) (Lib.hid FB.out.size) (Lib.hid (by simp)) (Lib.hid (Or.inr FC.out.Nu))
    rw [hT, ha0] at hG
    (try simp only [qq1, qq2, qq3, Act.put, qq4, qq5, qq6] at hG)
    exact hG
  have G5 : ∀ (gT : Nat) (u : World), (Hid (Below wz.heap.size wz u)) → (Hid (∃ cs, u.heap[gT]? = some (.cells cs 25) ∧ cs.size = 2)) → (Hid (wz.heap.size ≤ gT)) → (Hid (gT < u.heap.size)) → T 3 #[true, false, true, true, true, true, false, false] (a0.put (some 9) (.pointer (some ⟨gT, 0, none⟩))) u := by
    intro gT u FB FT FTl FGl
    have hHeld := hS.out _ FB
    rw [hT, ha0]
    try simp only [qq1, qq2, qq3, Act.put, qq4, qq5, qq6]
    refine wpT_one (i := 1) (by kernel_rfl) rfl (fun K hK => ?_)
    go_simp
    refine (cloned_any n O os n c _ hs m d hn hm hb1 hb2 hSo _ (kOz.out _ (Lib.hid FB.out)) (kHz.out _ (Lib.hid FB.out))).mono ?_
    rintro e wB ⟨O8, c8, K8, d8, os8, B8, Li8, rfl, hcl, hq⟩
    have FB2 := hBx.out _ _ FB hq
    refine hK.out _ _ ?_ (fun hHeld => ?_)
    · exact hS.out _ FB2
    clear hK K hHeld
    try simp only [qq1, qq2, qq3, Act.put, qq4, qq5, qq6]
    have hG := G1_5 O8 c8 K8 d8 os8 B8 wB.heap.size u.heap.size Li8 gT wB FB2 (Lib.hid hcl) (Lib.hid FB.out.size) (Lib.hid (by obtain ⟨cs, h, h2⟩ := FT.out; exact ⟨cs, blk_below h hq, h2⟩)) (FTl) (Lib.hid (Nat.lt_of_lt_of_le FGl.out (hq).size)) (Lib.hid (Or.inl FGl.out))
    rw [hT, ha0] at hG
    (try simp only [qq1, qq2, qq3, Act.put, qq4, qq5, qq6] at hG)
    exact hG
  have G0 : ∀  (u : World), (Hid (Below wz.heap.size wz u)) → T 4 #[true, false, true, true, true, false, false, false] a0 u := by
    intro  u FB
    have hHeld := hS.out _ FB
    rw [hT, ha0]
    try simp only [qq1, qq2, qq3, Act.put, qq4, qq5, qq6]
    refine wpT_two (i1 := 1) (i2 := 5) (by kernel_rfl) rfl rfl (fun K hK => ?_) (fun K hK => ?_)
    · skip
      go_simp
      refine (cloned_any n O os n c _ hs m d hn hm hb1 hb2 hSo _ (kOz.out _ (Lib.hid FB.out)) (kHz.out _ (Lib.hid FB.out))).mono ?_
      rintro e wB ⟨O8, c8, K8, d8, os8, B8, Li8, rfl, hcl, hq⟩
      have FB2 := hBx.out _ _ FB hq
      refine hK.out _ _ ?_ (fun hHeld => ?_)
      · exact hS.out _ FB2
      clear hK K hHeld
      try simp only [qq1, qq2, qq3, Act.put, qq4, qq5, qq6]
      have hG := G1 O8 c8 K8 d8 os8 B8 wB.heap.size u.heap.size Li8 wB FB2 (Lib.hid hcl) (Lib.hid FB.out.size)
      rw [hT, ha0] at hG
      (try simp only [qq1, qq2, qq3, Act.put, qq4, qq5, qq6] at hG)
      exact hG
    · skip
      go_simp
      have FB2 := hBx.out _ _ FB (below_box0 u (.cells #[.slice none 0 0, .slice none 0 0] 25))
      refine hK.out _ _ ?_ (fun hHeld => ?_)
      · exact hS.out _ FB2
      clear hK K hHeld
      try simp only [qq1, qq2, qq3, Act.put, qq4, qq5, qq6]
      have hG := G5 u.heap.size (u.alloc (.cells #[.slice none 0 0, .slice none 0 0] 25)) FB2 (Lib.hid ⟨_, heap_alloc_new u _, rfl⟩) (Lib.hid FB.out.size) (Lib.hid (by simp))
      rw [hT, ha0] at hG
      (try simp only [qq1, qq2, qq3, Act.put, qq4, qq5, qq6] at hG)
      exact hG
  exact G0 _ HBD
set_option maxHeartbeats 3200000 in
theorem before_s (O : Option Addr) (n c : Nat) (K : Option Addr) (hs : List (List Int)) (m d k : Nat) (hm : Hid (hs.length = m)) (hk : k < m) (hb2 : m ≤ 1000000) (w : World) (hK : Hid (Hs w K hs)) : Calls Tryd.prog 35 #[tlV O n c K m d, .int .i64 ((k : Int) + 1)] w fun e' w' => e' = .returned (.agg (arr .u8 (hsL hs k))) ∧ Below w.heap.size w w' := by
  have d0 : decide ((k : Int) + 1 = 0) = false := by simp; omega
  have dw : IntKind.i64.wrap ((k : Int) + 1 - 1) = (k : Int) := by rw [show (k : Int) + 1 - 1 = (k : Int) by omega]; exact IntWalk.i64_in _ (by omega)
  have dw2 : wrap64 ((k : Int) + 1 - 1) = (k : Int) := by rw [show (k : Int) + 1 - 1 = (k : Int) by omega]; exact IntWalk.wrap64_in _ (by omega)
  obtain ⟨W, hW⟩ : ∃ W, (w.alloc (tlO O n c K m d)).alloc (.cells #[.int .u8 0, .int .u8 0, .int .u8 0, .int .u8 0, .int .u8 0, .int .u8 0, .int .u8 0, .int .u8 0, .int .u8 0, .int .u8 0, .int .u8 0, .int .u8 0, .int .u8 0, .int .u8 0, .int .u8 0, .int .u8 0, .int .u8 0, .int .u8 0, .int .u8 0, .int .u8 0, .int .u8 0, .int .u8 0, .int .u8 0, .int .u8 0, .int .u8 0, .int .u8 0, .int .u8 0, .int .u8 0, .int .u8 0, .int .u8 0, .int .u8 0, .int .u8 0] 42) = W := ⟨_, rfl⟩
  have HBX : Hid (Below w.heap.size w W) := Lib.hid (by rw [← hW]; exact below_two (Below.refl _ _))
  have HR0 : Hid (Blk .u8 42 W (w.heap.size + 1) (zer 32)) := Lib.hid (by rw [← hW, zarrh]; exact heap_alloc2_new _ _ _)
  have hc : W.cell? ⟨w.heap.size, 0, none⟩ = some (.slice O n c) ∧ W.cell? ⟨w.heap.size, 1, none⟩ = some (.slice K m d) := by rw [← hW]; exact ⟨cell_below (allocs_cell (by simp) (by rfl)) (below_box0 _ _), cell_below (allocs_cell (by simp) (by rfl)) (below_box0 _ _)⟩
  obtain ⟨zc0, zc1⟩ := hc
  obtain ⟨b, o, rfl, hl, hrg0⟩ := hK.out k (by rw [hm.out]; exact hk)
  have hrg := Lib.hid (rangeAt_below hrg0 HBX.out)
  obtain ⟨h, hh⟩ : ∃ h, hsL hs k = h := ⟨_, rfl⟩
  rw [hh] at hrg hl
  rw [hh]
  clear hrg0 hK hm hh
  have HW := Lib.hid hW
  clear hW
  go_enter Tryd.func35, Tryd.ntmps35
  go_upto_region 1 with (fail)
  rw [HW.out]
  go_wp2_with (first | (with_reducible show wpList _ _ _ (⟨_, .load 42 _, _, _, _, _⟩ :: _) _ _; refine wpList_load_mid rfl _ _ rfl b (o + k * 32) rfl (h.map (Value.int .u8)) _ hrg.out Tryd.underlying42 rfl (map_size hl) ?_) | ((with_reducible show wpList _ _ _ (⟨none, _, _, _, _, _⟩ :: _) _ _); refine wpList_store_row rfl 42 _ _ rfl (w.heap.size + 1) (arr .u8 h) rfl rfl _ _ HR0.out (hash_info hl) (arrs_sz (by simp [zer]) hl) (arr_one _) ?_))
  have hrw := HR0.out.setRow (l' := h)
  exact bodyPost_ret (v := .agg (arr .u8 h)) (results_cell1 (p := 4) (ty := 42) rfl _ _ ⟨w.heap.size + 1, 0, none⟩ _ rfl (run_loadVar_row _ _ _ _ _ _ _ hrw Tryd.underlying42 rfl (hash_info hl))) rfl ⟨rfl, below_setRow' HBX.out (Nat.le_succ _)⟩
theorem before_any (O : Option Addr) (n c : Nat) (K : Option Addr) (hs : List (List Int)) (m d i : Nat) (hm : Hid (hs.length = m)) (hi : i ≤ m) (hb2 : m ≤ 1000000) (w : World) (hK : Hid (Hs w K hs)) : Calls Tryd.prog 35 #[tlV O n c K m d, .int .i64 (i : Int)] w fun e' w' => e' = .returned (.agg (arr .u8 (befL hs i))) ∧ Below w.heap.size w w' := by
  cases i with
  | zero => exact before_0 O n c K m d w
  | succ k => exact before_s O n c K hs m d k hm (by omega) hb2 w hK
theorem rbefore_any (O : Option Addr) (n c : Nat) (K : Option Addr) (hs : List (List Int)) (m d i : Nat) (hm : Hid (hs.length = m)) (hi : i ≤ m) (hb2 : m ≤ 1000000) (w : World) (hK : Hid (Hs w K hs)) : Calls Tryd.prog 16 #[tlV O n c K m d, .int .i64 (i : Int)] w fun e' w' => e' = .returned (.agg (arr .u8 (befL hs i))) ∧ Below w.heap.size w w' := by
  cases i with
  | zero => exact rbefore_0 O n c K m d w
  | succ k => exact rbefore_s O n c K hs m d k hm (by omega) hb2 w hK
theorem bldInfo : (Tryd.prog.info? 98).map (·.size) = some 2 := by kernel_rfl
theorem bldLies : liesAt Tryd.prog Tryd.prog.depth 98 (2 / Tryd.prog.cellsOf 98) 0 98 1 = true := by kernel_rfl
def BBlk (w : World) (b : Nat) (p v : Value) : Prop := w.heap[b]? = some (.cells #[p, v] 98 (0, 0))
theorem BBlk.cells {w : World} {b : Nat} {p v : Value} (h : BBlk w b p v) : (w.cell? ⟨b, 0, none⟩ = some p ∧ w.cell? ⟨b, 1, none⟩ = some v) ∧ w.frozen? ⟨b, 0, none⟩ = false ∧ w.frozen? ⟨b, 1, none⟩ = false :=
  ⟨⟨cell_blk h 0, cell_blk h 1⟩, frozen_blk h 0, frozen_blk h 1⟩
theorem BBlk.lt {w : World} {b : Nat} {p v : Value} (h : BBlk w b p v) : b < w.heap.size := (Array.getElem?_eq_some_iff.1 h).1
theorem BBlk.set0 {w : World} {b : Nat} {p v : Value} (h : BBlk w b p v) (q : Value) : BBlk (w.setCell ⟨b, 0, none⟩ q) b q v := by
  unfold BBlk
  rw [heap_setCell_same _ _ _ _ _ _ h]
  rfl
theorem BBlk.set1 {w : World} {b : Nat} {p v : Value} (h : BBlk w b p v) (q : Value) : BBlk (w.setCell ⟨b, 1, none⟩ q) b p q := by
  unfold BBlk
  rw [heap_setCell_same _ _ _ _ _ _ h]
  rfl
theorem BBlk.shape {w : World} {b : Nat} {p v : Value} (h : BBlk w b p v) : w.shape? b = some (98, 2) := by
  unfold BBlk at h
  simp [World.shape?, h]
set_option maxHeartbeats 1600000 in
theorem cc_first (b : Nat) (v : Value) (w : World) (hB : Hid (BBlk w b (.pointer none) v)) :
    Calls Tryd.prog 79 #[.pointer (some ⟨b, 0, none⟩)] w fun e w' => (∃ u, e = .returned u) ∧ w' = w.setCell ⟨b, 0, none⟩ (.pointer (some ⟨b, 0, none⟩)) := by
  obtain ⟨⟨c0, c1⟩, f0, f1⟩ := hB.out.cells
  obtain ⟨j, hj, hjs⟩ := Option.map_eq_some_iff.1 bldInfo
  have hsh := hB.out.shape
  have t1 := Lib.run_to_unsafe (P := Tryd.prog) w ⟨b, 0, none⟩ Tryd.underlying96 Tryd.underlying119 hj (by rw [hjs]; decide) hsh (Nat.zero_lt_succ 1)
  have t2 := Lib.run_from_unsafe (P := Tryd.prog) w ⟨b, 0, none⟩ Tryd.underlying119 Tryd.underlying96 hj hsh bldLies
  go_enter Tryd.func79, Tryd.ntmps79
  go_wp2
  rw [run_callFunc_extern Tryd.func85 (by kernel_rfl) (by kernel_rfl) (by kernel_rfl) (e := Extern.AbiNoEscape.same) (by kernel_rfl), Lib.run_noEscape]
  simp only [Result.andThen]
  rw [Oper.upon_value]
  go_wp2
  go_end0
  exact ⟨⟨_, rfl⟩, rfl⟩
set_option maxHeartbeats 1600000 in
theorem cc_again (b : Nat) (v : Value) (w : World) (hB : Hid (BBlk w b (.pointer (some ⟨b, 0, none⟩)) v)) :
    Calls Tryd.prog 79 #[.pointer (some ⟨b, 0, none⟩)] w fun e w' => (∃ u, e = .returned u) ∧ w' = w := by
  obtain ⟨⟨c0, c1⟩, f0, f1⟩ := hB.out.cells
  obtain ⟨j, hj, hjs⟩ := Option.map_eq_some_iff.1 bldInfo
  have t3 := Lib.run_neq_ptr_same (P := Tryd.prog) w ⟨b, 0, none⟩ Tryd.underlying96 hj
  go_enter Tryd.func79, Tryd.ntmps79
  go_wp2
  go_end0
  exact ⟨⟨_, rfl⟩, rfl⟩
def Bld (w : World) (b : Nat) (l : List Int) : Prop := ∃ p v, (p = .pointer none ∨ p = .pointer (some ⟨b, 0, none⟩)) ∧ BBlk w b p v ∧ OwnK .u8 5 w (b + 1) v l
set_option maxHeartbeats 3200000 in
theorem wbyte_any (b : Nat) (l : List Int) (c : Int) (hlen : l.length ≤ 100000) (w : World) (hB : Hid (Bld w b l)) :
    Calls Tryd.prog 68 #[.pointer (some ⟨b, 0, none⟩), .int .u8 c] w fun e w' => (∃ u, e = .returned u) ∧ Bld w' b (l ++ [c]) ∧ Below b w w' := by
  obtain ⟨p, v, hp, hblk, hown⟩ := hB.out
  obtain ⟨i0, hi, hz0, hz1, hz2⟩ := info_parts byteInfo
  have HBk := Lib.hid hblk
  have HOw := Lib.hid hown
  have hbw := hblk.lt
  have hcc : Calls Tryd.prog 79 #[.pointer (some ⟨b, 0, none⟩)] w fun e w' => (∃ u, e = .returned u) ∧ Hid (BBlk w' b (.pointer (some ⟨b, 0, none⟩)) v) ∧ Hid (OwnK .u8 5 w' (b + 1) v l) ∧ Hid (Below b w w') := by
    rcases hp with rfl | rfl
    · refine (cc_first b v w HBk).mono ?_
      rintro e w' ⟨h1, rfl⟩
      exact ⟨h1, Lib.hid (HBk.out.set0 _), Lib.hid (HOw.out.kept (gb_setCell b 0 _) (Or.inr (fun e => by have := (World.ownsRow.lt HOw.out _ e).1; omega))), Lib.hid ((Below.refl b w).setCell (Nat.le_refl b) _)⟩
    · refine (cc_again b v w HBk).mono ?_
      rintro e w' ⟨h1, rfl⟩
      exact ⟨h1, HBk, HOw, Lib.hid (Below.refl b _)⟩
  clear hp hblk hown hB
  have HCC := Lib.hid hcc
  clear hcc
  go_enter Tryd.func68, Tryd.ntmps68
  go_wp2_with fail
  refine HCC.out.mono ?_
  rintro e w1 ⟨⟨u, rfl⟩, HB1, HO1, HL1⟩
  clear HCC
  obtain ⟨⟨c0, c1⟩, f0, f1⟩ := HB1.out.cells
  have hb1 := HB1.out.lt
  have hown := HO1.out.row rfl
  have hsz := HL1.out.size
  have hcnt : b < w1.heap.size := hb1
  have b1 : l.length + 1 ≤ maxLen := by unfold maxLen; omega
  have b2 : (l.length + 1) * 1 ≤ 140737488355328 := by omega
  have b3 : b + 1 ≤ (w1.alloc (.cells #[.int .u8 c] 5)).heap.size := by simp; omega
  go_wp2_with (at_builtin; refine wpList_append_lies rfl _ _ 63 rfl (b + 1) 5 i0 (.int .u8 0) 1 1 Tryd.underlying63 hi hz0 hz1 hz2 rfl (by decide) v _ _ rfl (hown.alloc _) ⟨w1.heap.size, 0, none⟩ 1 1 [.int .u8 c] rfl rfl (World.news_of_block (cs := #[.int .u8 c]) (t := 5) (fr := (0, 0)) (heap_alloc_new w1 _)) (by simp [Value.oneCell']) (by decide) b1 b2 b3 _ rfl ?_; intro gg cap wz hown1 hgrow hat hlt2; have hne : v.ownBlock ≠ some b := fun e => absurd (World.ownsRow.lt hown b e).1 (by omega); have HBz : Hid (BBlk wz b (.pointer (some ⟨b, 0, none⟩)) v) := Lib.hid ((hgrow.block b (by simp; omega) (Ne.symm hne)).trans ((heap_alloc_old w1 _ hb1).trans HB1.out)); obtain ⟨⟨z0, z1⟩, y0, y1⟩ := HBz.out.cells)
  have HOz : Hid (OwnK .u8 5 wz (b + 1) (.slice (some ⟨gg, 0, none⟩) (l.length + 1) cap) (l ++ [c])) := Lib.hid (OwnK.app (ys := [c]) rfl rfl hown1)
  have HLz : Hid (Below b w wz) := Lib.hid ((HL1.out.alloc (by omega) (.cells #[.int .u8 c] 5)).grown hgrow (by simp; omega) (fun j hj => by have := (World.ownsRow.lt hown j hj).1; omega))
  have HNe : Hid (b ≠ gg) := Lib.hid (by
    rcases hat with h2 | h2
    · have := (World.ownsRow.lt hown gg h2).1; omega
    · simp at h2; omega)
  go_ret
  refine ⟨⟨_, rfl⟩, ⟨_, _, Or.inr rfl, HBz.out.set1 _, HOz.out.kept (gb_setCell b 1 _) (Or.inr (fun e => HNe.out (by simpa [Value.ownBlock] using e.symm)))⟩, HLz.out.setCell (Nat.le_refl b) _⟩
end Go.Proofs.YtofkihlpbfcdkaaDoor
