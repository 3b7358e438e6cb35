/- Contracts and lemmas: LcG, LcF, EqA, EqE, Many, JoinA. -/
import Derived.Deep.Heap
import Derived.Deep.RegionHeld3
import Derived.Test.YtojedhnglobddaaGreatDoorEr7
namespace Go.Proofs.YtojedhnglobddaaGreatDoor
open Go.RowKit SpM
set_option linter.unusedVariables false
set_option linter.unusedSimpArgs false
set_option maxRecDepth 100000
set_option maxHeartbeats 25600000 in
theorem rck_o (P Q G : Int) (Y : Option Addr) (ys : List Int) (n yc : Nat) (B : Option Addr) (rows : List Row) (bc : Nat) (A : Option Addr) (al : List Int) (na ca : Nat) (C : Int) (Z : Option Addr) (zs : List Int) (nz cz : Nat) (HVL : Hid (validR P Q G ys rows = true)) (hyn : Hid (ys.length = n)) (hbn : Hid (rows.length = n)) (han : Hid (al.length = na)) (hzn : Hid (zs.length = nz)) (hna : na < 1000000) (hnz : nz < 1000000) (hQ : Q < 9223372036854775808) (heq : na = n) (heq2 : nz = rowN rows) (HZS : Hid (zs.all (scB Q) = true)) (hc : scB Q C = true) (r : Bool) (hr : Hid (checkB P Q C ys rows al zs = r)) (w : World) (hY : Hid (Sl w Y ys)) (hB : Hid (Rw w B rows)) (hA : Hid (Sl w A al)) (hZ : Hid (Sl w Z zs)) :
    Calls Tryz.prog 106 #[gv P Q G, relV Y n yc B n bc, prvL A na ca C Z nz cz] w fun e' w' => e' = .returned (.bool r) ∧ Below w.heap.size w w' := by
  have HIFF : Hid (checkB P Q C ys rows al zs = true ↔ ∀ i, i < rows.length → rowChk P Q C ys rows al zs i = true) := Lib.hid (checkB_rows HVL.out (by rw [han.out, hbn.out, heq]) (by rw [hzn.out, heq2]) HZS.out hc)
  have hC : 0 ≤ C ∧ C < Q := by simp [scB] at hc; exact hc
  obtain ⟨hC0, hC1⟩ := hC
  obtain ⟨v1, v2, v3, v4, v5, v6, v7, v8⟩ := validR_parts HVL.out
  obtain ⟨hp2, hp, hq3, hqp⟩ := validG_P v1
  have HYM := Lib.hid v5
  have HRB : Hid (rows.all (rowB P Q nz) = true) := Lib.hid (by rw [heq2]; exact v8)
  have hn8 : n ≤ 8 := by rw [← hyn.out]; exact v3
  clear v1 v2 v3 v4 v5 v6 v7 v8
  obtain ⟨v1, v2, v3, v4, v5, v6, v7, v8⟩ := validR_parts HVL.out
  have hnp : 0 < n := by rw [← hyn.out]; omega
  obtain ⟨nu, hnu⟩ : ∃ k, rowN rows = k := ⟨_, rfl⟩
  have HN := Lib.hid hnu
  clear v1 v2 v3 v4 v5 v6 v7 v8 hnu
  have e1 : ((na : Int) != (n : Int)) = false := by simp; omega
  have e2 : ((nz : Int) != (nu : Int)) = false := by have := HN.out; simp; omega
  have HSC : Hid ([C].all (scB Q) = true) := Lib.hid (by simpa using hc)
  have HEQ := Lib.hid heq
  clear heq heq2 hc
  obtain ⟨w0, hW⟩ : ∃ W, (((w.alloc (gObj P Q G)).alloc (relO Y n yc B n bc)).alloc (prObjL A na ca C Z nz cz)) = W := ⟨_, rfl⟩
  have HBw : Hid (Below w.heap.size w w0) := Lib.hid (by rw [← hW]; exact (((Below.refl _ _).alloc (Nat.le_refl _) _).alloc (by simp) _).alloc (by simp; omega) _)
  have hc : w0.cell? ⟨w.heap.size, 0, none⟩ = some (.int .i64 P) ∧ w0.cell? ⟨w.heap.size, 1, none⟩ = some (.int .i64 Q) ∧ w0.cell? ⟨w.heap.size, 2, none⟩ = some (.int .i64 G) ∧ w0.cell? ⟨w.heap.size + 1, 0, none⟩ = some (.slice Y n yc) ∧ w0.cell? ⟨w.heap.size + 1, 1, none⟩ = some (.slice B n bc) ∧ w0.cell? ⟨w.heap.size + 2, 0, none⟩ = some (.slice A na ca) ∧ w0.cell? ⟨w.heap.size + 2, 1, none⟩ = some (.int .i64 C) ∧ w0.cell? ⟨w.heap.size + 2, 2, none⟩ = some (.slice Z nz cz) := by rw [← hW]; exact ⟨cell_below (cell_below (allocs_cell (by simp) (by rfl)) (below_box0 _ _)) (below_box0 _ _), cell_below (cell_below (allocs_cell (by simp) (by rfl)) (below_box0 _ _)) (below_box0 _ _), cell_below (cell_below (allocs_cell (by simp) (by rfl)) (below_box0 _ _)) (below_box0 _ _), cell_below (allocs_cell (by simp) (by rfl)) (below_box0 _ _), cell_below (allocs_cell (by simp) (by rfl)) (below_box0 _ _), allocs_cell (by simp) (by rfl), allocs_cell (by simp) (by rfl), allocs_cell (by simp) (by rfl)⟩
  have kC := Lib.hid (show ∀ u : World, Hid (Below w0.heap.size w0 u) → u.cell? ⟨w.heap.size, 0, none⟩ = some (.int .i64 P) ∧ u.cell? ⟨w.heap.size, 1, none⟩ = some (.int .i64 Q) ∧ u.cell? ⟨w.heap.size, 2, none⟩ = some (.int .i64 G) ∧ u.cell? ⟨w.heap.size + 1, 0, none⟩ = some (.slice Y n yc) ∧ u.cell? ⟨w.heap.size + 1, 1, none⟩ = some (.slice B n bc) ∧ u.cell? ⟨w.heap.size + 2, 0, none⟩ = some (.slice A na ca) ∧ u.cell? ⟨w.heap.size + 2, 1, none⟩ = some (.int .i64 C) ∧ u.cell? ⟨w.heap.size + 2, 2, none⟩ = some (.slice Z nz cz) from fun u h => ⟨cell_below hc.1 h.out, cell_below hc.2.1 h.out, cell_below hc.2.2.1 h.out, cell_below hc.2.2.2.1 h.out, cell_below hc.2.2.2.2.1 h.out, cell_below hc.2.2.2.2.2.1 h.out, cell_below hc.2.2.2.2.2.2.1 h.out, cell_below hc.2.2.2.2.2.2.2 h.out⟩)
  have kY := Lib.hid (show ∀ u : World, Hid (Below w0.heap.size w0 u) → Hid (Sl u Y ys) from fun u h => Lib.hid ((hY.out.below) (below_ext HBw.out h.out)))
  have kB := Lib.hid (show ∀ u : World, Hid (Below w0.heap.size w0 u) → Hid (Rw u B rows) from fun u h => Lib.hid ((hB.out.below) (below_ext HBw.out h.out)))
  have kA := Lib.hid (show ∀ u : World, Hid (Below w0.heap.size w0 u) → Hid (Sl u A al) from fun u h => Lib.hid ((hA.out.below) (below_ext HBw.out h.out)))
  have kZ := Lib.hid (show ∀ u : World, Hid (Below w0.heap.size w0 u) → Hid (Sl u Z zs) from fun u h => Lib.hid ((hZ.out.below) (below_ext HBw.out h.out)))
  have HB_0 : Hid (Below w0.heap.size w0 w0) := Lib.hid (Below.refl _ _)
  have HW := Lib.hid hW
  clear hW hc hY hB hA hZ
  go_enter Tryz.func106, Tryz.ntmps106
  go_wp2_with fail
  rw [HW.out]
  obtain ⟨zc0, zc1, zc2, zc3, zc4, zc5, zc6, zc7⟩ := kC.out _ HB_0
  clear zc0 zc1 zc2 zc3 zc4 zc5 zc6 zc7
  have hS := Lib.hid (show ∀ u1 u2 : World, Hid (Below w0.heap.size w0 u1) → Below u1.heap.size u1 u2 → (u2.cell? ⟨w.heap.size, 0, none⟩ = some (.int .i64 P) ∧ u2.cell? ⟨w.heap.size, 1, none⟩ = some (.int .i64 Q) ∧ u2.cell? ⟨w.heap.size, 2, none⟩ = some (.int .i64 G) ∧ u2.cell? ⟨w.heap.size + 1, 0, none⟩ = some (.slice Y n yc) ∧ u2.cell? ⟨w.heap.size + 1, 1, none⟩ = some (.slice B n bc) ∧ u2.cell? ⟨w.heap.size + 2, 0, none⟩ = some (.slice A na ca) ∧ u2.cell? ⟨w.heap.size + 2, 1, none⟩ = some (.int .i64 C) ∧ u2.cell? ⟨w.heap.size + 2, 2, none⟩ = some (.slice Z nz cz) ∧ Hid (Below w0.heap.size w0 u2)) from fun u1 u2 h1 h2 => by
    have h3 := Lib.hid (below_ext h1.out h2)
    obtain ⟨y0, y1, y2, y3, y4, y5, y6, y7⟩ := kC.out _ h3
    exact ⟨y0, y1, y2, y3, y4, y5, y6, y7, h3⟩)
  refine wp_region_T (S := fun w' => w'.cell? ⟨w.heap.size, 0, none⟩ = some (.int .i64 P) ∧ w'.cell? ⟨w.heap.size, 1, none⟩ = some (.int .i64 Q) ∧ w'.cell? ⟨w.heap.size, 2, none⟩ = some (.int .i64 G) ∧ w'.cell? ⟨w.heap.size + 1, 0, none⟩ = some (.slice Y n yc) ∧ w'.cell? ⟨w.heap.size + 1, 1, none⟩ = some (.slice B n bc) ∧ w'.cell? ⟨w.heap.size + 2, 0, none⟩ = some (.slice A na ca) ∧ w'.cell? ⟨w.heap.size + 2, 1, none⟩ = some (.int .i64 C) ∧ w'.cell? ⟨w.heap.size + 2, 2, none⟩ = some (.slice Z nz cz) ∧ Hid (Below w0.heap.size w0 w')) (E := []) (by kernel_rfl) (hS.out _ _ HB_0 ((Below.refl _ _).drew)) (fun hHeld => ?_)
  refine wpT_take (i := 0) (oi := _) (v := ?_) rfl (by kernel_rfl) (by kernel_rfl) (by kernel_rfl) (by kernel_rfl) (fun _ _ _ h => h) (Or.inl ⟨by rfl, ?_⟩) (by assumption) ?_
  rotate_left; (intro wS hSw; (try dsimp only at hSw); go_simp <;> with_reducible rfl)
  try simp only [List.getElem_toArray, List.getElem_cons_zero, List.getElem_cons_succ, Act.put, List.setIfInBounds_toArray, List.set_cons_zero, List.set_cons_succ]
  refine wpT_take (i := 1) (oi := _) (v := ?_) rfl (by kernel_rfl) (by kernel_rfl) (by kernel_rfl) (by kernel_rfl) (fun _ _ _ h => h) (Or.inl ⟨by rfl, ?_⟩) (by assumption) ?_
  rotate_left; (intro wS hSw; (try dsimp only at hSw); go_simp <;> with_reducible rfl)
  try simp only [List.getElem_toArray, List.getElem_cons_zero, List.getElem_cons_succ, Act.put, List.setIfInBounds_toArray, List.set_cons_zero, List.set_cons_succ]
  refine wpT_one (i := 2) (by kernel_rfl) rfl (fun K hK => ?_)
  go_simp
  (with_reducible refine (rvalid17_any P Q G Y ys n yc B rows n bc true HVL hyn hbn hQ _ ?_ ?_).mono ?_); (go_split_ands; exact kY.out _ (by assumption)); (go_split_ands; exact kB.out _ (by assumption)); rintro e wA ⟨rfl, hbA⟩
  refine hK.out _ _ ?_ (fun hHeld => ?_)
  · (go_split_ands; exact hS.out _ _ (by assumption) hbA)
  clear hK K
  try simp only [List.getElem_toArray, List.getElem_cons_zero, List.getElem_cons_succ, Act.put, List.setIfInBounds_toArray, List.set_cons_zero, List.set_cons_succ]
  refine wpT_take (i := 3) (oi := _) (v := ?_) rfl (by kernel_rfl) (by kernel_rfl) (by kernel_rfl) (by kernel_rfl) (fun _ _ _ h => h) (Or.inl ⟨by rfl, ?_⟩) (by assumption) ?_
  rotate_left; (intro wS hSw; (try dsimp only at hSw); go_simp <;> with_reducible rfl)
  try simp only [List.getElem_toArray, List.getElem_cons_zero, List.getElem_cons_succ, Act.put, List.setIfInBounds_toArray, List.set_cons_zero, List.set_cons_succ]
  refine wpT_take (i := 4) (oi := _) (v := ?_) rfl (by kernel_rfl) (by kernel_rfl) (by kernel_rfl) (by kernel_rfl) (fun _ _ _ h => h) (Or.inl ⟨by rfl, ?_⟩) (by assumption) ?_
  rotate_left; (intro wS hSw; (try dsimp only at hSw); go_simp <;> with_reducible rfl)
  try simp only [List.getElem_toArray, List.getElem_cons_zero, List.getElem_cons_succ, Act.put, List.setIfInBounds_toArray, List.set_cons_zero, List.set_cons_succ]
  refine wpT_take (i := 5) (oi := _) (v := ?_) rfl (by kernel_rfl) (by kernel_rfl) (by kernel_rfl) (by kernel_rfl) (fun _ _ _ h => h) (Or.inl ⟨by rfl, ?_⟩) (by assumption) ?_
  rotate_left; (intro wS hSw; (try dsimp only at hSw); go_simp <;> with_reducible rfl)
  try simp only [List.getElem_toArray, List.getElem_cons_zero, List.getElem_cons_succ, Act.put, List.setIfInBounds_toArray, List.set_cons_zero, List.set_cons_succ]
  refine wpT_take (i := 6) (oi := _) (v := ?_) rfl (by kernel_rfl) (by kernel_rfl) (by kernel_rfl) (by kernel_rfl) (fun _ _ _ h => h) (Or.inl ⟨by rfl, ?_⟩) (by assumption) ?_
  rotate_left; (intro wS hSw; (try dsimp only at hSw); go_simp <;> with_reducible rfl)
  try simp only [List.getElem_toArray, List.getElem_cons_zero, List.getElem_cons_succ, Act.put, List.setIfInBounds_toArray, List.set_cons_zero, List.set_cons_succ]
  refine wpT_take (i := 7) (oi := _) (v := ?_) rfl (by kernel_rfl) (by kernel_rfl) (by kernel_rfl) (by kernel_rfl) (fun _ _ _ h => h) (Or.inl ⟨by rfl, ?_⟩) (by assumption) ?_
  rotate_left; (intro wS hSw; (try dsimp only at hSw); go_simp <;> with_reducible rfl)
  try simp only [List.getElem_toArray, List.getElem_cons_zero, List.getElem_cons_succ, Act.put, List.setIfInBounds_toArray, List.set_cons_zero, List.set_cons_succ]
  refine wpT_take (i := 8) (oi := _) (v := ?_) rfl (by kernel_rfl) (by kernel_rfl) (by kernel_rfl) (by kernel_rfl) (fun _ _ _ h => h) (Or.inl ⟨by rfl, ?_⟩) (by assumption) ?_
  rotate_left; (intro wS hSw; (try dsimp only at hSw); go_simp <;> with_reducible rfl)
  try simp only [List.getElem_toArray, List.getElem_cons_zero, List.getElem_cons_succ, Act.put, List.setIfInBounds_toArray, List.set_cons_zero, List.set_cons_succ]
  refine wpT_take (i := 9) (oi := _) (v := ?_) rfl (by kernel_rfl) (by kernel_rfl) (by kernel_rfl) (by kernel_rfl) (fun _ _ _ h => h) (Or.inl ⟨by rfl, ?_⟩) (by assumption) ?_
  rotate_left; (intro wS hSw; (try dsimp only at hSw); go_simp <;> with_reducible rfl)
  try simp only [List.getElem_toArray, List.getElem_cons_zero, List.getElem_cons_succ, Act.put, List.setIfInBounds_toArray, List.set_cons_zero, List.set_cons_succ]
  refine wpT_take (i := 10) (oi := _) (v := ?_) rfl (by kernel_rfl) (by kernel_rfl) (by kernel_rfl) (by kernel_rfl) (fun _ _ _ h => h) (Or.inl ⟨by rfl, ?_⟩) (by assumption) ?_
  rotate_left; (intro wS hSw; (try dsimp only at hSw); go_simp <;> with_reducible rfl)
  try simp only [List.getElem_toArray, List.getElem_cons_zero, List.getElem_cons_succ, Act.put, List.setIfInBounds_toArray, List.set_cons_zero, List.set_cons_succ]
  refine wpT_take (i := 11) (oi := _) (v := ?_) rfl (by kernel_rfl) (by kernel_rfl) (by kernel_rfl) (by kernel_rfl) (fun _ _ _ h => h) (Or.inl ⟨by rfl, ?_⟩) (by assumption) ?_
  rotate_left; (intro wS hSw; (try dsimp only at hSw); go_simp <;> with_reducible rfl)
  try simp only [List.getElem_toArray, List.getElem_cons_zero, List.getElem_cons_succ, Act.put, List.setIfInBounds_toArray, List.set_cons_zero, List.set_cons_succ]
  refine wpT_take (i := 12) (oi := _) (v := ?_) rfl (by kernel_rfl) (by kernel_rfl) (by kernel_rfl) (by kernel_rfl) (fun _ _ _ h => h) (Or.inl ⟨by rfl, ?_⟩) (by assumption) ?_
  rotate_left; (intro wS hSw; (try dsimp only at hSw); go_simp <;> with_reducible rfl)
  try simp only [List.getElem_toArray, List.getElem_cons_zero, List.getElem_cons_succ, Act.put, List.setIfInBounds_toArray, List.set_cons_zero, List.set_cons_succ]
  refine wpT_take (i := 13) (oi := _) (v := ?_) rfl (by kernel_rfl) (by kernel_rfl) (by kernel_rfl) (by kernel_rfl) (fun _ _ _ h => h) (Or.inl ⟨by rfl, ?_⟩) (by assumption) ?_
  rotate_left; (intro wS hSw; (try dsimp only at hSw); go_simp <;> with_reducible rfl)
  try simp only [List.getElem_toArray, List.getElem_cons_zero, List.getElem_cons_succ, Act.put, List.setIfInBounds_toArray, List.set_cons_zero, List.set_cons_succ]
  refine wpT_take (i := 14) (oi := _) (v := ?_) rfl (by kernel_rfl) (by kernel_rfl) (by kernel_rfl) (by kernel_rfl) (fun _ _ _ h => h) (Or.inl ⟨by rfl, ?_⟩) (by assumption) ?_
  rotate_left; (intro wS hSw; (try dsimp only at hSw); go_simp <;> with_reducible rfl)
  try simp only [List.getElem_toArray, List.getElem_cons_zero, List.getElem_cons_succ, Act.put, List.setIfInBounds_toArray, List.set_cons_zero, List.set_cons_succ]
  refine wpT_take (i := 15) (oi := _) (v := ?_) rfl (by kernel_rfl) (by kernel_rfl) (by kernel_rfl) (by kernel_rfl) (fun _ _ _ h => h) (Or.inl ⟨by rfl, ?_⟩) (by assumption) ?_
  rotate_left; (intro wS hSw; (try dsimp only at hSw); go_simp <;> with_reducible rfl)
  try simp only [List.getElem_toArray, List.getElem_cons_zero, List.getElem_cons_succ, Act.put, List.setIfInBounds_toArray, List.set_cons_zero, List.set_cons_succ]
  refine wpT_take (i := 16) (oi := _) (v := ?_) rfl (by kernel_rfl) (by kernel_rfl) (by kernel_rfl) (by kernel_rfl) (fun _ _ _ h => h) (Or.inl ⟨by rfl, ?_⟩) (by assumption) ?_
  rotate_left; (intro wS hSw; (try dsimp only at hSw); go_simp <;> with_reducible rfl)
  try simp only [List.getElem_toArray, List.getElem_cons_zero, List.getElem_cons_succ, Act.put, List.setIfInBounds_toArray, List.set_cons_zero, List.set_cons_succ]
  refine wpT_take (i := 17) (oi := _) (v := ?_) rfl (by kernel_rfl) (by kernel_rfl) (by kernel_rfl) (by kernel_rfl) (fun _ _ _ h => h) (Or.inl ⟨by rfl, ?_⟩) (by assumption) ?_
  rotate_left; (intro wS hSw; (try dsimp only at hSw); go_simp <;> with_reducible rfl)
  try simp only [List.getElem_toArray, List.getElem_cons_zero, List.getElem_cons_succ, Act.put, List.setIfInBounds_toArray, List.set_cons_zero, List.set_cons_succ]
  refine wpT_one (i := 18) (by kernel_rfl) rfl (fun K hK => ?_)
  go_simp
  (with_reducible refine (runknowns_any Y n yc B rows n bc nu hbn hnp HN _ ?_).mono ?_); (go_split_ands; exact kB.out _ (by assumption)); rintro e wA ⟨rfl, hbA⟩
  refine hK.out _ _ ?_ (fun hHeld => ?_)
  · (go_split_ands; exact hS.out _ _ (by assumption) hbA)
  clear hK K
  try simp only [List.getElem_toArray, List.getElem_cons_zero, List.getElem_cons_succ, Act.put, List.setIfInBounds_toArray, List.set_cons_zero, List.set_cons_succ]
  refine wpT_take (i := 19) (oi := _) (v := ?_) rfl (by kernel_rfl) (by kernel_rfl) (by kernel_rfl) (by kernel_rfl) (fun _ _ _ h => h) (Or.inl ⟨by rfl, ?_⟩) (by assumption) ?_
  rotate_left; (intro wS hSw; (try dsimp only at hSw); go_simp <;> with_reducible rfl)
  try simp only [List.getElem_toArray, List.getElem_cons_zero, List.getElem_cons_succ, Act.put, List.setIfInBounds_toArray, List.set_cons_zero, List.set_cons_succ]
  refine wpT_take (i := 20) (oi := _) (v := ?_) rfl (by kernel_rfl) (by kernel_rfl) (by kernel_rfl) (by kernel_rfl) (fun _ _ _ h => h) (Or.inl ⟨by rfl, ?_⟩) (by assumption) ?_
  rotate_left; (intro wS hSw; (try dsimp only at hSw); go_simp <;> with_reducible rfl)
  try simp only [List.getElem_toArray, List.getElem_cons_zero, List.getElem_cons_succ, Act.put, List.setIfInBounds_toArray, List.set_cons_zero, List.set_cons_succ]
  refine wpT_take (i := 21) (oi := _) (v := ?_) rfl (by kernel_rfl) (by kernel_rfl) (by kernel_rfl) (by kernel_rfl) (fun _ _ _ h => h) (Or.inl ⟨by rfl, ?_⟩) (by assumption) ?_
  rotate_left; (intro wS hSw; (try dsimp only at hSw); go_simp <;> with_reducible rfl)
  try simp only [List.getElem_toArray, List.getElem_cons_zero, List.getElem_cons_succ, Act.put, List.setIfInBounds_toArray, List.set_cons_zero, List.set_cons_succ]
  refine wpT_take (i := 22) (oi := _) (v := ?_) rfl (by kernel_rfl) (by kernel_rfl) (by kernel_rfl) (by kernel_rfl) (fun _ _ _ h => h) (Or.inl ⟨by rfl, ?_⟩) (by assumption) ?_
  rotate_left; (intro wS hSw; (try dsimp only at hSw); go_simp <;> with_reducible rfl)
  try simp only [List.getElem_toArray, List.getElem_cons_zero, List.getElem_cons_succ, Act.put, List.setIfInBounds_toArray, List.set_cons_zero, List.set_cons_succ]
  refine wpT_take (i := 23) (oi := _) (v := ?_) rfl (by kernel_rfl) (by kernel_rfl) (by kernel_rfl) (by kernel_rfl) (fun _ _ _ h => h) (Or.inl ⟨by rfl, ?_⟩) (by assumption) ?_
  rotate_left; (intro wS hSw; (try dsimp only at hSw); go_simp <;> with_reducible rfl)
  try simp only [List.getElem_toArray, List.getElem_cons_zero, List.getElem_cons_succ, Act.put, List.setIfInBounds_toArray, List.set_cons_zero, List.set_cons_succ]
  refine wpT_take (i := 24) (oi := _) (v := ?_) rfl (by kernel_rfl) (by kernel_rfl) (by kernel_rfl) (by kernel_rfl) (fun _ _ _ h => h) (Or.inl ⟨by rfl, ?_⟩) (by assumption) ?_
  rotate_left; (intro wS hSw; (try dsimp only at hSw); go_simp <;> with_reducible rfl)
  try simp only [List.getElem_toArray, List.getElem_cons_zero, List.getElem_cons_succ, Act.put, List.setIfInBounds_toArray, List.set_cons_zero, List.set_cons_succ]
  refine wpT_one (i := 25) (by kernel_rfl) rfl (fun K hK => ?_)
  go_simp
  (with_reducible refine (rscalars_any P Q G Z zs nz cz true HZS hzn hnz _ ?_).mono ?_); (go_split_ands; exact kZ.out _ (by assumption)); rintro e wA ⟨rfl, hbA⟩
  refine hK.out _ _ ?_ (fun hHeld => ?_)
  · (go_split_ands; exact hS.out _ _ (by assumption) hbA)
  clear hK K
  try simp only [List.getElem_toArray, List.getElem_cons_zero, List.getElem_cons_succ, Act.put, List.setIfInBounds_toArray, List.set_cons_zero, List.set_cons_succ]
  refine wpT_take (i := 26) (oi := _) (v := ?_) rfl (by kernel_rfl) (by kernel_rfl) (by kernel_rfl) (by kernel_rfl) (fun _ _ _ h => h) (Or.inl ⟨by rfl, ?_⟩) (by assumption) ?_
  rotate_left; (intro wS hSw; (try dsimp only at hSw); go_simp <;> with_reducible rfl)
  try simp only [List.getElem_toArray, List.getElem_cons_zero, List.getElem_cons_succ, Act.put, List.setIfInBounds_toArray, List.set_cons_zero, List.set_cons_succ]
  refine wpT_take (i := 27) (oi := _) (v := ?_) rfl (by kernel_rfl) (by kernel_rfl) (by kernel_rfl) (by kernel_rfl) (fun _ _ _ h => h) (Or.inl ⟨by rfl, ?_⟩) (by assumption) ?_
  rotate_left; (intro wS hSw; (try dsimp only at hSw); go_simp <;> with_reducible rfl)
  try simp only [List.getElem_toArray, List.getElem_cons_zero, List.getElem_cons_succ, Act.put, List.setIfInBounds_toArray, List.set_cons_zero, List.set_cons_succ]
  refine wpT_take (i := 28) (oi := _) (v := ?_) rfl (by kernel_rfl) (by kernel_rfl) (by kernel_rfl) (by kernel_rfl) (fun _ _ _ h => h) (Or.inl ⟨by rfl, ?_⟩) (by assumption) ?_
  rotate_left; (intro wS hSw; (try dsimp only at hSw); go_simp <;> with_reducible rfl)
  try simp only [List.getElem_toArray, List.getElem_cons_zero, List.getElem_cons_succ, Act.put, List.setIfInBounds_toArray, List.set_cons_zero, List.set_cons_succ]
  refine wpT_take (i := 29) (oi := _) (v := ?_) rfl (by kernel_rfl) (by kernel_rfl) (by kernel_rfl) (by kernel_rfl) (fun _ _ _ h => h) (Or.inl ⟨by rfl, ?_⟩) (by assumption) ?_
  rotate_left; (intro wS hSw; (try dsimp only at hSw); go_simp <;> with_reducible rfl)
  try simp only [List.getElem_toArray, List.getElem_cons_zero, List.getElem_cons_succ, Act.put, List.setIfInBounds_toArray, List.set_cons_zero, List.set_cons_succ]
  refine wpT_take (i := 30) (oi := _) (v := ?_) rfl (by kernel_rfl) (by kernel_rfl) (by kernel_rfl) (by kernel_rfl) (fun _ _ _ h => h) (Or.inl ⟨by rfl, ?_⟩) (by assumption) ?_
  rotate_left; (intro wS hSw; (try dsimp only at hSw); go_simp <;> with_reducible rfl)
  try simp only [List.getElem_toArray, List.getElem_cons_zero, List.getElem_cons_succ, Act.put, List.setIfInBounds_toArray, List.set_cons_zero, List.set_cons_succ]
  refine wpT_take (i := 31) (oi := _) (v := ?_) rfl (by kernel_rfl) (by kernel_rfl) (by kernel_rfl) (by kernel_rfl) (fun _ _ _ h => h) (Or.inl ⟨by rfl, ?_⟩) (by assumption) ?_
  rotate_left; (intro wS hSw; (try dsimp only at hSw); go_simp <;> with_reducible rfl)
  try simp only [List.getElem_toArray, List.getElem_cons_zero, List.getElem_cons_succ, Act.put, List.setIfInBounds_toArray, List.set_cons_zero, List.set_cons_succ]
  refine wpT_one (i := 32) (by kernel_rfl) rfl (fun K hK => ?_)
  go_simp
  refine hK.out _ _ ?_ (fun hHeld => ?_)
  · (go_split_ands; exact hS.out _ _ (by assumption) (below_box0 _ _))
  clear hK K
  try simp only [List.getElem_toArray, List.getElem_cons_zero, List.getElem_cons_succ, Act.put, List.setIfInBounds_toArray, List.set_cons_zero, List.set_cons_succ]
  refine wpT_one (i := 33) (by kernel_rfl) rfl (fun K hK => ?_)
  go_simp
  (with_reducible refine (rscalars_any P Q G (some ⟨wA.heap.size, 0, none⟩) [C] 1 1 true HSC (Lib.hid rfl) (by omega) _ (Lib.hid (sl_of_cells (cells1 wA _ C)))).mono ?_); rintro e wB ⟨rfl, hbA⟩
  refine hK.out _ _ ?_ (fun hHeld => ?_)
  · (go_split_ands; exact hS.out _ _ (by assumption) hbA)
  clear hK K
  try simp only [List.getElem_toArray, List.getElem_cons_zero, List.getElem_cons_succ, Act.put, List.setIfInBounds_toArray, List.set_cons_zero, List.set_cons_succ]
  refine wpT_take (i := 34) (oi := _) (v := ?_) rfl (by kernel_rfl) (by kernel_rfl) (by kernel_rfl) (by kernel_rfl) (fun _ _ _ h => h) (Or.inl ⟨by rfl, ?_⟩) (by assumption) ?_
  rotate_left; (intro wS hSw; (try dsimp only at hSw); go_simp <;> with_reducible rfl)
  try simp only [List.getElem_toArray, List.getElem_cons_zero, List.getElem_cons_succ, Act.put, List.setIfInBounds_toArray, List.set_cons_zero, List.set_cons_succ]
  refine wpT_take (i := 35) (oi := _) (v := ?_) rfl (by kernel_rfl) (by kernel_rfl) (by kernel_rfl) (by kernel_rfl) (fun _ _ _ h => h) (Or.inl ⟨by rfl, ?_⟩) (by assumption) ?_
  rotate_left; (intro wS hSw; (try dsimp only at hSw); go_simp <;> with_reducible rfl)
  try simp only [List.getElem_toArray, List.getElem_cons_zero, List.getElem_cons_succ, Act.put, List.setIfInBounds_toArray, List.set_cons_zero, List.set_cons_succ]
  refine wpT_done (by kernel_rfl) ?_ _
  obtain ⟨x0, x1, x2, x3, x4, x5, x6, x7, HB_1⟩ := hHeld
  go_wp2_with fail
  clear x0 x1 x2 x3 x4 x5 x6 x7 hS
  go_loopw [7] (fun i u => ∃ k : Nat, k ≤ n ∧ i = .int .i64 k ∧ Hid (∀ j, j < k → rowChk P Q C ys rows al zs j = true) ∧ Hid (Below w0.heap.size w0 u)) (fun i _ => n - (intOf i).toNat)
  case atStart => exact ⟨0, by omega, rfl, Lib.hid (fun j hj => absurd hj (Nat.not_lt_zero _)), HB_1⟩
  case round =>
    obtain ⟨k, hk, rfl, HALL, HBr⟩ := hrel
    obtain ⟨y0, y1, y2, y3, y4, y5, y6, y7⟩ := kC.out _ HBr
    by_cases hlt : k < n
    · have hka : k < al.length := by have := HEQ.out; have := han.out; omega
      have hltA : k < na := by have := HEQ.out; omega
      have hky : k < ys.length := by rw [hyn.out]; exact hlt
      have hkr : k < rows.length := by rw [hbn.out]; exact hlt
      obtain ⟨ba, oa, hAA, ia⟩ := (kA.out _ HBr).out k hka
      obtain ⟨by', oy, hYY, iy⟩ := (kY.out _ HBr).out k hky
      obtain ⟨⟨br, or', hBB, ir⟩, hok⟩ := (kB.out _ HBr).out k hkr
      subst hAA
      subst hYY
      subst hBB
      have hrc : rowChk P Q C ys rows al zs k = (memG P Q (al.getD k 0) && (prodF P 1 (rows.getD k noRow).xs zs == al.getD k 0 * pw (ys.getD k 0) C P % P)) := rfl
      have hmy := all_get HYM.out hky
      have hrb := rowAll_get HRB.out hkr
      have HHIT : Hid (rowChk P Q C ys rows al zs k = false → r = false) := Lib.hid (fun h => by
        rw [← hr.out]
        cases hcb : checkB P Q C ys rows al zs with
        | false => rfl
        | true =>
          have h2 := HIFF.out.1 hcb k hkr
          rw [h] at h2
          cases h2)
      have HNEXT : Hid (rowChk P Q C ys rows al zs k = true → ∀ j, j < k + 1 → rowChk P Q C ys rows al zs j = true) := Lib.hid (fun h j hj => by
        by_cases hjk : j = k
        · subst hjk; exact h
        · exact HALL.out j (by omega))
      obtain ⟨a, haa⟩ : ∃ a, al.getD k 0 = a := ⟨_, rfl⟩
      obtain ⟨y, hyy⟩ : ∃ a, ys.getD k 0 = a := ⟨_, rfl⟩
      obtain ⟨RR, hRR⟩ : ∃ R, rows.getD k noRow = R := ⟨_, rfl⟩
      rw [haa] at ia hrc
      rw [hyy] at iy hrc hmy
      rw [hRR] at ir hok hrc hrb
      obtain ⟨p, rn, rc, xs⟩ := RR
      simp only [rowB, Bool.and_eq_true, decide_eq_true_eq] at hrb
      obtain ⟨hrn, hmx⟩ := hrb
      subst hrn
      have HXL := Lib.hid hok.1
      have HXS : Hid (Sl wr p xs) := Lib.hid hok.2
      have HMX := Lib.hid hmx
      dsimp only [Row.val] at ir hrc
      have HMY := Lib.hid hmy
      have hs2 := Lib.hid (show ∀ u1 u2 : World, Hid (Below wr.heap.size wr u1) → Below u1.heap.size u1 u2 → (u2.cell? ⟨w.heap.size, 0, none⟩ = some (.int .i64 P) ∧ u2.cell? ⟨w.heap.size, 1, none⟩ = some (.int .i64 Q) ∧ u2.cell? ⟨w.heap.size, 2, none⟩ = some (.int .i64 G) ∧ u2.cell? ⟨w.heap.size + 1, 0, none⟩ = some (.slice (some ⟨by', oy, none⟩) n yc) ∧ u2.cell? ⟨w.heap.size + 1, 1, none⟩ = some (.slice (some ⟨br, or', none⟩) n bc) ∧ u2.cell? ⟨w.heap.size + 2, 0, none⟩ = some (.slice (some ⟨ba, oa, none⟩) na ca) ∧ u2.cell? ⟨w.heap.size + 2, 1, none⟩ = some (.int .i64 C) ∧ u2.cell? ⟨w.heap.size + 2, 2, none⟩ = some (.slice Z rn cz) ∧ u2.cell? ⟨ba, oa + k, none⟩ = some (.int .i64 a) ∧ u2.cell? ⟨by', oy + k, none⟩ = some (.int .i64 y) ∧ u2.cell? ⟨br, or' + k, none⟩ = some (.slice p rn rc) ∧ Hid (Below wr.heap.size wr u2)) from fun u1 u2 h1 h2 => by
        have h3 := below_ext h1.out h2
        exact ⟨cell_below y0 h3, cell_below y1 h3, cell_below y2 h3, cell_below y3 h3, cell_below y4 h3, cell_below y5 h3, cell_below y6 h3, cell_below y7 h3, cell_below ia h3, cell_below iy h3, cell_below ir h3, Lib.hid h3⟩)
      have kX := Lib.hid (show ∀ u : World, Hid (Below wr.heap.size wr u) → Hid (Sl u p xs) from fun u h => Lib.hid (HXS.out.below h.out))
      have kZ2 := Lib.hid (show ∀ u : World, Hid (Below wr.heap.size wr u) → Hid (Sl u Z zs) from fun u h => kZ.out _ (Lib.hid (below_ext HBr.out h.out)))
      have HBR0 : Hid (Below wr.heap.size wr wr) := Lib.hid (Below.refl _ _)
      have HRC := Lib.hid hrc
      clear haa hyy hRR hok hmx hmy hrc
      go_wp2_with fail
      clear y0 y1 y2 y3 y4 y5 y6 y7 ia iy ir
      obtain ⟨m, hm⟩ : ∃ m, memG P Q a = m := ⟨_, rfl⟩
      have HM := Lib.hid hm
      clear hm
      refine wp_region_T (S := fun w' => w'.cell? ⟨w.heap.size, 0, none⟩ = some (.int .i64 P) ∧ w'.cell? ⟨w.heap.size, 1, none⟩ = some (.int .i64 Q) ∧ w'.cell? ⟨w.heap.size, 2, none⟩ = some (.int .i64 G) ∧ w'.cell? ⟨w.heap.size + 1, 0, none⟩ = some (.slice (some ⟨by', oy, none⟩) n yc) ∧ w'.cell? ⟨w.heap.size + 1, 1, none⟩ = some (.slice (some ⟨br, or', none⟩) n bc) ∧ w'.cell? ⟨w.heap.size + 2, 0, none⟩ = some (.slice (some ⟨ba, oa, none⟩) na ca) ∧ w'.cell? ⟨w.heap.size + 2, 1, none⟩ = some (.int .i64 C) ∧ w'.cell? ⟨w.heap.size + 2, 2, none⟩ = some (.slice Z rn cz) ∧ w'.cell? ⟨ba, oa + k, none⟩ = some (.int .i64 a) ∧ w'.cell? ⟨by', oy + k, none⟩ = some (.int .i64 y) ∧ w'.cell? ⟨br, or' + k, none⟩ = some (.slice p rn rc) ∧ Hid (Below wr.heap.size wr w')) (E := []) (by kernel_rfl) (hs2.out _ _ HBR0 ((Below.refl _ _).drew)) (fun hHeld => ?_)
      refine wpT_take (i := 0) (oi := _) (v := ?_) rfl (by kernel_rfl) (by kernel_rfl) (by kernel_rfl) (by kernel_rfl) (fun _ _ _ h => h) (Or.inl ⟨by rfl, ?_⟩) (by assumption) ?_
      rotate_left; (intro wS hSw; (try dsimp only at hSw); go_simp <;> with_reducible rfl)
      try simp only [List.getElem_toArray, List.getElem_cons_zero, List.getElem_cons_succ, Act.put, List.setIfInBounds_toArray, List.set_cons_zero, List.set_cons_succ]
      refine wpT_take (i := 1) (oi := _) (v := ?_) rfl (by kernel_rfl) (by kernel_rfl) (by kernel_rfl) (by kernel_rfl) (fun _ _ _ h => h) (Or.inl ⟨by rfl, ?_⟩) (by assumption) ?_
      rotate_left; (intro wS hSw; (try dsimp only at hSw); go_simp <;> with_reducible rfl)
      try simp only [List.getElem_toArray, List.getElem_cons_zero, List.getElem_cons_succ, Act.put, List.setIfInBounds_toArray, List.set_cons_zero, List.set_cons_succ]
      refine wpT_take (i := 2) (oi := _) (v := ?_) rfl (by kernel_rfl) (by kernel_rfl) (by kernel_rfl) (by kernel_rfl) (fun _ _ _ h => h) (Or.inl ⟨by rfl, ?_⟩) (by assumption) ?_
      rotate_left; (intro wS hSw; (try dsimp only at hSw); go_simp <;> with_reducible rfl)
      try simp only [List.getElem_toArray, List.getElem_cons_zero, List.getElem_cons_succ, Act.put, List.setIfInBounds_toArray, List.set_cons_zero, List.set_cons_succ]
      refine wpT_take (i := 3) (oi := _) (v := ?_) rfl (by kernel_rfl) (by kernel_rfl) (by kernel_rfl) (by kernel_rfl) (fun _ _ _ h => h) (Or.inl ⟨by rfl, ?_⟩) (by assumption) ?_
      rotate_left; (intro wS hSw; (try dsimp only at hSw); go_simp <;> with_reducible rfl)
      try simp only [List.getElem_toArray, List.getElem_cons_zero, List.getElem_cons_succ, Act.put, List.setIfInBounds_toArray, List.set_cons_zero, List.set_cons_succ]
      refine wpT_take (i := 4) (oi := _) (v := ?_) rfl (by kernel_rfl) (by kernel_rfl) (by kernel_rfl) (by kernel_rfl) (fun _ _ _ h => h) (Or.inl ⟨by rfl, ?_⟩) (by assumption) ?_
      rotate_left; (intro wS hSw; (try dsimp only at hSw); go_simp <;> with_reducible rfl)
      try simp only [List.getElem_toArray, List.getElem_cons_zero, List.getElem_cons_succ, Act.put, List.setIfInBounds_toArray, List.set_cons_zero, List.set_cons_succ]
      refine wpT_take (i := 5) (oi := _) (v := ?_) rfl (by kernel_rfl) (by kernel_rfl) (by kernel_rfl) (by kernel_rfl) (fun _ _ _ h => h) (Or.inl ⟨by rfl, ?_⟩) (by assumption) ?_
      rotate_left; (intro wS hSw; (try dsimp only at hSw); go_simp <;> with_reducible rfl)
      try simp only [List.getElem_toArray, List.getElem_cons_zero, List.getElem_cons_succ, Act.put, List.setIfInBounds_toArray, List.set_cons_zero, List.set_cons_succ]
      refine wpT_one (i := 6) (by kernel_rfl) rfl (fun K hK => ?_)
      go_simp
      (with_reducible refine (rmember_any P Q G a m HM hp (by omega) hQ _).mono ?_); rintro e wA ⟨rfl, hbA⟩
      refine hK.out _ _ ?_ (fun hHeld => ?_)
      · exact hs2.out _ _ (hHeld.2.2.2.2.2.2.2.2.2.2.2) hbA
      clear hK K
      try simp only [List.getElem_toArray, List.getElem_cons_zero, List.getElem_cons_succ, Act.put, List.setIfInBounds_toArray, List.set_cons_zero, List.set_cons_succ]
      refine wpT_take (i := 7) (oi := _) (v := ?_) rfl (by kernel_rfl) (by kernel_rfl) (by kernel_rfl) (by kernel_rfl) (fun _ _ _ h => h) (Or.inl ⟨by rfl, ?_⟩) (by assumption) ?_
      rotate_left; (intro wS hSw; (try dsimp only at hSw); go_simp <;> with_reducible rfl)
      try simp only [List.getElem_toArray, List.getElem_cons_zero, List.getElem_cons_succ, Act.put, List.setIfInBounds_toArray, List.set_cons_zero, List.set_cons_succ]
      refine wpT_done (by kernel_rfl) ?_ _
      obtain ⟨x0, x1, x2, x3, x4, x5, x6, x7, x8, x9, x10, HB6⟩ := hHeld
      clear x0 x1 x2 x3 x4 x5 x6 x7 x8 x9 x10
      have hbA' := HB6.out
      cases hmc : m with
      | false =>
        obtain rfl : r = false := HHIT.out (by rw [HRC.out, HM.out, hmc]; rfl)
        have hbF := below_ext HBw.out (below_ext HBr.out HB6.out)
        go_wp2
        go_ret
        exact ⟨rfl, hbF⟩
      | true =>
        have hma : memG P Q a = true := HM.out.trans hmc
        have a1 := memG_lo hma
        have a2 := memG_hi hma
        have b1 := memG_lo HMY.out
        have b2 := memG_hi HMY.out
        obtain ⟨u, hu⟩ : ∃ u, pw y C P = u := ⟨_, rfl⟩
        obtain ⟨u0, u1⟩ : 0 ≤ u ∧ u < P := by rw [← hu]; exact pw_lt _ _ _ (by omega)
        obtain ⟨v, hv'⟩ : ∃ v, a * u % P = v := ⟨_, rfl⟩
        obtain ⟨q, hq'⟩ : ∃ q, prodF P 1 xs zs = q := ⟨_, rfl⟩
        have HU := Lib.hid hu
        have HV := Lib.hid hv'
        have HQ := Lib.hid hq'
        have HRC2 : Hid (rowChk P Q C ys rows al zs k = (q == v)) := Lib.hid (by rw [HRC.out, hma, hu, hv', hq', Bool.true_and])
        clear hu hv' hq' hma hbA'
        go_wp2_with fail
        refine wp_region_T (S := fun w' => w'.cell? ⟨w.heap.size, 0, none⟩ = some (.int .i64 P) ∧ w'.cell? ⟨w.heap.size, 1, none⟩ = some (.int .i64 Q) ∧ w'.cell? ⟨w.heap.size, 2, none⟩ = some (.int .i64 G) ∧ w'.cell? ⟨w.heap.size + 1, 0, none⟩ = some (.slice (some ⟨by', oy, none⟩) n yc) ∧ w'.cell? ⟨w.heap.size + 1, 1, none⟩ = some (.slice (some ⟨br, or', none⟩) n bc) ∧ w'.cell? ⟨w.heap.size + 2, 0, none⟩ = some (.slice (some ⟨ba, oa, none⟩) na ca) ∧ w'.cell? ⟨w.heap.size + 2, 1, none⟩ = some (.int .i64 C) ∧ w'.cell? ⟨w.heap.size + 2, 2, none⟩ = some (.slice Z rn cz) ∧ w'.cell? ⟨ba, oa + k, none⟩ = some (.int .i64 a) ∧ w'.cell? ⟨by', oy + k, none⟩ = some (.int .i64 y) ∧ w'.cell? ⟨br, or' + k, none⟩ = some (.slice p rn rc) ∧ Hid (Below wr.heap.size wr w')) (E := []) (by kernel_rfl) (hs2.out _ _ HB6 ((Below.refl _ _).drew)) (fun hHeld => ?_)
        refine wpT_take (i := 0) (oi := _) (v := ?_) rfl (by kernel_rfl) (by kernel_rfl) (by kernel_rfl) (by kernel_rfl) (fun _ _ _ h => h) (Or.inl ⟨by rfl, ?_⟩) (by assumption) ?_
        rotate_left; (intro wS hSw; (try dsimp only at hSw); go_simp <;> with_reducible rfl)
        try simp only [List.getElem_toArray, List.getElem_cons_zero, List.getElem_cons_succ, Act.put, List.setIfInBounds_toArray, List.set_cons_zero, List.set_cons_succ]
        refine wpT_take (i := 1) (oi := _) (v := ?_) rfl (by kernel_rfl) (by kernel_rfl) (by kernel_rfl) (by kernel_rfl) (fun _ _ _ h => h) (Or.inl ⟨by rfl, ?_⟩) (by assumption) ?_
        rotate_left; (intro wS hSw; (try dsimp only at hSw); go_simp <;> with_reducible rfl)
        try simp only [List.getElem_toArray, List.getElem_cons_zero, List.getElem_cons_succ, Act.put, List.setIfInBounds_toArray, List.set_cons_zero, List.set_cons_succ]
        refine wpT_take (i := 2) (oi := _) (v := ?_) rfl (by kernel_rfl) (by kernel_rfl) (by kernel_rfl) (by kernel_rfl) (fun _ _ _ h => h) (Or.inl ⟨by rfl, ?_⟩) (by assumption) ?_
        rotate_left; (intro wS hSw; (try dsimp only at hSw); go_simp <;> with_reducible rfl)
        try simp only [List.getElem_toArray, List.getElem_cons_zero, List.getElem_cons_succ, Act.put, List.setIfInBounds_toArray, List.set_cons_zero, List.set_cons_succ]
        refine wpT_take (i := 3) (oi := _) (v := ?_) rfl (by kernel_rfl) (by kernel_rfl) (by kernel_rfl) (by kernel_rfl) (fun _ _ _ h => h) (Or.inl ⟨by rfl, ?_⟩) (by assumption) ?_
        rotate_left; (intro wS hSw; (try dsimp only at hSw); go_simp <;> with_reducible rfl)
        try simp only [List.getElem_toArray, List.getElem_cons_zero, List.getElem_cons_succ, Act.put, List.setIfInBounds_toArray, List.set_cons_zero, List.set_cons_succ]
        refine wpT_take (i := 4) (oi := _) (v := ?_) rfl (by kernel_rfl) (by kernel_rfl) (by kernel_rfl) (by kernel_rfl) (fun _ _ _ h => h) (Or.inl ⟨by rfl, ?_⟩) (by assumption) ?_
        rotate_left; (intro wS hSw; (try dsimp only at hSw); go_simp <;> with_reducible rfl)
        try simp only [List.getElem_toArray, List.getElem_cons_zero, List.getElem_cons_succ, Act.put, List.setIfInBounds_toArray, List.set_cons_zero, List.set_cons_succ]
        refine wpT_take (i := 5) (oi := _) (v := ?_) rfl (by kernel_rfl) (by kernel_rfl) (by kernel_rfl) (by kernel_rfl) (fun _ _ _ h => h) (Or.inl ⟨by rfl, ?_⟩) (by assumption) ?_
        rotate_left; (intro wS hSw; (try dsimp only at hSw); go_simp <;> with_reducible rfl)
        try simp only [List.getElem_toArray, List.getElem_cons_zero, List.getElem_cons_succ, Act.put, List.setIfInBounds_toArray, List.set_cons_zero, List.set_cons_succ]
        refine wpT_take (i := 6) (oi := _) (v := ?_) rfl (by kernel_rfl) (by kernel_rfl) (by kernel_rfl) (by kernel_rfl) (fun _ _ _ h => h) (Or.inl ⟨by rfl, ?_⟩) (by assumption) ?_
        rotate_left; (intro wS hSw; (try dsimp only at hSw); go_simp <;> with_reducible rfl)
        try simp only [List.getElem_toArray, List.getElem_cons_zero, List.getElem_cons_succ, Act.put, List.setIfInBounds_toArray, List.set_cons_zero, List.set_cons_succ]
        refine wpT_take (i := 7) (oi := _) (v := ?_) rfl (by kernel_rfl) (by kernel_rfl) (by kernel_rfl) (by kernel_rfl) (fun _ _ _ h => h) (Or.inl ⟨by rfl, ?_⟩) (by assumption) ?_
        rotate_left; (intro wS hSw; (try dsimp only at hSw); go_simp <;> with_reducible rfl)
        try simp only [List.getElem_toArray, List.getElem_cons_zero, List.getElem_cons_succ, Act.put, List.setIfInBounds_toArray, List.set_cons_zero, List.set_cons_succ]
        refine wpT_take (i := 8) (oi := _) (v := ?_) rfl (by kernel_rfl) (by kernel_rfl) (by kernel_rfl) (by kernel_rfl) (fun _ _ _ h => h) (Or.inl ⟨by rfl, ?_⟩) (by assumption) ?_
        rotate_left; (intro wS hSw; (try dsimp only at hSw); go_simp <;> with_reducible rfl)
        try simp only [List.getElem_toArray, List.getElem_cons_zero, List.getElem_cons_succ, Act.put, List.setIfInBounds_toArray, List.set_cons_zero, List.set_cons_succ]
        refine wpT_take (i := 9) (oi := _) (v := ?_) rfl (by kernel_rfl) (by kernel_rfl) (by kernel_rfl) (by kernel_rfl) (fun _ _ _ h => h) (Or.inl ⟨by rfl, ?_⟩) (by assumption) ?_
        rotate_left; (intro wS hSw; (try dsimp only at hSw); go_simp <;> with_reducible rfl)
        try simp only [List.getElem_toArray, List.getElem_cons_zero, List.getElem_cons_succ, Act.put, List.setIfInBounds_toArray, List.set_cons_zero, List.set_cons_succ]
        refine wpT_take (i := 10) (oi := _) (v := ?_) rfl (by kernel_rfl) (by kernel_rfl) (by kernel_rfl) (by kernel_rfl) (fun _ _ _ h => h) (Or.inl ⟨by rfl, ?_⟩) (by assumption) ?_
        rotate_left; (intro wS hSw; (try dsimp only at hSw); go_simp <;> with_reducible rfl)
        try simp only [List.getElem_toArray, List.getElem_cons_zero, List.getElem_cons_succ, Act.put, List.setIfInBounds_toArray, List.set_cons_zero, List.set_cons_succ]
        refine wpT_take (i := 11) (oi := _) (v := ?_) rfl (by kernel_rfl) (by kernel_rfl) (by kernel_rfl) (by kernel_rfl) (fun _ _ _ h => h) (Or.inl ⟨by rfl, ?_⟩) (by assumption) ?_
        rotate_left; (intro wS hSw; (try dsimp only at hSw); go_simp <;> with_reducible rfl)
        try simp only [List.getElem_toArray, List.getElem_cons_zero, List.getElem_cons_succ, Act.put, List.setIfInBounds_toArray, List.set_cons_zero, List.set_cons_succ]
        refine wpT_take (i := 12) (oi := _) (v := ?_) rfl (by kernel_rfl) (by kernel_rfl) (by kernel_rfl) (by kernel_rfl) (fun _ _ _ h => h) (Or.inl ⟨by rfl, ?_⟩) (by assumption) ?_
        rotate_left; (intro wS hSw; (try dsimp only at hSw); go_simp <;> with_reducible rfl)
        try simp only [List.getElem_toArray, List.getElem_cons_zero, List.getElem_cons_succ, Act.put, List.setIfInBounds_toArray, List.set_cons_zero, List.set_cons_succ]
        refine wpT_take (i := 13) (oi := _) (v := ?_) rfl (by kernel_rfl) (by kernel_rfl) (by kernel_rfl) (by kernel_rfl) (fun _ _ _ h => h) (Or.inl ⟨by rfl, ?_⟩) (by assumption) ?_
        rotate_left; (intro wS hSw; (try dsimp only at hSw); go_simp <;> with_reducible rfl)
        try simp only [List.getElem_toArray, List.getElem_cons_zero, List.getElem_cons_succ, Act.put, List.setIfInBounds_toArray, List.set_cons_zero, List.set_cons_succ]
        refine wpT_take (i := 15) (oi := _) (v := ?_) rfl (by kernel_rfl) (by kernel_rfl) (by kernel_rfl) (by kernel_rfl) (fun _ _ _ h => h) (Or.inl ⟨by rfl, ?_⟩) (by assumption) ?_
        rotate_left; (intro wS hSw; (try dsimp only at hSw); go_simp <;> with_reducible rfl)
        try simp only [List.getElem_toArray, List.getElem_cons_zero, List.getElem_cons_succ, Act.put, List.setIfInBounds_toArray, List.set_cons_zero, List.set_cons_succ]
        refine wpT_take (i := 16) (oi := _) (v := ?_) rfl (by kernel_rfl) (by kernel_rfl) (by kernel_rfl) (by kernel_rfl) (fun _ _ _ h => h) (Or.inl ⟨by rfl, ?_⟩) (by assumption) ?_
        rotate_left; (intro wS hSw; (try dsimp only at hSw); go_simp <;> with_reducible rfl)
        try simp only [List.getElem_toArray, List.getElem_cons_zero, List.getElem_cons_succ, Act.put, List.setIfInBounds_toArray, List.set_cons_zero, List.set_cons_succ]
        refine wpT_one (i := 14) (by kernel_rfl) rfl (fun K hK => ?_)
        go_simp
        (with_reducible refine (rpow_any y C P u HU (by omega) hp (by omega) b2 hC0 (by omega) _).mono ?_); rintro e wA ⟨rfl, rfl⟩
        refine hK.out _ _ ?_ (fun hHeld => ?_)
        · exact hs2.out _ _ (hHeld.2.2.2.2.2.2.2.2.2.2.2) (Below.refl _ _)
        clear hK K
        try simp only [List.getElem_toArray, List.getElem_cons_zero, List.getElem_cons_succ, Act.put, List.setIfInBounds_toArray, List.set_cons_zero, List.set_cons_succ]
        refine wpT_one (i := 17) (by kernel_rfl) rfl (fun K hK => ?_)
        go_simp
        (with_reducible refine (rmul_any a u P v HV hp (by omega) a2 u0 u1 _).mono ?_); rintro e wA ⟨rfl, rfl⟩
        refine hK.out _ _ ?_ (fun hHeld => ?_)
        · exact hs2.out _ _ (hHeld.2.2.2.2.2.2.2.2.2.2.2) (Below.refl _ _)
        clear hK K
        try simp only [List.getElem_toArray, List.getElem_cons_zero, List.getElem_cons_succ, Act.put, List.setIfInBounds_toArray, List.set_cons_zero, List.set_cons_succ]
        refine wpT_take (i := 18) (oi := _) (v := ?_) rfl (by kernel_rfl) (by kernel_rfl) (by kernel_rfl) (by kernel_rfl) (fun _ _ _ h => h) (Or.inl ⟨by rfl, ?_⟩) (by assumption) ?_
        rotate_left; (intro wS hSw; (try dsimp only at hSw); go_simp <;> with_reducible rfl)
        try simp only [List.getElem_toArray, List.getElem_cons_zero, List.getElem_cons_succ, Act.put, List.setIfInBounds_toArray, List.set_cons_zero, List.set_cons_succ]
        refine wpT_done (by kernel_rfl) ?_ _
        obtain ⟨x0, x1, x2, x3, x4, x5, x6, x7, x8, x9, x10, HB8⟩ := hHeld
        clear x0 x1 x2 x3 x4 x5 x6 x7 x8 x9 x10
        go_wp2_with fail
        refine wp_region_T (S := fun w' => w'.cell? ⟨w.heap.size, 0, none⟩ = some (.int .i64 P) ∧ w'.cell? ⟨w.heap.size, 1, none⟩ = some (.int .i64 Q) ∧ w'.cell? ⟨w.heap.size, 2, none⟩ = some (.int .i64 G) ∧ w'.cell? ⟨w.heap.size + 1, 0, none⟩ = some (.slice (some ⟨by', oy, none⟩) n yc) ∧ w'.cell? ⟨w.heap.size + 1, 1, none⟩ = some (.slice (some ⟨br, or', none⟩) n bc) ∧ w'.cell? ⟨w.heap.size + 2, 0, none⟩ = some (.slice (some ⟨ba, oa, none⟩) na ca) ∧ w'.cell? ⟨w.heap.size + 2, 1, none⟩ = some (.int .i64 C) ∧ w'.cell? ⟨w.heap.size + 2, 2, none⟩ = some (.slice Z rn cz) ∧ w'.cell? ⟨ba, oa + k, none⟩ = some (.int .i64 a) ∧ w'.cell? ⟨by', oy + k, none⟩ = some (.int .i64 y) ∧ w'.cell? ⟨br, or' + k, none⟩ = some (.slice p rn rc) ∧ Hid (Below wr.heap.size wr w')) (E := []) (by kernel_rfl) (hs2.out _ _ HB8 ((Below.refl _ _).drew)) (fun hHeld => ?_)
        refine wpT_take (i := 0) (oi := _) (v := ?_) rfl (by kernel_rfl) (by kernel_rfl) (by kernel_rfl) (by kernel_rfl) (fun _ _ _ h => h) (Or.inl ⟨by rfl, ?_⟩) (by assumption) ?_
        rotate_left; (intro wS hSw; (try dsimp only at hSw); go_simp <;> with_reducible rfl)
        try simp only [List.getElem_toArray, List.getElem_cons_zero, List.getElem_cons_succ, Act.put, List.setIfInBounds_toArray, List.set_cons_zero, List.set_cons_succ]
        refine wpT_take (i := 1) (oi := _) (v := ?_) rfl (by kernel_rfl) (by kernel_rfl) (by kernel_rfl) (by kernel_rfl) (fun _ _ _ h => h) (Or.inl ⟨by rfl, ?_⟩) (by assumption) ?_
        rotate_left; (intro wS hSw; (try dsimp only at hSw); go_simp <;> with_reducible rfl)
        try simp only [List.getElem_toArray, List.getElem_cons_zero, List.getElem_cons_succ, Act.put, List.setIfInBounds_toArray, List.set_cons_zero, List.set_cons_succ]
        refine wpT_take (i := 2) (oi := _) (v := ?_) rfl (by kernel_rfl) (by kernel_rfl) (by kernel_rfl) (by kernel_rfl) (fun _ _ _ h => h) (Or.inl ⟨by rfl, ?_⟩) (by assumption) ?_
        rotate_left; (intro wS hSw; (try dsimp only at hSw); go_simp <;> with_reducible rfl)
        try simp only [List.getElem_toArray, List.getElem_cons_zero, List.getElem_cons_succ, Act.put, List.setIfInBounds_toArray, List.set_cons_zero, List.set_cons_succ]
        refine wpT_take (i := 3) (oi := _) (v := ?_) rfl (by kernel_rfl) (by kernel_rfl) (by kernel_rfl) (by kernel_rfl) (fun _ _ _ h => h) (Or.inl ⟨by rfl, ?_⟩) (by assumption) ?_
        rotate_left; (intro wS hSw; (try dsimp only at hSw); go_simp <;> with_reducible rfl)
        try simp only [List.getElem_toArray, List.getElem_cons_zero, List.getElem_cons_succ, Act.put, List.setIfInBounds_toArray, List.set_cons_zero, List.set_cons_succ]
        refine wpT_take (i := 4) (oi := _) (v := ?_) rfl (by kernel_rfl) (by kernel_rfl) (by kernel_rfl) (by kernel_rfl) (fun _ _ _ h => h) (Or.inl ⟨by rfl, ?_⟩) (by assumption) ?_
        rotate_left; (intro wS hSw; (try dsimp only at hSw); go_simp <;> with_reducible rfl)
        try simp only [List.getElem_toArray, List.getElem_cons_zero, List.getElem_cons_succ, Act.put, List.setIfInBounds_toArray, List.set_cons_zero, List.set_cons_succ]
        refine wpT_take (i := 5) (oi := _) (v := ?_) rfl (by kernel_rfl) (by kernel_rfl) (by kernel_rfl) (by kernel_rfl) (fun _ _ _ h => h) (Or.inl ⟨by rfl, ?_⟩) (by assumption) ?_
        rotate_left; (intro wS hSw; (try dsimp only at hSw); go_simp <;> with_reducible rfl)
        try simp only [List.getElem_toArray, List.getElem_cons_zero, List.getElem_cons_succ, Act.put, List.setIfInBounds_toArray, List.set_cons_zero, List.set_cons_succ]
        refine wpT_take (i := 6) (oi := _) (v := ?_) rfl (by kernel_rfl) (by kernel_rfl) (by kernel_rfl) (by kernel_rfl) (fun _ _ _ h => h) (Or.inl ⟨by rfl, ?_⟩) (by assumption) ?_
        rotate_left; (intro wS hSw; (try dsimp only at hSw); go_simp <;> with_reducible rfl)
        try simp only [List.getElem_toArray, List.getElem_cons_zero, List.getElem_cons_succ, Act.put, List.setIfInBounds_toArray, List.set_cons_zero, List.set_cons_succ]
        refine wpT_take (i := 7) (oi := _) (v := ?_) rfl (by kernel_rfl) (by kernel_rfl) (by kernel_rfl) (by kernel_rfl) (fun _ _ _ h => h) (Or.inl ⟨by rfl, ?_⟩) (by assumption) ?_
        rotate_left; (intro wS hSw; (try dsimp only at hSw); go_simp <;> with_reducible rfl)
        try simp only [List.getElem_toArray, List.getElem_cons_zero, List.getElem_cons_succ, Act.put, List.setIfInBounds_toArray, List.set_cons_zero, List.set_cons_succ]
        refine wpT_take (i := 9) (oi := _) (v := ?_) rfl (by kernel_rfl) (by kernel_rfl) (by kernel_rfl) (by kernel_rfl) (fun _ _ _ h => h) (Or.inl ⟨by rfl, ?_⟩) (by assumption) ?_
        rotate_left; (intro wS hSw; (try dsimp only at hSw); go_simp <;> with_reducible rfl)
        try simp only [List.getElem_toArray, List.getElem_cons_zero, List.getElem_cons_succ, Act.put, List.setIfInBounds_toArray, List.set_cons_zero, List.set_cons_succ]
        refine wpT_one (i := 8) (by kernel_rfl) rfl (fun K hK => ?_)
        go_simp
        (with_reducible refine (rproduct_any P Q G p xs rn rc Z zs rn cz q HQ HXL hzn (Nat.le_refl _) (by omega) HMX HZS hp2 hp hQ _ ?_ ?_).mono ?_); (exact kX.out _ (hHeld.2.2.2.2.2.2.2.2.2.2.2)); (exact kZ2.out _ (hHeld.2.2.2.2.2.2.2.2.2.2.2)); rintro e wA ⟨rfl, hbA⟩
        refine hK.out _ _ ?_ (fun hHeld => ?_)
        · exact hs2.out _ _ (hHeld.2.2.2.2.2.2.2.2.2.2.2) hbA
        clear hK K
        try simp only [List.getElem_toArray, List.getElem_cons_zero, List.getElem_cons_succ, Act.put, List.setIfInBounds_toArray, List.set_cons_zero, List.set_cons_succ]
        refine wpT_take (i := 10) (oi := _) (v := ?_) rfl (by kernel_rfl) (by kernel_rfl) (by kernel_rfl) (by kernel_rfl) (fun _ _ _ h => h) (Or.inl ⟨by rfl, ?_⟩) (by assumption) ?_
        rotate_left; (intro wS hSw; (try dsimp only at hSw); go_simp <;> with_reducible rfl)
        try simp only [List.getElem_toArray, List.getElem_cons_zero, List.getElem_cons_succ, Act.put, List.setIfInBounds_toArray, List.set_cons_zero, List.set_cons_succ]
        refine wpT_done (by kernel_rfl) ?_ _
        obtain ⟨x0, x1, x2, x3, x4, x5, x6, x7, x8, x9, x10, HB9⟩ := hHeld
        clear x0 x1 x2 x3 x4 x5 x6 x7 x8 x9 x10
        cases hqv : q == v with
        | false =>
          obtain rfl : r = false := HHIT.out (by rw [HRC2.out, hqv])
          have hne : (q != v) = true := by simp only [bne, hqv, Bool.not_false]
          have hbF := below_ext HBw.out (below_ext HBr.out HB9.out)
          go_wp2
          go_ret
          exact ⟨rfl, hbF⟩
        | true =>
          have hne : (q != v) = false := by simp only [bne, hqv, Bool.not_true]
          have HALL2 := Lib.hid (HNEXT.out (by rw [HRC2.out, hqv]))
          have HBn := Lib.hid (below_ext HBr.out HB9.out)
          go_wp2
          go_roundw
          case rel => exact ⟨k + 1, by omega, by go_num, HALL2, HBn⟩
          case measure => simp [intOf]; omega
    · obtain rfl : k = n := by omega
      obtain rfl : r = true := by
        rw [← hr.out]
        exact HIFF.out.2 (fun i hi => HALL.out i (by rw [hbn.out] at hi; exact hi))
      have hbF := below_ext HBw.out HBr.out
      go_wp2
      go_ret
      exact ⟨rfl, hbF⟩
/-- Check of the reference. -/
theorem rcheck_w17 (P Q G : Int) (Y : Option Addr) (ys : List Int) (yn yc : Nat) (B : Option Addr) (rows : List Row) (bn bc : Nat) (A : Option Addr) (al : List Int) (na ca : Nat) (C : Int) (Z : Option Addr) (zs : List Int) (nz cz : Nat) (hyn : Hid (ys.length = yn)) (hbn : Hid (rows.length = bn)) (han : Hid (al.length = na)) (hzn : Hid (zs.length = nz)) (hna : na < 1000000) (hnz : nz < 1000000) (hQ : Q < 9223372036854775808) (r : Bool) (hr : Hid (chkL P Q G C ys rows al zs = r)) (w : World) (hY : Hid (Sl w Y ys)) (hB : Hid (Rw w B rows)) (hA : Hid (Sl w A al)) (hZ : Hid (Sl w Z zs)) :
    Calls Tryz.prog 106 #[gv P Q G, relV Y yn yc B bn bc, prvL A na ca C Z nz cz] w fun e' w' => e' = .returned (.bool r) ∧ Below w.heap.size w w' := by
  cases hg : validR P Q G ys rows with
  | false =>
    obtain rfl : r = false := by rw [← hr.out, chkL, hg]; rfl
    exact rck_v P Q G Y ys yn yc B rows bn bc A al na ca C Z zs nz cz hyn hbn han hzn hna hnz hQ (Lib.hid hg) w hY hB hA hZ
  | true =>
    have he : bn = yn := by rw [← hbn.out, ← hyn.out]; exact (validR_parts hg).2.2.2.1
    subst he
    have hr' : checkB P Q C ys rows al zs = r := by rw [← hr.out, chkL, hg]; rfl
    by_cases h1 : na = bn
    · by_cases h2 : nz = rowN rows
      · cases h3 : zs.all (scB Q) with
        | false =>
          obtain rfl : r = false := by rw [← hr']; unfold checkB; rw [h3]; simp
          exact rck_c P Q G Y ys bn yc B rows bc A al na ca C Z zs nz cz (Lib.hid hg) hyn hbn han hzn hna hnz hQ h1 h2 (Lib.hid h3) w hY hB hA hZ
        | true =>
          cases h4 : scB Q C with
          | false =>
            obtain rfl : r = false := by rw [← hr']; unfold checkB; rw [h4]; simp
            exact rck_d P Q G Y ys bn yc B rows bc A al na ca C Z zs nz cz (Lib.hid hg) hyn hbn han hzn hna hnz hQ h1 h2 (Lib.hid h3) h4 w hY hB hA hZ
          | true => exact rck_o P Q G Y ys bn yc B rows bc A al na ca C Z zs nz cz (Lib.hid hg) hyn hbn han hzn hna hnz hQ h1 h2 (Lib.hid h3) h4 r (Lib.hid hr') w hY hB hA hZ
      · obtain rfl : r = false := by rw [← hr']; unfold checkB; rw [hzn.out, decide_eq_false h2]; simp
        exact rck_b P Q G Y ys bn yc B rows bc A al na ca C Z zs nz cz (Lib.hid hg) hyn hbn han hzn hna hnz hQ h1 h2 w hY hB hA hZ
    · obtain rfl : r = false := by rw [← hr']; unfold checkB; rw [han.out, hbn.out, decide_eq_false h1]; simp
      exact rck_a P Q G Y ys bn yc B rows bc A al na ca C Z zs nz cz (Lib.hid hg) hyn hbn han hzn hna hnz hQ h1 w hY hB hA hZ
end Go.Proofs.YtojedhnglobddaaGreatDoor
namespace Go.Proofs.YtojedhnglobddaaGreatDoor
open Go.RowKit SpM
set_option linter.unusedVariables false
set_option linter.unusedSimpArgs false
set_option maxRecDepth 100000
set_option maxHeartbeats 12800000 in
theorem rver_f (P Q G : Int) (Y : Option Addr) (ys : List Int) (yn yc : Nat) (B : Option Addr) (rows : List Row) (bn bc : Nat) (A : Option Addr) (al : List Int) (na ca : Nat) (C : Int) (Z : Option Addr) (zs : List Int) (nz cz : Nat) (hyn : Hid (ys.length = yn)) (hbn : Hid (rows.length = bn)) (han : Hid (al.length = na)) (hzn : Hid (zs.length = nz)) (hna : na < 1000000) (hnz : nz < 1000000) (hQ : Q < 9223372036854775808) (s : ByteArray) (hs : s.size ≤ 1000) (HC : Hid (chkL P Q G C ys rows al zs = false)) (w : World) (hY : Hid (Sl w Y ys)) (hB : Hid (Rw w B rows)) (hA : Hid (Sl w A al)) (hZ : Hid (Sl w Z zs)) :
    Calls Tryz.prog 72 #[gv P Q G, relV Y yn yc B bn bc, .string s, prvL A na ca C Z nz cz] w fun e' w' => e' = .returned (.bool false) ∧ Below w.heap.size w w' := by
  obtain ⟨w0, hW⟩ : ∃ W, (((w.alloc (gObj P Q G)).alloc (relO Y yn yc B bn bc)).alloc (prObjL A na ca C Z nz cz)) = W := ⟨_, rfl⟩
  have HBw : Hid (Below w.heap.size w w0) := Lib.hid (by rw [← hW]; exact (((Below.refl _ _).alloc (Nat.le_refl _) _).alloc (by simp) _).alloc (by simp; omega) _)
  have hc : w0.cell? ⟨w.heap.size, 0, none⟩ = some (.int .i64 P) ∧ w0.cell? ⟨w.heap.size, 1, none⟩ = some (.int .i64 Q) ∧ w0.cell? ⟨w.heap.size, 2, none⟩ = some (.int .i64 G) ∧ w0.cell? ⟨w.heap.size + 1, 0, none⟩ = some (.slice Y yn yc) ∧ w0.cell? ⟨w.heap.size + 1, 1, none⟩ = some (.slice B bn bc) ∧ w0.cell? ⟨w.heap.size + 2, 0, none⟩ = some (.slice A na ca) ∧ w0.cell? ⟨w.heap.size + 2, 1, none⟩ = some (.int .i64 C) ∧ w0.cell? ⟨w.heap.size + 2, 2, none⟩ = some (.slice Z nz cz) := by rw [← hW]; exact ⟨cell_below (cell_below (allocs_cell (by simp) (by rfl)) (below_box0 _ _)) (below_box0 _ _), cell_below (cell_below (allocs_cell (by simp) (by rfl)) (below_box0 _ _)) (below_box0 _ _), cell_below (cell_below (allocs_cell (by simp) (by rfl)) (below_box0 _ _)) (below_box0 _ _), cell_below (allocs_cell (by simp) (by rfl)) (below_box0 _ _), cell_below (allocs_cell (by simp) (by rfl)) (below_box0 _ _), allocs_cell (by simp) (by rfl), allocs_cell (by simp) (by rfl), allocs_cell (by simp) (by rfl)⟩
  have kC := Lib.hid (show ∀ u : World, Hid (Below w0.heap.size w0 u) → u.cell? ⟨w.heap.size, 0, none⟩ = some (.int .i64 P) ∧ u.cell? ⟨w.heap.size, 1, none⟩ = some (.int .i64 Q) ∧ u.cell? ⟨w.heap.size, 2, none⟩ = some (.int .i64 G) ∧ u.cell? ⟨w.heap.size + 1, 0, none⟩ = some (.slice Y yn yc) ∧ u.cell? ⟨w.heap.size + 1, 1, none⟩ = some (.slice B bn bc) ∧ u.cell? ⟨w.heap.size + 2, 0, none⟩ = some (.slice A na ca) ∧ u.cell? ⟨w.heap.size + 2, 1, none⟩ = some (.int .i64 C) ∧ u.cell? ⟨w.heap.size + 2, 2, none⟩ = some (.slice Z nz cz) from fun u h => ⟨cell_below hc.1 h.out, cell_below hc.2.1 h.out, cell_below hc.2.2.1 h.out, cell_below hc.2.2.2.1 h.out, cell_below hc.2.2.2.2.1 h.out, cell_below hc.2.2.2.2.2.1 h.out, cell_below hc.2.2.2.2.2.2.1 h.out, cell_below hc.2.2.2.2.2.2.2 h.out⟩)
  have kY := Lib.hid (show ∀ u : World, Hid (Below w0.heap.size w0 u) → Hid (Sl u Y ys) from fun u h => Lib.hid ((hY.out.below) (below_ext HBw.out h.out)))
  have kB := Lib.hid (show ∀ u : World, Hid (Below w0.heap.size w0 u) → Hid (Rw u B rows) from fun u h => Lib.hid ((hB.out.below) (below_ext HBw.out h.out)))
  have kA := Lib.hid (show ∀ u : World, Hid (Below w0.heap.size w0 u) → Hid (Sl u A al) from fun u h => Lib.hid ((hA.out.below) (below_ext HBw.out h.out)))
  have kZ := Lib.hid (show ∀ u : World, Hid (Below w0.heap.size w0 u) → Hid (Sl u Z zs) from fun u h => Lib.hid ((hZ.out.below) (below_ext HBw.out h.out)))
  have HB_0 : Hid (Below w0.heap.size w0 w0) := Lib.hid (Below.refl _ _)
  have HW := Lib.hid hW
  clear hW hc hY hB hA hZ
  go_enter Tryz.func72, Tryz.ntmps72
  go_wp2_with fail
  rw [HW.out]
  obtain ⟨zc0, zc1, zc2, zc3, zc4, zc5, zc6, zc7⟩ := kC.out _ HB_0
  clear zc0 zc1 zc2 zc3 zc4 zc5 zc6 zc7
  have hS := Lib.hid (show ∀ u1 u2 : World, Hid (Below w0.heap.size w0 u1) → Below u1.heap.size u1 u2 → (u2.cell? ⟨w.heap.size, 0, none⟩ = some (.int .i64 P) ∧ u2.cell? ⟨w.heap.size, 1, none⟩ = some (.int .i64 Q) ∧ u2.cell? ⟨w.heap.size, 2, none⟩ = some (.int .i64 G) ∧ u2.cell? ⟨w.heap.size + 1, 0, none⟩ = some (.slice Y yn yc) ∧ u2.cell? ⟨w.heap.size + 1, 1, none⟩ = some (.slice B bn bc) ∧ u2.cell? ⟨w.heap.size + 2, 0, none⟩ = some (.slice A na ca) ∧ u2.cell? ⟨w.heap.size + 2, 1, none⟩ = some (.int .i64 C) ∧ u2.cell? ⟨w.heap.size + 2, 2, none⟩ = some (.slice Z nz cz) ∧ Hid (Below w0.heap.size w0 u2)) from fun u1 u2 h1 h2 => by
    have h3 := Lib.hid (below_ext h1.out h2)
    obtain ⟨y0, y1, y2, y3, y4, y5, y6, y7⟩ := kC.out _ h3
    exact ⟨y0, y1, y2, y3, y4, y5, y6, y7, h3⟩)
  refine wp_region_T (S := fun w' => w'.cell? ⟨w.heap.size, 0, none⟩ = some (.int .i64 P) ∧ w'.cell? ⟨w.heap.size, 1, none⟩ = some (.int .i64 Q) ∧ w'.cell? ⟨w.heap.size, 2, none⟩ = some (.int .i64 G) ∧ w'.cell? ⟨w.heap.size + 1, 0, none⟩ = some (.slice Y yn yc) ∧ w'.cell? ⟨w.heap.size + 1, 1, none⟩ = some (.slice B bn bc) ∧ w'.cell? ⟨w.heap.size + 2, 0, none⟩ = some (.slice A na ca) ∧ w'.cell? ⟨w.heap.size + 2, 1, none⟩ = some (.int .i64 C) ∧ w'.cell? ⟨w.heap.size + 2, 2, none⟩ = some (.slice Z nz cz) ∧ Hid (Below w0.heap.size w0 w')) (E := []) (by kernel_rfl) (hS.out _ _ HB_0 ((Below.refl _ _).drew)) (fun hHeld => ?_)
  refine wpT_take (i := 0) (oi := _) (v := ?_) rfl (by kernel_rfl) (by kernel_rfl) (by kernel_rfl) (by kernel_rfl) (fun _ _ _ h => h) (Or.inl ⟨by rfl, ?_⟩) (by assumption) ?_
  rotate_left; (intro wS hSw; (try dsimp only at hSw); go_simp <;> with_reducible rfl)
  try simp only [List.getElem_toArray, List.getElem_cons_zero, List.getElem_cons_succ, Act.put, List.setIfInBounds_toArray, List.set_cons_zero, List.set_cons_succ]
  refine wpT_take (i := 1) (oi := _) (v := ?_) rfl (by kernel_rfl) (by kernel_rfl) (by kernel_rfl) (by kernel_rfl) (fun _ _ _ h => h) (Or.inl ⟨by rfl, ?_⟩) (by assumption) ?_
  rotate_left; (intro wS hSw; (try dsimp only at hSw); go_simp <;> with_reducible rfl)
  try simp only [List.getElem_toArray, List.getElem_cons_zero, List.getElem_cons_succ, Act.put, List.setIfInBounds_toArray, List.set_cons_zero, List.set_cons_succ]
  refine wpT_take (i := 2) (oi := _) (v := ?_) rfl (by kernel_rfl) (by kernel_rfl) (by kernel_rfl) (by kernel_rfl) (fun _ _ _ h => h) (Or.inl ⟨by rfl, ?_⟩) (by assumption) ?_
  rotate_left; (intro wS hSw; (try dsimp only at hSw); go_simp <;> with_reducible rfl)
  try simp only [List.getElem_toArray, List.getElem_cons_zero, List.getElem_cons_succ, Act.put, List.setIfInBounds_toArray, List.set_cons_zero, List.set_cons_succ]
  refine wpT_one (i := 3) (by kernel_rfl) rfl (fun K hK => ?_)
  go_simp
  (with_reducible refine (rcheck_w17 P Q G Y ys yn yc B rows bn bc A al na ca C Z zs nz cz hyn hbn han hzn hna hnz hQ false HC _ ?_ ?_ ?_ ?_).mono ?_); (go_split_ands; exact kY.out _ (by assumption)); (go_split_ands; exact kB.out _ (by assumption)); (go_split_ands; exact kA.out _ (by assumption)); (go_split_ands; exact kZ.out _ (by assumption)); rintro e wA ⟨rfl, hbA⟩
  refine hK.out _ _ ?_ (fun hHeld => ?_)
  · (go_split_ands; exact hS.out _ _ (by assumption) hbA)
  clear hK K
  try simp only [List.getElem_toArray, List.getElem_cons_zero, List.getElem_cons_succ, Act.put, List.setIfInBounds_toArray, List.set_cons_zero, List.set_cons_succ]
  refine wpT_take (i := 4) (oi := _) (v := ?_) rfl (by kernel_rfl) (by kernel_rfl) (by kernel_rfl) (by kernel_rfl) (fun _ _ _ h => h) (Or.inl ⟨by rfl, ?_⟩) (by assumption) ?_
  rotate_left; (intro wS hSw; (try dsimp only at hSw); go_simp <;> with_reducible rfl)
  try simp only [List.getElem_toArray, List.getElem_cons_zero, List.getElem_cons_succ, Act.put, List.setIfInBounds_toArray, List.set_cons_zero, List.set_cons_succ]
  refine wpT_take (i := 5) (oi := _) (v := undef) rfl (by kernel_rfl) (by kernel_rfl) (by kernel_rfl) (by kernel_rfl) (fun _ _ _ h => h) (Or.inr ⟨by rfl, rfl⟩) (by assumption) ?_
  try simp only [List.getElem_toArray, List.getElem_cons_zero, List.getElem_cons_succ, Act.put, List.setIfInBounds_toArray, List.set_cons_zero, List.set_cons_succ]
  refine wpT_take (i := 6) (oi := _) (v := undef) rfl (by kernel_rfl) (by kernel_rfl) (by kernel_rfl) (by kernel_rfl) (fun _ _ _ h => h) (Or.inr ⟨by rfl, rfl⟩) (by assumption) ?_
  try simp only [List.getElem_toArray, List.getElem_cons_zero, List.getElem_cons_succ, Act.put, List.setIfInBounds_toArray, List.set_cons_zero, List.set_cons_succ]
  refine wpT_take (i := 7) (oi := _) (v := ?_) rfl (by kernel_rfl) (by kernel_rfl) (by kernel_rfl) (by kernel_rfl) (fun _ _ _ h => h) (Or.inl ⟨by rfl, ?_⟩) (by assumption) ?_
  rotate_left; (intro wS hSw; (try dsimp only at hSw); go_simp <;> with_reducible rfl)
  try simp only [List.getElem_toArray, List.getElem_cons_zero, List.getElem_cons_succ, Act.put, List.setIfInBounds_toArray, List.set_cons_zero, List.set_cons_succ]
  refine wpT_take (i := 8) (oi := _) (v := ?_) rfl (by kernel_rfl) (by kernel_rfl) (by kernel_rfl) (by kernel_rfl) (fun _ _ _ h => h) (Or.inl ⟨by rfl, ?_⟩) (by assumption) ?_
  rotate_left; (intro wS hSw; (try dsimp only at hSw); go_simp <;> with_reducible rfl)
  try simp only [List.getElem_toArray, List.getElem_cons_zero, List.getElem_cons_succ, Act.put, List.setIfInBounds_toArray, List.set_cons_zero, List.set_cons_succ]
  refine wpT_take (i := 9) (oi := _) (v := undef) rfl (by kernel_rfl) (by kernel_rfl) (by kernel_rfl) (by kernel_rfl) (fun _ _ _ h => h) (Or.inr ⟨by rfl, rfl⟩) (by assumption) ?_
  try simp only [List.getElem_toArray, List.getElem_cons_zero, List.getElem_cons_succ, Act.put, List.setIfInBounds_toArray, List.set_cons_zero, List.set_cons_succ]
  refine wpT_take (i := 10) (oi := _) (v := undef) rfl (by kernel_rfl) (by kernel_rfl) (by kernel_rfl) (by kernel_rfl) (fun _ _ _ h => h) (Or.inr ⟨by rfl, rfl⟩) (by assumption) ?_
  try simp only [List.getElem_toArray, List.getElem_cons_zero, List.getElem_cons_succ, Act.put, List.setIfInBounds_toArray, List.set_cons_zero, List.set_cons_succ]
  refine wpT_take (i := 11) (oi := _) (v := undef) rfl (by kernel_rfl) (by kernel_rfl) (by kernel_rfl) (by kernel_rfl) (fun _ _ _ h => h) (Or.inr ⟨by rfl, rfl⟩) (by assumption) ?_
  try simp only [List.getElem_toArray, List.getElem_cons_zero, List.getElem_cons_succ, Act.put, List.setIfInBounds_toArray, List.set_cons_zero, List.set_cons_succ]
  refine wpT_take (i := 12) (oi := _) (v := undef) rfl (by kernel_rfl) (by kernel_rfl) (by kernel_rfl) (by kernel_rfl) (fun _ _ _ h => h) (Or.inr ⟨by rfl, rfl⟩) (by assumption) ?_
  try simp only [List.getElem_toArray, List.getElem_cons_zero, List.getElem_cons_succ, Act.put, List.setIfInBounds_toArray, List.set_cons_zero, List.set_cons_succ]
  refine wpT_take (i := 13) (oi := _) (v := undef) rfl (by kernel_rfl) (by kernel_rfl) (by kernel_rfl) (by kernel_rfl) (fun _ _ _ h => h) (Or.inr ⟨by rfl, rfl⟩) (by assumption) ?_
  try simp only [List.getElem_toArray, List.getElem_cons_zero, List.getElem_cons_succ, Act.put, List.setIfInBounds_toArray, List.set_cons_zero, List.set_cons_succ]
  refine wpT_take (i := 14) (oi := _) (v := undef) rfl (by kernel_rfl) (by kernel_rfl) (by kernel_rfl) (by kernel_rfl) (fun _ _ _ h => h) (Or.inr ⟨by rfl, rfl⟩) (by assumption) ?_
  try simp only [List.getElem_toArray, List.getElem_cons_zero, List.getElem_cons_succ, Act.put, List.setIfInBounds_toArray, List.set_cons_zero, List.set_cons_succ]
  refine wpT_take (i := 15) (oi := _) (v := undef) rfl (by kernel_rfl) (by kernel_rfl) (by kernel_rfl) (by kernel_rfl) (fun _ _ _ h => h) (Or.inr ⟨by rfl, rfl⟩) (by assumption) ?_
  try simp only [List.getElem_toArray, List.getElem_cons_zero, List.getElem_cons_succ, Act.put, List.setIfInBounds_toArray, List.set_cons_zero, List.set_cons_succ]
  refine wpT_take (i := 16) (oi := _) (v := undef) rfl (by kernel_rfl) (by kernel_rfl) (by kernel_rfl) (by kernel_rfl) (fun _ _ _ h => h) (Or.inr ⟨by rfl, rfl⟩) (by assumption) ?_
  try simp only [List.getElem_toArray, List.getElem_cons_zero, List.getElem_cons_succ, Act.put, List.setIfInBounds_toArray, List.set_cons_zero, List.set_cons_succ]
  refine wpT_take (i := 17) (oi := _) (v := undef) rfl (by kernel_rfl) (by kernel_rfl) (by kernel_rfl) (by kernel_rfl) (fun _ _ _ h => h) (Or.inr ⟨by rfl, rfl⟩) (by assumption) ?_
  try simp only [List.getElem_toArray, List.getElem_cons_zero, List.getElem_cons_succ, Act.put, List.setIfInBounds_toArray, List.set_cons_zero, List.set_cons_succ]
  refine wpT_take (i := 18) (oi := _) (v := ?_) rfl (by kernel_rfl) (by kernel_rfl) (by kernel_rfl) (by kernel_rfl) (fun _ _ _ h => h) (Or.inl ⟨by rfl, ?_⟩) (by assumption) ?_
  rotate_left; (intro wS hSw; (try dsimp only at hSw); go_simp <;> with_reducible rfl)
  try simp only [List.getElem_toArray, List.getElem_cons_zero, List.getElem_cons_succ, Act.put, List.setIfInBounds_toArray, List.set_cons_zero, List.set_cons_succ]
  refine wpT_take (i := 19) (oi := _) (v := ?_) rfl (by kernel_rfl) (by kernel_rfl) (by kernel_rfl) (by kernel_rfl) (fun _ _ _ h => h) (Or.inl ⟨by rfl, ?_⟩) (by assumption) ?_
  rotate_left; (intro wS hSw; (try dsimp only at hSw); go_simp <;> with_reducible rfl)
  try simp only [List.getElem_toArray, List.getElem_cons_zero, List.getElem_cons_succ, Act.put, List.setIfInBounds_toArray, List.set_cons_zero, List.set_cons_succ]
  refine wpT_done (by kernel_rfl) ?_ _
  obtain ⟨x0, x1, x2, x3, x4, x5, x6, x7, HBF⟩ := hHeld
  have hbF := below_ext HBw.out HBF.out
  clear x0 x1 x2 x3 x4 x5 x6 x7
  go_wp2
  go_ret
  exact ⟨rfl, hbF⟩
set_option maxHeartbeats 12800000 in
theorem rver_l (P Q G : Int) (Y : Option Addr) (ys : List Int) (yn yc : Nat) (B : Option Addr) (rows : List Row) (bn bc : Nat) (A : Option Addr) (al : List Int) (na ca : Nat) (C : Int) (Z : Option Addr) (zs : List Int) (nz cz : Nat) (hyn : Hid (ys.length = yn)) (hbn : Hid (rows.length = bn)) (han : Hid (al.length = na)) (hzn : Hid (zs.length = nz)) (hna : na < 1000000) (hnz : nz < 1000000) (hQ : Q < 9223372036854775808) (s : ByteArray) (hs : s.size ≤ 1000) (HC : Hid (chkL P Q G C ys rows al zs = true)) (hr : Hid (labB (bys s) = false)) (w : World) (hY : Hid (Sl w Y ys)) (hB : Hid (Rw w B rows)) (hA : Hid (Sl w A al)) (hZ : Hid (Sl w Z zs)) :
    Calls Tryz.prog 72 #[gv P Q G, relV Y yn yc B bn bc, .string s, prvL A na ca C Z nz cz] w fun e' w' => e' = .returned (.bool false) ∧ Below w.heap.size w w' := by
  obtain ⟨w0, hW⟩ : ∃ W, (((w.alloc (gObj P Q G)).alloc (relO Y yn yc B bn bc)).alloc (prObjL A na ca C Z nz cz)) = W := ⟨_, rfl⟩
  have HBw : Hid (Below w.heap.size w w0) := Lib.hid (by rw [← hW]; exact (((Below.refl _ _).alloc (Nat.le_refl _) _).alloc (by simp) _).alloc (by simp; omega) _)
  have hc : w0.cell? ⟨w.heap.size, 0, none⟩ = some (.int .i64 P) ∧ w0.cell? ⟨w.heap.size, 1, none⟩ = some (.int .i64 Q) ∧ w0.cell? ⟨w.heap.size, 2, none⟩ = some (.int .i64 G) ∧ w0.cell? ⟨w.heap.size + 1, 0, none⟩ = some (.slice Y yn yc) ∧ w0.cell? ⟨w.heap.size + 1, 1, none⟩ = some (.slice B bn bc) ∧ w0.cell? ⟨w.heap.size + 2, 0, none⟩ = some (.slice A na ca) ∧ w0.cell? ⟨w.heap.size + 2, 1, none⟩ = some (.int .i64 C) ∧ w0.cell? ⟨w.heap.size + 2, 2, none⟩ = some (.slice Z nz cz) := by rw [← hW]; exact ⟨cell_below (cell_below (allocs_cell (by simp) (by rfl)) (below_box0 _ _)) (below_box0 _ _), cell_below (cell_below (allocs_cell (by simp) (by rfl)) (below_box0 _ _)) (below_box0 _ _), cell_below (cell_below (allocs_cell (by simp) (by rfl)) (below_box0 _ _)) (below_box0 _ _), cell_below (allocs_cell (by simp) (by rfl)) (below_box0 _ _), cell_below (allocs_cell (by simp) (by rfl)) (below_box0 _ _), allocs_cell (by simp) (by rfl), allocs_cell (by simp) (by rfl), allocs_cell (by simp) (by rfl)⟩
  have kC := Lib.hid (show ∀ u : World, Hid (Below w0.heap.size w0 u) → u.cell? ⟨w.heap.size, 0, none⟩ = some (.int .i64 P) ∧ u.cell? ⟨w.heap.size, 1, none⟩ = some (.int .i64 Q) ∧ u.cell? ⟨w.heap.size, 2, none⟩ = some (.int .i64 G) ∧ u.cell? ⟨w.heap.size + 1, 0, none⟩ = some (.slice Y yn yc) ∧ u.cell? ⟨w.heap.size + 1, 1, none⟩ = some (.slice B bn bc) ∧ u.cell? ⟨w.heap.size + 2, 0, none⟩ = some (.slice A na ca) ∧ u.cell? ⟨w.heap.size + 2, 1, none⟩ = some (.int .i64 C) ∧ u.cell? ⟨w.heap.size + 2, 2, none⟩ = some (.slice Z nz cz) from fun u h => ⟨cell_below hc.1 h.out, cell_below hc.2.1 h.out, cell_below hc.2.2.1 h.out, cell_below hc.2.2.2.1 h.out, cell_below hc.2.2.2.2.1 h.out, cell_below hc.2.2.2.2.2.1 h.out, cell_below hc.2.2.2.2.2.2.1 h.out, cell_below hc.2.2.2.2.2.2.2 h.out⟩)
  have kY := Lib.hid (show ∀ u : World, Hid (Below w0.heap.size w0 u) → Hid (Sl u Y ys) from fun u h => Lib.hid ((hY.out.below) (below_ext HBw.out h.out)))
  have kB := Lib.hid (show ∀ u : World, Hid (Below w0.heap.size w0 u) → Hid (Rw u B rows) from fun u h => Lib.hid ((hB.out.below) (below_ext HBw.out h.out)))
  have kA := Lib.hid (show ∀ u : World, Hid (Below w0.heap.size w0 u) → Hid (Sl u A al) from fun u h => Lib.hid ((hA.out.below) (below_ext HBw.out h.out)))
  have kZ := Lib.hid (show ∀ u : World, Hid (Below w0.heap.size w0 u) → Hid (Sl u Z zs) from fun u h => Lib.hid ((hZ.out.below) (below_ext HBw.out h.out)))
  have HB_0 : Hid (Below w0.heap.size w0 w0) := Lib.hid (Below.refl _ _)
  have HW := Lib.hid hW
  clear hW hc hY hB hA hZ
  go_enter Tryz.func72, Tryz.ntmps72
  go_wp2_with fail
  rw [HW.out]
  obtain ⟨zc0, zc1, zc2, zc3, zc4, zc5, zc6, zc7⟩ := kC.out _ HB_0
  clear zc0 zc1 zc2 zc3 zc4 zc5 zc6 zc7
  have hS := Lib.hid (show ∀ u1 u2 : World, Hid (Below w0.heap.size w0 u1) → Below u1.heap.size u1 u2 → (u2.cell? ⟨w.heap.size, 0, none⟩ = some (.int .i64 P) ∧ u2.cell? ⟨w.heap.size, 1, none⟩ = some (.int .i64 Q) ∧ u2.cell? ⟨w.heap.size, 2, none⟩ = some (.int .i64 G) ∧ u2.cell? ⟨w.heap.size + 1, 0, none⟩ = some (.slice Y yn yc) ∧ u2.cell? ⟨w.heap.size + 1, 1, none⟩ = some (.slice B bn bc) ∧ u2.cell? ⟨w.heap.size + 2, 0, none⟩ = some (.slice A na ca) ∧ u2.cell? ⟨w.heap.size + 2, 1, none⟩ = some (.int .i64 C) ∧ u2.cell? ⟨w.heap.size + 2, 2, none⟩ = some (.slice Z nz cz) ∧ Hid (Below w0.heap.size w0 u2)) from fun u1 u2 h1 h2 => by
    have h3 := Lib.hid (below_ext h1.out h2)
    obtain ⟨y0, y1, y2, y3, y4, y5, y6, y7⟩ := kC.out _ h3
    exact ⟨y0, y1, y2, y3, y4, y5, y6, y7, h3⟩)
  refine wp_region_T (S := fun w' => w'.cell? ⟨w.heap.size, 0, none⟩ = some (.int .i64 P) ∧ w'.cell? ⟨w.heap.size, 1, none⟩ = some (.int .i64 Q) ∧ w'.cell? ⟨w.heap.size, 2, none⟩ = some (.int .i64 G) ∧ w'.cell? ⟨w.heap.size + 1, 0, none⟩ = some (.slice Y yn yc) ∧ w'.cell? ⟨w.heap.size + 1, 1, none⟩ = some (.slice B bn bc) ∧ w'.cell? ⟨w.heap.size + 2, 0, none⟩ = some (.slice A na ca) ∧ w'.cell? ⟨w.heap.size + 2, 1, none⟩ = some (.int .i64 C) ∧ w'.cell? ⟨w.heap.size + 2, 2, none⟩ = some (.slice Z nz cz) ∧ Hid (Below w0.heap.size w0 w')) (E := []) (by kernel_rfl) (hS.out _ _ HB_0 ((Below.refl _ _).drew)) (fun hHeld => ?_)
  refine wpT_take (i := 0) (oi := _) (v := ?_) rfl (by kernel_rfl) (by kernel_rfl) (by kernel_rfl) (by kernel_rfl) (fun _ _ _ h => h) (Or.inl ⟨by rfl, ?_⟩) (by assumption) ?_
  rotate_left; (intro wS hSw; (try dsimp only at hSw); go_simp <;> with_reducible rfl)
  try simp only [List.getElem_toArray, List.getElem_cons_zero, List.getElem_cons_succ, Act.put, List.setIfInBounds_toArray, List.set_cons_zero, List.set_cons_succ]
  refine wpT_take (i := 1) (oi := _) (v := ?_) rfl (by kernel_rfl) (by kernel_rfl) (by kernel_rfl) (by kernel_rfl) (fun _ _ _ h => h) (Or.inl ⟨by rfl, ?_⟩) (by assumption) ?_
  rotate_left; (intro wS hSw; (try dsimp only at hSw); go_simp <;> with_reducible rfl)
  try simp only [List.getElem_toArray, List.getElem_cons_zero, List.getElem_cons_succ, Act.put, List.setIfInBounds_toArray, List.set_cons_zero, List.set_cons_succ]
  refine wpT_take (i := 2) (oi := _) (v := ?_) rfl (by kernel_rfl) (by kernel_rfl) (by kernel_rfl) (by kernel_rfl) (fun _ _ _ h => h) (Or.inl ⟨by rfl, ?_⟩) (by assumption) ?_
  rotate_left; (intro wS hSw; (try dsimp only at hSw); go_simp <;> with_reducible rfl)
  try simp only [List.getElem_toArray, List.getElem_cons_zero, List.getElem_cons_succ, Act.put, List.setIfInBounds_toArray, List.set_cons_zero, List.set_cons_succ]
  refine wpT_one (i := 3) (by kernel_rfl) rfl (fun K hK => ?_)
  go_simp
  (with_reducible refine (rcheck_w17 P Q G Y ys yn yc B rows bn bc A al na ca C Z zs nz cz hyn hbn han hzn hna hnz hQ true HC _ ?_ ?_ ?_ ?_).mono ?_); (go_split_ands; exact kY.out _ (by assumption)); (go_split_ands; exact kB.out _ (by assumption)); (go_split_ands; exact kA.out _ (by assumption)); (go_split_ands; exact kZ.out _ (by assumption)); rintro e wA ⟨rfl, hbA⟩
  refine hK.out _ _ ?_ (fun hHeld => ?_)
  · (go_split_ands; exact hS.out _ _ (by assumption) hbA)
  clear hK K
  try simp only [List.getElem_toArray, List.getElem_cons_zero, List.getElem_cons_succ, Act.put, List.setIfInBounds_toArray, List.set_cons_zero, List.set_cons_succ]
  refine wpT_take (i := 4) (oi := _) (v := ?_) rfl (by kernel_rfl) (by kernel_rfl) (by kernel_rfl) (by kernel_rfl) (fun _ _ _ h => h) (Or.inl ⟨by rfl, ?_⟩) (by assumption) ?_
  rotate_left; (intro wS hSw; (try dsimp only at hSw); go_simp <;> with_reducible rfl)
  try simp only [List.getElem_toArray, List.getElem_cons_zero, List.getElem_cons_succ, Act.put, List.setIfInBounds_toArray, List.set_cons_zero, List.set_cons_succ]
  refine wpT_take (i := 5) (oi := _) (v := ?_) rfl (by kernel_rfl) (by kernel_rfl) (by kernel_rfl) (by kernel_rfl) (fun _ _ _ h => h) (Or.inl ⟨by rfl, ?_⟩) (by assumption) ?_
  rotate_left; (intro wS hSw; (try dsimp only at hSw); go_simp <;> with_reducible rfl)
  try simp only [List.getElem_toArray, List.getElem_cons_zero, List.getElem_cons_succ, Act.put, List.setIfInBounds_toArray, List.set_cons_zero, List.set_cons_succ]
  refine wpT_one (i := 6) (by kernel_rfl) rfl (fun K hK => ?_)
  go_simp
  (with_reducible refine (rlabel_any s hs false hr _).mono ?_); rintro e wB ⟨rfl, rfl⟩
  refine hK.out _ _ ?_ (fun hHeld => ?_)
  · (go_split_ands; exact ⟨by assumption, by assumption, by assumption, by assumption, by assumption, by assumption, by assumption, by assumption, by assumption⟩)
  clear hK K
  try simp only [List.getElem_toArray, List.getElem_cons_zero, List.getElem_cons_succ, Act.put, List.setIfInBounds_toArray, List.set_cons_zero, List.set_cons_succ]
  refine wpT_take (i := 7) (oi := _) (v := ?_) rfl (by kernel_rfl) (by kernel_rfl) (by kernel_rfl) (by kernel_rfl) (fun _ _ _ h => h) (Or.inl ⟨by rfl, ?_⟩) (by assumption) ?_
  rotate_left; (intro wS hSw; (try dsimp only at hSw); go_simp <;> with_reducible rfl)
  try simp only [List.getElem_toArray, List.getElem_cons_zero, List.getElem_cons_succ, Act.put, List.setIfInBounds_toArray, List.set_cons_zero, List.set_cons_succ]
  refine wpT_take (i := 8) (oi := _) (v := ?_) rfl (by kernel_rfl) (by kernel_rfl) (by kernel_rfl) (by kernel_rfl) (fun _ _ _ h => h) (Or.inl ⟨by rfl, ?_⟩) (by assumption) ?_
  rotate_left; (intro wS hSw; (try dsimp only at hSw); go_simp <;> with_reducible rfl)
  try simp only [List.getElem_toArray, List.getElem_cons_zero, List.getElem_cons_succ, Act.put, List.setIfInBounds_toArray, List.set_cons_zero, List.set_cons_succ]
  refine wpT_take (i := 9) (oi := _) (v := undef) rfl (by kernel_rfl) (by kernel_rfl) (by kernel_rfl) (by kernel_rfl) (fun _ _ _ h => h) (Or.inr ⟨by rfl, rfl⟩) (by assumption) ?_
  try simp only [List.getElem_toArray, List.getElem_cons_zero, List.getElem_cons_succ, Act.put, List.setIfInBounds_toArray, List.set_cons_zero, List.set_cons_succ]
  refine wpT_take (i := 10) (oi := _) (v := undef) rfl (by kernel_rfl) (by kernel_rfl) (by kernel_rfl) (by kernel_rfl) (fun _ _ _ h => h) (Or.inr ⟨by rfl, rfl⟩) (by assumption) ?_
  try simp only [List.getElem_toArray, List.getElem_cons_zero, List.getElem_cons_succ, Act.put, List.setIfInBounds_toArray, List.set_cons_zero, List.set_cons_succ]
  refine wpT_take (i := 11) (oi := _) (v := undef) rfl (by kernel_rfl) (by kernel_rfl) (by kernel_rfl) (by kernel_rfl) (fun _ _ _ h => h) (Or.inr ⟨by rfl, rfl⟩) (by assumption) ?_
  try simp only [List.getElem_toArray, List.getElem_cons_zero, List.getElem_cons_succ, Act.put, List.setIfInBounds_toArray, List.set_cons_zero, List.set_cons_succ]
  refine wpT_take (i := 12) (oi := _) (v := undef) rfl (by kernel_rfl) (by kernel_rfl) (by kernel_rfl) (by kernel_rfl) (fun _ _ _ h => h) (Or.inr ⟨by rfl, rfl⟩) (by assumption) ?_
  try simp only [List.getElem_toArray, List.getElem_cons_zero, List.getElem_cons_succ, Act.put, List.setIfInBounds_toArray, List.set_cons_zero, List.set_cons_succ]
  refine wpT_take (i := 13) (oi := _) (v := undef) rfl (by kernel_rfl) (by kernel_rfl) (by kernel_rfl) (by kernel_rfl) (fun _ _ _ h => h) (Or.inr ⟨by rfl, rfl⟩) (by assumption) ?_
  try simp only [List.getElem_toArray, List.getElem_cons_zero, List.getElem_cons_succ, Act.put, List.setIfInBounds_toArray, List.set_cons_zero, List.set_cons_succ]
  refine wpT_take (i := 14) (oi := _) (v := undef) rfl (by kernel_rfl) (by kernel_rfl) (by kernel_rfl) (by kernel_rfl) (fun _ _ _ h => h) (Or.inr ⟨by rfl, rfl⟩) (by assumption) ?_
  try simp only [List.getElem_toArray, List.getElem_cons_zero, List.getElem_cons_succ, Act.put, List.setIfInBounds_toArray, List.set_cons_zero, List.set_cons_succ]
  refine wpT_take (i := 15) (oi := _) (v := undef) rfl (by kernel_rfl) (by kernel_rfl) (by kernel_rfl) (by kernel_rfl) (fun _ _ _ h => h) (Or.inr ⟨by rfl, rfl⟩) (by assumption) ?_
  try simp only [List.getElem_toArray, List.getElem_cons_zero, List.getElem_cons_succ, Act.put, List.setIfInBounds_toArray, List.set_cons_zero, List.set_cons_succ]
  refine wpT_take (i := 16) (oi := _) (v := undef) rfl (by kernel_rfl) (by kernel_rfl) (by kernel_rfl) (by kernel_rfl) (fun _ _ _ h => h) (Or.inr ⟨by rfl, rfl⟩) (by assumption) ?_
  try simp only [List.getElem_toArray, List.getElem_cons_zero, List.getElem_cons_succ, Act.put, List.setIfInBounds_toArray, List.set_cons_zero, List.set_cons_succ]
  refine wpT_take (i := 17) (oi := _) (v := undef) rfl (by kernel_rfl) (by kernel_rfl) (by kernel_rfl) (by kernel_rfl) (fun _ _ _ h => h) (Or.inr ⟨by rfl, rfl⟩) (by assumption) ?_
  try simp only [List.getElem_toArray, List.getElem_cons_zero, List.getElem_cons_succ, Act.put, List.setIfInBounds_toArray, List.set_cons_zero, List.set_cons_succ]
  refine wpT_take (i := 18) (oi := _) (v := ?_) rfl (by kernel_rfl) (by kernel_rfl) (by kernel_rfl) (by kernel_rfl) (fun _ _ _ h => h) (Or.inl ⟨by rfl, ?_⟩) (by assumption) ?_
  rotate_left; (intro wS hSw; (try dsimp only at hSw); go_simp <;> with_reducible rfl)
  try simp only [List.getElem_toArray, List.getElem_cons_zero, List.getElem_cons_succ, Act.put, List.setIfInBounds_toArray, List.set_cons_zero, List.set_cons_succ]
  refine wpT_take (i := 19) (oi := _) (v := ?_) rfl (by kernel_rfl) (by kernel_rfl) (by kernel_rfl) (by kernel_rfl) (fun _ _ _ h => h) (Or.inl ⟨by rfl, ?_⟩) (by assumption) ?_
  rotate_left; (intro wS hSw; (try dsimp only at hSw); go_simp <;> with_reducible rfl)
  try simp only [List.getElem_toArray, List.getElem_cons_zero, List.getElem_cons_succ, Act.put, List.setIfInBounds_toArray, List.set_cons_zero, List.set_cons_succ]
  refine wpT_done (by kernel_rfl) ?_ _
  obtain ⟨x0, x1, x2, x3, x4, x5, x6, x7, HBF⟩ := hHeld
  have hbF := below_ext HBw.out HBF.out
  clear x0 x1 x2 x3 x4 x5 x6 x7
  go_wp2
  go_ret
  exact ⟨rfl, hbF⟩
set_option maxHeartbeats 12800000 in
theorem rver_o (P Q G : Int) (Y : Option Addr) (ys : List Int) (yn yc : Nat) (B : Option Addr) (rows : List Row) (bn bc : Nat) (A : Option Addr) (al : List Int) (na ca : Nat) (C : Int) (Z : Option Addr) (zs : List Int) (nz cz : Nat) (hyn : Hid (ys.length = yn)) (hbn : Hid (rows.length = bn)) (han : Hid (al.length = na)) (hzn : Hid (zs.length = nz)) (hna : na < 1000000) (hnz : nz < 1000000) (hQ : Q < 9223372036854775808) (s : ByteArray) (hs : s.size ≤ 1000) (HC : Hid (chkL P Q G C ys rows al zs = true)) (hr : Hid (labB (bys s) = true)) (hb9 : bn ≤ 900) (okg : Hid (okL [P, Q, G])) (oky : Hid (okL ys)) (oka : Hid (okL al)) (okr : Hid (∀ k, k < rows.length → okL (rows.getD k noRow).xs)) (hQ1 : 2 ≤ Q) (hQ2 : Q < 2305843009213693952) (V : Int) (HV : Kp (chalV P Q G (bys s) ys rows al = V)) (w : World) (hY : Hid (Sl w Y ys)) (hB : Hid (Rw w B rows)) (hA : Hid (Sl w A al)) (hZ : Hid (Sl w Z zs)) :
    Calls Tryz.prog 72 #[gv P Q G, relV Y yn yc B bn bc, .string s, prvL A na ca C Z nz cz] w fun e' w' => e' = .returned (.bool (C == V)) ∧ Below w.heap.size w w' := by
  obtain ⟨w0, hW⟩ : ∃ W, (((w.alloc (gObj P Q G)).alloc (relO Y yn yc B bn bc)).alloc (prObjL A na ca C Z nz cz)) = W := ⟨_, rfl⟩
  have HBw : Hid (Below w.heap.size w w0) := Lib.hid (by rw [← hW]; exact (((Below.refl _ _).alloc (Nat.le_refl _) _).alloc (by simp) _).alloc (by simp; omega) _)
  have hc : w0.cell? ⟨w.heap.size, 0, none⟩ = some (.int .i64 P) ∧ w0.cell? ⟨w.heap.size, 1, none⟩ = some (.int .i64 Q) ∧ w0.cell? ⟨w.heap.size, 2, none⟩ = some (.int .i64 G) ∧ w0.cell? ⟨w.heap.size + 1, 0, none⟩ = some (.slice Y yn yc) ∧ w0.cell? ⟨w.heap.size + 1, 1, none⟩ = some (.slice B bn bc) ∧ w0.cell? ⟨w.heap.size + 2, 0, none⟩ = some (.slice A na ca) ∧ w0.cell? ⟨w.heap.size + 2, 1, none⟩ = some (.int .i64 C) ∧ w0.cell? ⟨w.heap.size + 2, 2, none⟩ = some (.slice Z nz cz) := by rw [← hW]; exact ⟨cell_below (cell_below (allocs_cell (by simp) (by rfl)) (below_box0 _ _)) (below_box0 _ _), cell_below (cell_below (allocs_cell (by simp) (by rfl)) (below_box0 _ _)) (below_box0 _ _), cell_below (cell_below (allocs_cell (by simp) (by rfl)) (below_box0 _ _)) (below_box0 _ _), cell_below (allocs_cell (by simp) (by rfl)) (below_box0 _ _), cell_below (allocs_cell (by simp) (by rfl)) (below_box0 _ _), allocs_cell (by simp) (by rfl), allocs_cell (by simp) (by rfl), allocs_cell (by simp) (by rfl)⟩
  have kC := Lib.hid (show ∀ u : World, Hid (Below w0.heap.size w0 u) → u.cell? ⟨w.heap.size, 0, none⟩ = some (.int .i64 P) ∧ u.cell? ⟨w.heap.size, 1, none⟩ = some (.int .i64 Q) ∧ u.cell? ⟨w.heap.size, 2, none⟩ = some (.int .i64 G) ∧ u.cell? ⟨w.heap.size + 1, 0, none⟩ = some (.slice Y yn yc) ∧ u.cell? ⟨w.heap.size + 1, 1, none⟩ = some (.slice B bn bc) ∧ u.cell? ⟨w.heap.size + 2, 0, none⟩ = some (.slice A na ca) ∧ u.cell? ⟨w.heap.size + 2, 1, none⟩ = some (.int .i64 C) ∧ u.cell? ⟨w.heap.size + 2, 2, none⟩ = some (.slice Z nz cz) from fun u h => ⟨cell_below hc.1 h.out, cell_below hc.2.1 h.out, cell_below hc.2.2.1 h.out, cell_below hc.2.2.2.1 h.out, cell_below hc.2.2.2.2.1 h.out, cell_below hc.2.2.2.2.2.1 h.out, cell_below hc.2.2.2.2.2.2.1 h.out, cell_below hc.2.2.2.2.2.2.2 h.out⟩)
  have kY := Lib.hid (show ∀ u : World, Hid (Below w0.heap.size w0 u) → Hid (Sl u Y ys) from fun u h => Lib.hid ((hY.out.below) (below_ext HBw.out h.out)))
  have kB := Lib.hid (show ∀ u : World, Hid (Below w0.heap.size w0 u) → Hid (Rw u B rows) from fun u h => Lib.hid ((hB.out.below) (below_ext HBw.out h.out)))
  have kA := Lib.hid (show ∀ u : World, Hid (Below w0.heap.size w0 u) → Hid (Sl u A al) from fun u h => Lib.hid ((hA.out.below) (below_ext HBw.out h.out)))
  have kZ := Lib.hid (show ∀ u : World, Hid (Below w0.heap.size w0 u) → Hid (Sl u Z zs) from fun u h => Lib.hid ((hZ.out.below) (below_ext HBw.out h.out)))
  have HB_0 : Hid (Below w0.heap.size w0 w0) := Lib.hid (Below.refl _ _)
  have HW := Lib.hid hW
  clear hW hc hY hB hA hZ
  go_enter Tryz.func72, Tryz.ntmps72
  go_wp2_with fail
  rw [HW.out]
  obtain ⟨zc0, zc1, zc2, zc3, zc4, zc5, zc6, zc7⟩ := kC.out _ HB_0
  clear zc0 zc1 zc2 zc3 zc4 zc5 zc6 zc7
  have hS := Lib.hid (show ∀ u1 u2 : World, Hid (Below w0.heap.size w0 u1) → Below u1.heap.size u1 u2 → (u2.cell? ⟨w.heap.size, 0, none⟩ = some (.int .i64 P) ∧ u2.cell? ⟨w.heap.size, 1, none⟩ = some (.int .i64 Q) ∧ u2.cell? ⟨w.heap.size, 2, none⟩ = some (.int .i64 G) ∧ u2.cell? ⟨w.heap.size + 1, 0, none⟩ = some (.slice Y yn yc) ∧ u2.cell? ⟨w.heap.size + 1, 1, none⟩ = some (.slice B bn bc) ∧ u2.cell? ⟨w.heap.size + 2, 0, none⟩ = some (.slice A na ca) ∧ u2.cell? ⟨w.heap.size + 2, 1, none⟩ = some (.int .i64 C) ∧ u2.cell? ⟨w.heap.size + 2, 2, none⟩ = some (.slice Z nz cz) ∧ Hid (Below w0.heap.size w0 u2)) from fun u1 u2 h1 h2 => by
    have h3 := Lib.hid (below_ext h1.out h2)
    obtain ⟨y0, y1, y2, y3, y4, y5, y6, y7⟩ := kC.out _ h3
    exact ⟨y0, y1, y2, y3, y4, y5, y6, y7, h3⟩)
  refine wp_region_T (S := fun w' => w'.cell? ⟨w.heap.size, 0, none⟩ = some (.int .i64 P) ∧ w'.cell? ⟨w.heap.size, 1, none⟩ = some (.int .i64 Q) ∧ w'.cell? ⟨w.heap.size, 2, none⟩ = some (.int .i64 G) ∧ w'.cell? ⟨w.heap.size + 1, 0, none⟩ = some (.slice Y yn yc) ∧ w'.cell? ⟨w.heap.size + 1, 1, none⟩ = some (.slice B bn bc) ∧ w'.cell? ⟨w.heap.size + 2, 0, none⟩ = some (.slice A na ca) ∧ w'.cell? ⟨w.heap.size + 2, 1, none⟩ = some (.int .i64 C) ∧ w'.cell? ⟨w.heap.size + 2, 2, none⟩ = some (.slice Z nz cz) ∧ Hid (Below w0.heap.size w0 w')) (E := []) (by kernel_rfl) (hS.out _ _ HB_0 ((Below.refl _ _).drew)) (fun hHeld => ?_)
  refine wpT_take (i := 0) (oi := _) (v := ?_) rfl (by kernel_rfl) (by kernel_rfl) (by kernel_rfl) (by kernel_rfl) (fun _ _ _ h => h) (Or.inl ⟨by rfl, ?_⟩) (by assumption) ?_
  rotate_left; (intro wS hSw; (try dsimp only at hSw); go_simp <;> with_reducible rfl)
  try simp only [List.getElem_toArray, List.getElem_cons_zero, List.getElem_cons_succ, Act.put, List.setIfInBounds_toArray, List.set_cons_zero, List.set_cons_succ]
  refine wpT_take (i := 1) (oi := _) (v := ?_) rfl (by kernel_rfl) (by kernel_rfl) (by kernel_rfl) (by kernel_rfl) (fun _ _ _ h => h) (Or.inl ⟨by rfl, ?_⟩) (by assumption) ?_
  rotate_left; (intro wS hSw; (try dsimp only at hSw); go_simp <;> with_reducible rfl)
  try simp only [List.getElem_toArray, List.getElem_cons_zero, List.getElem_cons_succ, Act.put, List.setIfInBounds_toArray, List.set_cons_zero, List.set_cons_succ]
  refine wpT_take (i := 2) (oi := _) (v := ?_) rfl (by kernel_rfl) (by kernel_rfl) (by kernel_rfl) (by kernel_rfl) (fun _ _ _ h => h) (Or.inl ⟨by rfl, ?_⟩) (by assumption) ?_
  rotate_left; (intro wS hSw; (try dsimp only at hSw); go_simp <;> with_reducible rfl)
  try simp only [List.getElem_toArray, List.getElem_cons_zero, List.getElem_cons_succ, Act.put, List.setIfInBounds_toArray, List.set_cons_zero, List.set_cons_succ]
  refine wpT_one (i := 3) (by kernel_rfl) rfl (fun K hK => ?_)
  go_simp
  (with_reducible refine (rcheck_w17 P Q G Y ys yn yc B rows bn bc A al na ca C Z zs nz cz hyn hbn han hzn hna hnz hQ true HC _ ?_ ?_ ?_ ?_).mono ?_); (go_split_ands; exact kY.out _ (by assumption)); (go_split_ands; exact kB.out _ (by assumption)); (go_split_ands; exact kA.out _ (by assumption)); (go_split_ands; exact kZ.out _ (by assumption)); rintro e wA ⟨rfl, hbA⟩
  refine hK.out _ _ ?_ (fun hHeld => ?_)
  · (go_split_ands; exact hS.out _ _ (by assumption) hbA)
  clear hK K
  try simp only [List.getElem_toArray, List.getElem_cons_zero, List.getElem_cons_succ, Act.put, List.setIfInBounds_toArray, List.set_cons_zero, List.set_cons_succ]
  refine wpT_take (i := 4) (oi := _) (v := ?_) rfl (by kernel_rfl) (by kernel_rfl) (by kernel_rfl) (by kernel_rfl) (fun _ _ _ h => h) (Or.inl ⟨by rfl, ?_⟩) (by assumption) ?_
  rotate_left; (intro wS hSw; (try dsimp only at hSw); go_simp <;> with_reducible rfl)
  try simp only [List.getElem_toArray, List.getElem_cons_zero, List.getElem_cons_succ, Act.put, List.setIfInBounds_toArray, List.set_cons_zero, List.set_cons_succ]
  refine wpT_take (i := 5) (oi := _) (v := ?_) rfl (by kernel_rfl) (by kernel_rfl) (by kernel_rfl) (by kernel_rfl) (fun _ _ _ h => h) (Or.inl ⟨by rfl, ?_⟩) (by assumption) ?_
  rotate_left; (intro wS hSw; (try dsimp only at hSw); go_simp <;> with_reducible rfl)
  try simp only [List.getElem_toArray, List.getElem_cons_zero, List.getElem_cons_succ, Act.put, List.setIfInBounds_toArray, List.set_cons_zero, List.set_cons_succ]
  refine wpT_one (i := 6) (by kernel_rfl) rfl (fun K hK => ?_)
  go_simp
  (with_reducible refine (rlabel_any s hs true hr _).mono ?_); rintro e wB ⟨rfl, rfl⟩
  refine hK.out _ _ ?_ (fun hHeld => ?_)
  · (go_split_ands; exact ⟨by assumption, by assumption, by assumption, by assumption, by assumption, by assumption, by assumption, by assumption, by assumption⟩)
  clear hK K
  try simp only [List.getElem_toArray, List.getElem_cons_zero, List.getElem_cons_succ, Act.put, List.setIfInBounds_toArray, List.set_cons_zero, List.set_cons_succ]
  refine wpT_take (i := 7) (oi := _) (v := ?_) rfl (by kernel_rfl) (by kernel_rfl) (by kernel_rfl) (by kernel_rfl) (fun _ _ _ h => h) (Or.inl ⟨by rfl, ?_⟩) (by assumption) ?_
  rotate_left; (intro wS hSw; (try dsimp only at hSw); go_simp <;> with_reducible rfl)
  try simp only [List.getElem_toArray, List.getElem_cons_zero, List.getElem_cons_succ, Act.put, List.setIfInBounds_toArray, List.set_cons_zero, List.set_cons_succ]
  refine wpT_take (i := 8) (oi := _) (v := ?_) rfl (by kernel_rfl) (by kernel_rfl) (by kernel_rfl) (by kernel_rfl) (fun _ _ _ h => h) (Or.inl ⟨by rfl, ?_⟩) (by assumption) ?_
  rotate_left; (intro wS hSw; (try dsimp only at hSw); go_simp <;> with_reducible rfl)
  try simp only [List.getElem_toArray, List.getElem_cons_zero, List.getElem_cons_succ, Act.put, List.setIfInBounds_toArray, List.set_cons_zero, List.set_cons_succ]
  refine wpT_take (i := 9) (oi := _) (v := ?_) rfl (by kernel_rfl) (by kernel_rfl) (by kernel_rfl) (by kernel_rfl) (fun _ _ _ h => h) (Or.inl ⟨by rfl, ?_⟩) (by assumption) ?_
  rotate_left; (intro wS hSw; (try dsimp only at hSw); go_simp <;> with_reducible rfl)
  try simp only [List.getElem_toArray, List.getElem_cons_zero, List.getElem_cons_succ, Act.put, List.setIfInBounds_toArray, List.set_cons_zero, List.set_cons_succ]
  refine wpT_take (i := 10) (oi := _) (v := ?_) rfl (by kernel_rfl) (by kernel_rfl) (by kernel_rfl) (by kernel_rfl) (fun _ _ _ h => h) (Or.inl ⟨by rfl, ?_⟩) (by assumption) ?_
  rotate_left; (intro wS hSw; (try dsimp only at hSw); go_simp <;> with_reducible rfl)
  try simp only [List.getElem_toArray, List.getElem_cons_zero, List.getElem_cons_succ, Act.put, List.setIfInBounds_toArray, List.set_cons_zero, List.set_cons_succ]
  refine wpT_take (i := 11) (oi := _) (v := ?_) rfl (by kernel_rfl) (by kernel_rfl) (by kernel_rfl) (by kernel_rfl) (fun _ _ _ h => h) (Or.inl ⟨by rfl, ?_⟩) (by assumption) ?_
  rotate_left; (intro wS hSw; (try dsimp only at hSw); go_simp <;> with_reducible rfl)
  try simp only [List.getElem_toArray, List.getElem_cons_zero, List.getElem_cons_succ, Act.put, List.setIfInBounds_toArray, List.set_cons_zero, List.set_cons_succ]
  refine wpT_take (i := 12) (oi := _) (v := ?_) rfl (by kernel_rfl) (by kernel_rfl) (by kernel_rfl) (by kernel_rfl) (fun _ _ _ h => h) (Or.inl ⟨by rfl, ?_⟩) (by assumption) ?_
  rotate_left; (intro wS hSw; (try dsimp only at hSw); go_simp <;> with_reducible rfl)
  try simp only [List.getElem_toArray, List.getElem_cons_zero, List.getElem_cons_succ, Act.put, List.setIfInBounds_toArray, List.set_cons_zero, List.set_cons_succ]
  refine wpT_take (i := 13) (oi := _) (v := ?_) rfl (by kernel_rfl) (by kernel_rfl) (by kernel_rfl) (by kernel_rfl) (fun _ _ _ h => h) (Or.inl ⟨by rfl, ?_⟩) (by assumption) ?_
  rotate_left; (intro wS hSw; (try dsimp only at hSw); go_simp <;> with_reducible rfl)
  try simp only [List.getElem_toArray, List.getElem_cons_zero, List.getElem_cons_succ, Act.put, List.setIfInBounds_toArray, List.set_cons_zero, List.set_cons_succ]
  refine wpT_take (i := 14) (oi := _) (v := ?_) rfl (by kernel_rfl) (by kernel_rfl) (by kernel_rfl) (by kernel_rfl) (fun _ _ _ h => h) (Or.inl ⟨by rfl, ?_⟩) (by assumption) ?_
  rotate_left; (intro wS hSw; (try dsimp only at hSw); go_simp <;> with_reducible rfl)
  try simp only [List.getElem_toArray, List.getElem_cons_zero, List.getElem_cons_succ, Act.put, List.setIfInBounds_toArray, List.set_cons_zero, List.set_cons_succ]
  refine wpT_take (i := 15) (oi := _) (v := ?_) rfl (by kernel_rfl) (by kernel_rfl) (by kernel_rfl) (by kernel_rfl) (fun _ _ _ h => h) (Or.inl ⟨by rfl, ?_⟩) (by assumption) ?_
  rotate_left; (intro wS hSw; (try dsimp only at hSw); go_simp <;> with_reducible rfl)
  try simp only [List.getElem_toArray, List.getElem_cons_zero, List.getElem_cons_succ, Act.put, List.setIfInBounds_toArray, List.set_cons_zero, List.set_cons_succ]
  refine wpT_one (i := 16) (by kernel_rfl) rfl (fun K hK => ?_)
  go_simp
  (with_reducible refine (rchal17_ok P Q G Y ys yn yc B rows bn bc A al na ca s hs hr hyn hbn han hb9 okg oky oka okr hQ1 hQ2 V HV _ ?_ ?_ ?_).mono ?_); (go_split_ands; exact kY.out _ (by assumption)); (go_split_ands; exact kB.out _ (by assumption)); (go_split_ands; exact kA.out _ (by assumption)); rintro e wA ⟨rfl, hbA⟩
  refine hK.out _ _ ?_ (fun hHeld => ?_)
  · (go_split_ands; exact hS.out _ _ (by assumption) hbA)
  clear hK K
  try simp only [List.getElem_toArray, List.getElem_cons_zero, List.getElem_cons_succ, Act.put, List.setIfInBounds_toArray, List.set_cons_zero, List.set_cons_succ]
  refine wpT_take (i := 17) (oi := _) (v := ?_) rfl (by kernel_rfl) (by kernel_rfl) (by kernel_rfl) (by kernel_rfl) (fun _ _ _ h => h) (Or.inl ⟨by rfl, ?_⟩) (by assumption) ?_
  rotate_left; (intro wS hSw; (try dsimp only at hSw); go_simp <;> with_reducible rfl)
  try simp only [List.getElem_toArray, List.getElem_cons_zero, List.getElem_cons_succ, Act.put, List.setIfInBounds_toArray, List.set_cons_zero, List.set_cons_succ]
  refine wpT_take (i := 18) (oi := _) (v := ?_) rfl (by kernel_rfl) (by kernel_rfl) (by kernel_rfl) (by kernel_rfl) (fun _ _ _ h => h) (Or.inl ⟨by rfl, ?_⟩) (by assumption) ?_
  rotate_left; (intro wS hSw; (try dsimp only at hSw); go_simp <;> with_reducible rfl)
  try simp only [List.getElem_toArray, List.getElem_cons_zero, List.getElem_cons_succ, Act.put, List.setIfInBounds_toArray, List.set_cons_zero, List.set_cons_succ]
  refine wpT_take (i := 19) (oi := _) (v := ?_) rfl (by kernel_rfl) (by kernel_rfl) (by kernel_rfl) (by kernel_rfl) (fun _ _ _ h => h) (Or.inl ⟨by rfl, ?_⟩) (by assumption) ?_
  rotate_left; (intro wS hSw; (try dsimp only at hSw); go_simp <;> with_reducible rfl)
  try simp only [List.getElem_toArray, List.getElem_cons_zero, List.getElem_cons_succ, Act.put, List.setIfInBounds_toArray, List.set_cons_zero, List.set_cons_succ]
  refine wpT_done (by kernel_rfl) ?_ _
  obtain ⟨x0, x1, x2, x3, x4, x5, x6, x7, HBF⟩ := hHeld
  have hbF := below_ext HBw.out HBF.out
  clear x0 x1 x2 x3 x4 x5 x6 x7
  go_wp2
  go_ret
  exact ⟨rfl, hbF⟩
/-- Verify of the reference. -/
theorem rver_any (P Q G : Int) (Y : Option Addr) (ys : List Int) (yn yc : Nat) (B : Option Addr) (rows : List Row) (bn bc : Nat) (A : Option Addr) (al : List Int) (na ca : Nat) (C : Int) (Z : Option Addr) (zs : List Int) (nz cz : Nat) (hyn : Hid (ys.length = yn)) (hbn : Hid (rows.length = bn)) (han : Hid (al.length = na)) (hzn : Hid (zs.length = nz)) (hna : na < 1000000) (hnz : nz < 1000000) (hQ : Q < 9223372036854775808) (s : ByteArray) (hs : s.size ≤ 1000) (r : Bool) (hr : Kp (verL P Q G C (bys s) ys rows al zs = r)) (w : World) (hY : Hid (Sl w Y ys)) (hB : Hid (Rw w B rows)) (hA : Hid (Sl w A al)) (hZ : Hid (Sl w Z zs)) :
    Calls Tryz.prog 72 #[gv P Q G, relV Y yn yc B bn bc, .string s, prvL A na ca C Z nz cz] w fun e' w' => e' = .returned (.bool r) ∧ Below w.heap.size w w' := by
  cases hc : chkL P Q G C ys rows al zs with
  | false =>
    obtain rfl : r = false := by rw [← hr.1, verL, hc]; rfl
    exact rver_f P Q G Y ys yn yc B rows bn bc A al na ca C Z zs nz cz hyn hbn han hzn hna hnz hQ s hs (Lib.hid hc) w hY hB hA hZ
  | true =>
    have hcc := hc
    simp only [chkL, Bool.and_eq_true] at hcc
    obtain ⟨hg, hcb⟩ := hcc
    obtain ⟨v1, v2, v3, v4, v5, v6, v7, v8⟩ := validR_parts hg
    obtain ⟨p1, p2, p3, p4⟩ := validG_P v1
    obtain ⟨okg, oky, okr⟩ := valid_ok hg hB.out
    have hb9 : bn ≤ 900 := by rw [← hbn.out]; omega
    have oka : okL al := by rw [← (checkB_parts hcb).2.2.2.2]; exact sim_ok17 p1 p2 (by omega)
    cases hlb : labB (bys s) with
    | false =>
      obtain rfl : r = false := by rw [← hr.1, verL, hlb, Bool.false_and, Bool.and_false]
      exact rver_l P Q G Y ys yn yc B rows bn bc A al na ca C Z zs nz cz hyn hbn han hzn hna hnz hQ s hs (Lib.hid hc) (Lib.hid hlb) w hY hB hA hZ
    | true =>
      obtain ⟨V, hV⟩ : ∃ V, chalV P Q G (bys s) ys rows al = V := ⟨_, rfl⟩
      obtain rfl : (C == V) = r := by
        rw [← hr.1, verL, hc, hlb, hV, Bool.true_and, Bool.true_and, Bool.eq_iff_iff]
        simp only [beq_iff_eq]
        exact eq_comm
      exact rver_o P Q G Y ys yn yc B rows bn bc A al na ca C Z zs nz cz hyn hbn han hzn hna hnz hQ s hs (Lib.hid hc) (Lib.hid hlb) hb9 (Lib.hid okg) (Lib.hid oky) (Lib.hid oka) (Lib.hid okr) (by omega) (by omega) V ⟨hV⟩ w hY hB hA hZ
end Go.Proofs.YtojedhnglobddaaGreatDoor
namespace Go.Proofs.YtojedhnglobddaaGreatDoor
open Go.RowKit SpM
set_option linter.unusedVariables false
set_option linter.unusedSimpArgs false
set_option maxRecDepth 100000
/-- the rows of an equality. -/
def eqRows (A1 B1 : Option Addr) (a b : Int) : List Row := [⟨A1, 1, 1, [a]⟩, ⟨B1, 1, 1, [b]⟩]
theorem sl_blk {w : World} {g : Nat} {cs : Array Value} {T : TypeId} {xs : List Int} (h : w.heap[g]? = some (.cells cs T)) (hc : ∀ k, k < xs.length → cs[k]? = some (.int .i64 (xs.getD k 0))) : Sl w (some ⟨g, 0, none⟩) xs :=
  fun k hk => ⟨g, 0, rfl, by rw [Nat.zero_add, cell_blk h]; exact hc k hk⟩
theorem rw_two {w : World} {g : Nat} {T : TypeId} {A1 B1 : Option Addr} {a b : Int} (h : w.heap[g]? = some (.cells #[.slice A1 1 1, .slice B1 1 1] T)) (ha : Sl w A1 [a]) (hb : Sl w B1 [b]) : Rw w (some ⟨g, 0, none⟩) (eqRows A1 B1 a b) := fun k hk => by
  match k, hk with
  | 0, _ => exact ⟨⟨g, 0, rfl, by rw [cell_blk h]; rfl⟩, rfl, ha⟩
  | 1, _ => exact ⟨⟨g, 0, rfl, by rw [cell_blk h]; rfl⟩, rfl, hb⟩
end Go.Proofs.YtojedhnglobddaaGreatDoor
namespace Go.Proofs.YtojedhnglobddaaGreatDoor
open Go.RowKit SpM
set_option linter.unusedVariables false
set_option linter.unusedSimpArgs false
set_option maxRecDepth 100000
/-- the blocks of an equality's relation that starts at block g. -/
def EqBlk (a ya b yb : Int) (g : Nat) (w : World) : Prop := w.heap[g + 1]? = some (.cells #[.int .i64 ya, .int .i64 yb] 3) ∧ w.heap[g + 1 + 1]? = some (.cells #[.int .i64 a] 3) ∧ w.heap[g + 1 + 1 + 1]? = some (.cells #[.int .i64 b] 3) ∧ w.heap[g + 1 + 1 + 1 + 1]? = some (.cells #[.slice (some ⟨g + 1 + 1, 0, none⟩) 1 1, .slice (some ⟨g + 1 + 1 + 1, 0, none⟩) 1 1] 24)
theorem EqBlk.set {a ya b yb : Int} {g : Nat} {w : World} (h : EqBlk a ya b yb g w) {k : Nat} (hk : k < g) (j : Nat) (v : Value) : EqBlk a ya b yb g (w.setCell ⟨k, j, none⟩ v) := by
  obtain ⟨h1, h2, h3, h4⟩ := h
  refine ⟨?_, ?_, ?_, ?_⟩
  · rw [Go.Deep.blk_setCell_other _ _ _ _ (show g + 1 ≠ k by omega)]; exact h1
  · rw [Go.Deep.blk_setCell_other _ _ _ _ (show g + 1 + 1 ≠ k by omega)]; exact h2
  · rw [Go.Deep.blk_setCell_other _ _ _ _ (show g + 1 + 1 + 1 ≠ k by omega)]; exact h3
  · rw [Go.Deep.blk_setCell_other _ _ _ _ (show g + 1 + 1 + 1 + 1 ≠ k by omega)]; exact h4
theorem EqBlk.sl {a ya b yb : Int} {g : Nat} {w : World} (h : EqBlk a ya b yb g w) : Sl w (some ⟨g + 1, 0, none⟩) [ya, yb] ∧ Rw w (some ⟨g + 1 + 1 + 1 + 1, 0, none⟩) (eqRows (some ⟨g + 1 + 1, 0, none⟩) (some ⟨g + 1 + 1 + 1, 0, none⟩) a b) := by
  obtain ⟨h1, h2, h3, h4⟩ := h
  exact ⟨sl_blk h1 (fun k hk => by match k, hk with | 0, _ => rfl | 1, _ => rfl), rw_two h4 (sl_blk h2 (fun k hk => by match k, hk with | 0, _ => rfl)) (sl_blk h3 (fun k hk => by match k, hk with | 0, _ => rfl))⟩
theorem below_set2' {B a : Nat} {w w1 : World} (h : Below B w w1) (hB : B ≤ a) (x y : Value) :
    Below B w ((w1.setCell ⟨a, 0, none⟩ x).setCell ⟨a, 1, none⟩ y) := (h.setCell hB _).setCell hB _
end Go.Proofs.YtojedhnglobddaaGreatDoor
namespace Go.Proofs.YtojedhnglobddaaGreatDoor
open Go
section
variable {P : Program} {ops : Array Oper} {Q : Exit → Act → World → Prop} {md : Region.Mode} {S : World → Prop} {E : List Nat}
theorem wpT_three {i1 i2 i3 : Nat} {o1 o2 o3 : Oper} {fuel : Nat} {listed : Array Bool} {a : Act} {w : World} (hr : Region.ready md ops listed = [i1, i2, i3]) (ho1 : ops[i1]? = some o1) (ho2 : ops[i2]? = some o2) (ho3 : ops[i3]? = some o3)
    (h1 : ∀ K' : Act → World → Prop, Shut (∀ a w, S w → (S w → wpT P md ops Q S E fuel (listed.setIfInBounds i1 true) a w) → K' a w) → if Region.wanted o1 (yielded ops a.tmps) = true then Oper.wp P o1 a w K' Q else K' (a.put o1.dst undef) w)
    (h2 : ∀ K' : Act → World → Prop, Shut (∀ a w, S w → (S w → wpT P md ops Q S E fuel (listed.setIfInBounds i2 true) a w) → K' a w) → if Region.wanted o2 (yielded ops a.tmps) = true then Oper.wp P o2 a w K' Q else K' (a.put o2.dst undef) w)
    (h3 : ∀ K' : Act → World → Prop, Shut (∀ a w, S w → (S w → wpT P md ops Q S E fuel (listed.setIfInBounds i3 true) a w) → K' a w) → if Region.wanted o3 (yielded ops a.tmps) = true then Oper.wp P o3 a w K' Q else K' (a.put o3.dst undef) w) :
    wpT P md ops Q S E (fuel + 1) listed a w :=
  ⟨fun h0 => absurd (hr ▸ h0) (by simp), fun j hj => by
    rw [hr] at hj
    rcases (by simpa using hj : j = i1 ∨ j = i2 ∨ j = i3) with rfl | rfl | rfl
    · exact wpOp_step ho1 (fun K' hK => h1 K' (fun a w hS hW => hK a w ⟨fun _ => hS, hW hS⟩))
    · exact wpOp_step ho2 (fun K' hK => h2 K' (fun a w hS hW => hK a w ⟨fun _ => hS, hW hS⟩))
    · exact wpOp_step ho3 (fun K' hK => h3 K' (fun a w hS hW => hK a w ⟨fun _ => hS, hW hS⟩))⟩
/-- The region's own state, named: lemmas over it can be said within a proof. -/
theorem wpT_frame {fuel : Nat} {listed : Array Bool} {a : Act} {w : World} (h : ∀ (T : Nat → Array Bool → Act → World → Prop) (a0 : Act), T = wpT P md ops Q S E → a0 = a → T fuel listed a0 w) : wpT P md ops Q S E fuel listed a w := h _ _ rfl rfl
end
end Go.Proofs.YtojedhnglobddaaGreatDoor
namespace Go.Proofs.YtojedhnglobddaaGreatDoor
open Go.RowKit SpM
set_option linter.unusedVariables false
set_option linter.unusedSimpArgs false
set_option maxRecDepth 20000
set_option maxHeartbeats 3200000 in
theorem rbvalid_any (P Q G A B H : Int) (r : Bool) (hr : Hid (validB P Q G A B H = r)) (hQ : Q < 9223372036854775808) (w : World) :
    Calls Tryz.prog 68 #[bv P Q G A B H] w fun e' w' => e' = .returned (.bool r) ∧ Below w.heap.size w w' := by
  have HX0 := Lib.hid ((bbox_alloc w P Q G A B H).below (below_box0 _ (gObj P Q G)))
  have HG0 : Hid (GBox ((w.alloc (bObj P Q G A B H)).alloc (gObj P Q G)) (w.heap.size + 1) P Q G) := Lib.hid (by
    have e : (w.alloc (bObj P Q G A B H)).heap.size = w.heap.size + 1 := by simp
    rw [← e]; exact gbox_alloc _ _ _ _)
  cases hval : validG P Q G with
  | false =>
    obtain rfl : r = false := by rw [← hr.out, validB, hval, Bool.false_and]
    have HVL : Hid (validG P Q G = false) := hval
    clear hr hval
    go_enter Tryz.func68, Tryz.ntmps68
    go_wp2_with fail
    refine (rvalid_any P Q G false HVL hQ _).mono ?_
    rintro e w1 ⟨rfl, hb0⟩
    have hb1 := below_ext (below_two (Below.refl _ _)) hb0
    clear hb0
    go_wp2
    go_ret
    exact ⟨rfl, hb1⟩
  | true =>
    have HVL : Hid (validG P Q G = true) := hval
    obtain ⟨hp2, hp, hq3, hqp⟩ := validG_P hval
    cases nA : A == 1 with
    | true =>
      obtain rfl : r = false := by rw [← hr.out, validB]; simp at nA; simp [okB, nA]
      have nA2 : (A != 1) = false := by simpa using nA
      clear hr hval
      go_enter Tryz.func68, Tryz.ntmps68
      go_wp2_with fail
      refine (rvalid_any P Q G true HVL hQ _).mono ?_
      rintro e w1 ⟨rfl, hb0⟩
      have hb1 := below_ext (below_two (Below.refl _ _)) hb0
      have HX1 := Lib.hid (HX0.out.below hb0)
      have HG1 := Lib.hid (HG0.out.below hb0)
      clear hb0
      obtain ⟨⟨c0, c1, c2⟩, c3, c4, c5⟩ := HX1.out
      obtain ⟨d0, d1, d2⟩ := HG1.out
      go_wp2
      go_ret
      exact ⟨rfl, hb1⟩
    | false =>
      have nA2 : (A != 1) = true := by simp at nA ⊢; exact nA
      cases nB : B == 1 with
      | true =>
        obtain rfl : r = false := by rw [← hr.out, validB]; simp at nB; simp [okB, nB]
        have nB2 : (B != 1) = false := by simpa using nB
        clear hr hval
        go_enter Tryz.func68, Tryz.ntmps68
        go_wp2_with fail
        refine (rvalid_any P Q G true HVL hQ _).mono ?_
        rintro e w1 ⟨rfl, hb0⟩
        have hb1 := below_ext (below_two (Below.refl _ _)) hb0
        have HX1 := Lib.hid (HX0.out.below hb0)
        have HG1 := Lib.hid (HG0.out.below hb0)
        clear hb0
        obtain ⟨⟨c0, c1, c2⟩, c3, c4, c5⟩ := HX1.out
        obtain ⟨d0, d1, d2⟩ := HG1.out
        go_wp2
        go_ret
        exact ⟨rfl, hb1⟩
      | false =>
        have nB2 : (B != 1) = true := by simp at nB ⊢; exact nB
        cases nH : H == 1 with
        | true =>
          obtain rfl : r = false := by rw [← hr.out, validB]; simp at nH; simp [okB, nH]
          have nH2 : (H != 1) = false := by simpa using nH
          clear hr hval
          go_enter Tryz.func68, Tryz.ntmps68
          go_wp2_with fail
          refine (rvalid_any P Q G true HVL hQ _).mono ?_
          rintro e w1 ⟨rfl, hb0⟩
          have hb1 := below_ext (below_two (Below.refl _ _)) hb0
          have HX1 := Lib.hid (HX0.out.below hb0)
          have HG1 := Lib.hid (HG0.out.below hb0)
          clear hb0
          obtain ⟨⟨c0, c1, c2⟩, c3, c4, c5⟩ := HX1.out
          obtain ⟨d0, d1, d2⟩ := HG1.out
          go_wp2
          go_ret
          exact ⟨rfl, hb1⟩
        | false =>
          have nH2 : (H != 1) = true := by simp at nH ⊢; exact nH
          cases mA : memG P Q A with
          | false =>
            obtain rfl : r = false := by rw [← hr.out, validB]; simp [okB, mA]
            have HmA : Hid (memG P Q A = false) := mA
            clear hr hval mA
            go_enter Tryz.func68, Tryz.ntmps68
            go_wp2_with fail
            refine (rvalid_any P Q G true HVL hQ _).mono ?_
            rintro e w1 ⟨rfl, hb0⟩
            have hb1 := below_ext (below_two (Below.refl _ _)) hb0
            have HX1 := Lib.hid (HX0.out.below hb0)
            have HG1 := Lib.hid (HG0.out.below hb0)
            clear hb0
            obtain ⟨⟨c0, c1, c2⟩, c3, c4, c5⟩ := HX1.out
            obtain ⟨d0, d1, d2⟩ := HG1.out
            go_wp2_with fail
            refine (rmember_any P Q G A false HmA hp (by omega) hQ _).mono ?_
            rintro e w2 ⟨rfl, hb0⟩
            have hb2 := below_ext hb1 hb0
            clear hb0
            go_wp2
            go_ret
            exact ⟨rfl, hb2⟩
          | true =>
            have HmA : Hid (memG P Q A = true) := mA
            cases mB : memG P Q B with
            | false =>
              obtain rfl : r = false := by rw [← hr.out, validB]; simp [okB, mB]
              have HmB : Hid (memG P Q B = false) := mB
              clear hr hval mA mB
              go_enter Tryz.func68, Tryz.ntmps68
              go_wp2_with fail
              refine (rvalid_any P Q G true HVL hQ _).mono ?_
              rintro e w1 ⟨rfl, hb0⟩
              have hb1 := below_ext (below_two (Below.refl _ _)) hb0
              have HX1 := Lib.hid (HX0.out.below hb0)
              have HG1 := Lib.hid (HG0.out.below hb0)
              clear hb0
              obtain ⟨⟨c0, c1, c2⟩, c3, c4, c5⟩ := HX1.out
              obtain ⟨d0, d1, d2⟩ := HG1.out
              go_wp2_with fail
              refine (rmember_any P Q G A true HmA hp (by omega) hQ _).mono ?_
              rintro e w2 ⟨rfl, hb0⟩
              have hb2 := below_ext hb1 hb0
              have HX2 := Lib.hid (HX1.out.below hb0)
              have HG2 := Lib.hid (HG1.out.below hb0)
              clear c0 c1 c2 c3 c4 c5 d0 d1 d2 hb0
              obtain ⟨⟨c0, c1, c2⟩, c3, c4, c5⟩ := HX2.out
              obtain ⟨d0, d1, d2⟩ := HG2.out
              go_wp2_with fail
              refine (rmember_any P Q G B false HmB hp (by omega) hQ _).mono ?_
              rintro e w3 ⟨rfl, hb0⟩
              have hb3 := below_ext hb2 hb0
              clear hb0
              go_wp2
              go_ret
              exact ⟨rfl, hb3⟩
            | true =>
              have HmB : Hid (memG P Q B = true) := mB
              cases mH : memG P Q H with
              | false =>
                obtain rfl : r = false := by rw [← hr.out, validB]; simp [okB, mH]
                have HmH : Hid (memG P Q H = false) := mH
                clear hr hval mA mB mH
                go_enter Tryz.func68, Tryz.ntmps68
                go_wp2_with fail
                refine (rvalid_any P Q G true HVL hQ _).mono ?_
                rintro e w1 ⟨rfl, hb0⟩
                have hb1 := below_ext (below_two (Below.refl _ _)) hb0
                have HX1 := Lib.hid (HX0.out.below hb0)
                have HG1 := Lib.hid (HG0.out.below hb0)
                clear hb0
                obtain ⟨⟨c0, c1, c2⟩, c3, c4, c5⟩ := HX1.out
                obtain ⟨d0, d1, d2⟩ := HG1.out
                go_wp2_with fail
                refine (rmember_any P Q G A true HmA hp (by omega) hQ _).mono ?_
                rintro e w2 ⟨rfl, hb0⟩
                have hb2 := below_ext hb1 hb0
                have HX2 := Lib.hid (HX1.out.below hb0)
                have HG2 := Lib.hid (HG1.out.below hb0)
                clear c0 c1 c2 c3 c4 c5 d0 d1 d2 hb0
                obtain ⟨⟨c0, c1, c2⟩, c3, c4, c5⟩ := HX2.out
                obtain ⟨d0, d1, d2⟩ := HG2.out
                go_wp2_with fail
                refine (rmember_any P Q G B true HmB hp (by omega) hQ _).mono ?_
                rintro e w3 ⟨rfl, hb0⟩
                have hb3 := below_ext hb2 hb0
                have HX3 := Lib.hid (HX2.out.below hb0)
                have HG3 := Lib.hid (HG2.out.below hb0)
                clear c0 c1 c2 c3 c4 c5 d0 d1 d2 hb0
                obtain ⟨⟨c0, c1, c2⟩, c3, c4, c5⟩ := HX3.out
                obtain ⟨d0, d1, d2⟩ := HG3.out
                go_wp2_with fail
                refine (rmember_any P Q G H false HmH hp (by omega) hQ _).mono ?_
                rintro e w4 ⟨rfl, hb0⟩
                have hb4 := below_ext hb3 hb0
                clear hb0
                go_wp2
                go_ret
                exact ⟨rfl, hb4⟩
              | true =>
                have HmH : Hid (memG P Q H = true) := mH
                obtain rfl : r = true := by rw [← hr.out, validB, hval]; simp at nA nB nH; simp [okB, nA, nB, nH, mA, mB, mH]
                clear hr hval mA mB mH
                go_enter Tryz.func68, Tryz.ntmps68
                go_wp2_with fail
                refine (rvalid_any P Q G true HVL hQ _).mono ?_
                rintro e w1 ⟨rfl, hb0⟩
                have hb1 := below_ext (below_two (Below.refl _ _)) hb0
                have HX1 := Lib.hid (HX0.out.below hb0)
                have HG1 := Lib.hid (HG0.out.below hb0)
                clear hb0
                obtain ⟨⟨c0, c1, c2⟩, c3, c4, c5⟩ := HX1.out
                obtain ⟨d0, d1, d2⟩ := HG1.out
                go_wp2_with fail
                refine (rmember_any P Q G A true HmA hp (by omega) hQ _).mono ?_
                rintro e w2 ⟨rfl, hb0⟩
                have hb2 := below_ext hb1 hb0
                have HX2 := Lib.hid (HX1.out.below hb0)
                have HG2 := Lib.hid (HG1.out.below hb0)
                clear c0 c1 c2 c3 c4 c5 d0 d1 d2 hb0
                obtain ⟨⟨c0, c1, c2⟩, c3, c4, c5⟩ := HX2.out
                obtain ⟨d0, d1, d2⟩ := HG2.out
                go_wp2_with fail
                refine (rmember_any P Q G B true HmB hp (by omega) hQ _).mono ?_
                rintro e w3 ⟨rfl, hb0⟩
                have hb3 := below_ext hb2 hb0
                have HX3 := Lib.hid (HX2.out.below hb0)
                have HG3 := Lib.hid (HG2.out.below hb0)
                clear c0 c1 c2 c3 c4 c5 d0 d1 d2 hb0
                obtain ⟨⟨c0, c1, c2⟩, c3, c4, c5⟩ := HX3.out
                obtain ⟨d0, d1, d2⟩ := HG3.out
                go_wp2_with fail
                refine (rmember_any P Q G H true HmH hp (by omega) hQ _).mono ?_
                rintro e w4 ⟨rfl, hb0⟩
                have hb4 := below_ext hb3 hb0
                clear hb0
                go_wp2
                go_ret
                exact ⟨rfl, hb4⟩
end Go.Proofs.YtojedhnglobddaaGreatDoor
