/- Contracts and lemmas: EqB, EqD, EqE, EqL, LpB, LpC. -/
import Derived.Deep.Heap
import Derived.Test.YtdlhodbiaoafiaaGreatDoorEs5
namespace Go.Proofs.YtdlhodbiaoafiaaGreatDoor
open Go.RowKit SpM
set_option linter.unusedVariables false
set_option linter.unusedSimpArgs false
set_option maxRecDepth 100000
theorem cells4 (w : World) (T : TypeId) (a b c d : Int) : Cells (w.alloc (.cells #[.int .i64 a, .int .i64 b, .int .i64 c, .int .i64 d] T)) w.heap.size [a, b, c, d] := by
  intro k hk
  rw [World.cell?_alloc_at _ _ _ _ rfl]
  match k, hk with
  | 0, _ => rfl
  | 1, _ => rfl
  | 2, _ => rfl
  | 3, _ => rfl
/-- which proofs of an equality are accepted, and verified. -/
def eqChk (P Q G a ya b yb C : Int) (al zs : List Int) : Bool := chkG P Q G [a, ya, b, yb] == 0 && chkL P Q G C [ya, yb] (eqRows none none a b) al zs
def eqVer (P Q G a ya b yb C : Int) (lb al zs : List Int) : Bool := chkG P Q G [a, ya, b, yb] == 0 && verL P Q G C lb [ya, yb] (eqRows none none a b) al zs
theorem chkL_addr {P Q G a b C : Int} {ys al zs : List Int} (A1 B1 : Option Addr) : chkL P Q G C ys (eqRows A1 B1 a b) al zs = chkL P Q G C ys (eqRows none none a b) al zs := rfl
theorem verL_addr {P Q G a b C : Int} {lb ys al zs : List Int} (A1 B1 : Option Addr) : verL P Q G C lb ys (eqRows A1 B1 a b) al zs = verL P Q G C lb ys (eqRows none none a b) al zs := rfl
set_option maxHeartbeats 12800000 in
theorem eqck_n (P Q G a ya b yb : Int) (A : Option Addr) (al : List Int) (na ca : Nat) (C : Int) (Z : Option Addr) (zs : List Int) (nz cz : Nat) (han : Hid (al.length = na)) (hzn : Hid (zs.length = nz)) (hna : na < 1000000) (hnz : nz < 1000000) (hQ : Q < 9223372036854775808) (r : Int) (HCK : Hid (chkG P Q G [a, ya, b, yb] = r)) (hne : (r == 0) = false) (w : World) (hv : Hid (Vars w)) (hA : Hid (Sl w A al)) (hZ : Hid (Sl w Z zs)) :
    Calls Tryz.prog 16 #[gv P Q G, .int .i64 a, .int .i64 ya, .int .i64 b, .int .i64 yb, prvL A na ca C Z nz cz] w fun e' w' => e' = .returned (.bool false) ∧ Below w.heap.size w w' := by
  have e0 : ((r : Int) == 0) = false := by simpa using hne
  obtain ⟨w0, hW⟩ : ∃ W, ((w.alloc (gObj P Q G)).alloc (prObjL A na ca C Z nz cz)) = W := ⟨_, rfl⟩
  have HBw : Hid (Below w.heap.size w w0) := Lib.hid (by rw [← hW]; exact below_two (Below.refl _ _))
  have hc : w0.cell? ⟨w.heap.size, 0, none⟩ = some (.int .i64 P) ∧ w0.cell? ⟨w.heap.size, 1, none⟩ = some (.int .i64 Q) ∧ w0.cell? ⟨w.heap.size, 2, none⟩ = some (.int .i64 G) ∧ w0.cell? ⟨w.heap.size + 1, 0, none⟩ = some (.slice A na ca) ∧ w0.cell? ⟨w.heap.size + 1, 1, none⟩ = some (.int .i64 C) ∧ w0.cell? ⟨w.heap.size + 1, 2, none⟩ = some (.slice Z nz cz) := by rw [← hW]; exact ⟨cell_below (allocs_cell (by simp) (by rfl)) (below_box0 _ _), cell_below (allocs_cell (by simp) (by rfl)) (below_box0 _ _), cell_below (allocs_cell (by simp) (by rfl)) (below_box0 _ _), allocs_cell (by simp) (by rfl), allocs_cell (by simp) (by rfl), allocs_cell (by simp) (by rfl)⟩
  have kC := Lib.hid (show ∀ u : World, Hid (Below w0.heap.size w0 u) → u.cell? ⟨w.heap.size, 0, none⟩ = some (.int .i64 P) ∧ u.cell? ⟨w.heap.size, 1, none⟩ = some (.int .i64 Q) ∧ u.cell? ⟨w.heap.size, 2, none⟩ = some (.int .i64 G) ∧ u.cell? ⟨w.heap.size + 1, 0, none⟩ = some (.slice A na ca) ∧ u.cell? ⟨w.heap.size + 1, 1, none⟩ = some (.int .i64 C) ∧ u.cell? ⟨w.heap.size + 1, 2, none⟩ = some (.slice Z nz cz) from fun u h => ⟨cell_below hc.1 h.out, cell_below hc.2.1 h.out, cell_below hc.2.2.1 h.out, cell_below hc.2.2.2.1 h.out, cell_below hc.2.2.2.2.1 h.out, cell_below hc.2.2.2.2.2 h.out⟩)
  have kV := Lib.hid (show ∀ u : World, Hid (Below w0.heap.size w0 u) → Hid (Vars u) from fun u h => Lib.hid ((hv.out.below) (below_ext HBw.out h.out)))
  have kA := Lib.hid (show ∀ u : World, Hid (Below w0.heap.size w0 u) → Hid (Sl u A al) from fun u h => Lib.hid ((hA.out.below) (below_ext HBw.out h.out)))
  have kZ := Lib.hid (show ∀ u : World, Hid (Below w0.heap.size w0 u) → Hid (Sl u Z zs) from fun u h => Lib.hid ((hZ.out.below) (below_ext HBw.out h.out)))
  have HB_0 : Hid (Below w0.heap.size w0 w0) := Lib.hid (Below.refl _ _)
  have HW := Lib.hid hW
  clear hW hc hv hA hZ
  go_enter Tryz.func16, Tryz.ntmps16
  go_wp2_with fail
  rw [HW.out]
  obtain ⟨zc0, zc1, zc2, zc3, zc4, zc5⟩ := kC.out _ HB_0
  clear zc0 zc1 zc2 zc3 zc4 zc5
  have hS := Lib.hid (show ∀ u1 u2 : World, Hid (Below w0.heap.size w0 u1) → Below u1.heap.size u1 u2 → (u2.cell? ⟨w.heap.size, 0, none⟩ = some (.int .i64 P) ∧ u2.cell? ⟨w.heap.size, 1, none⟩ = some (.int .i64 Q) ∧ u2.cell? ⟨w.heap.size, 2, none⟩ = some (.int .i64 G) ∧ u2.cell? ⟨w.heap.size + 1, 0, none⟩ = some (.slice A na ca) ∧ u2.cell? ⟨w.heap.size + 1, 1, none⟩ = some (.int .i64 C) ∧ u2.cell? ⟨w.heap.size + 1, 2, none⟩ = some (.slice Z nz cz) ∧ Hid (Below w0.heap.size w0 u2)) from fun u1 u2 h1 h2 => by
    have h3 := Lib.hid (below_ext h1.out h2)
    obtain ⟨y0, y1, y2, y3, y4, y5⟩ := kC.out _ h3
    exact ⟨y0, y1, y2, y3, y4, y5, h3⟩)
  refine wp_region_T (S := fun w' => w'.cell? ⟨w.heap.size, 0, none⟩ = some (.int .i64 P) ∧ w'.cell? ⟨w.heap.size, 1, none⟩ = some (.int .i64 Q) ∧ w'.cell? ⟨w.heap.size, 2, none⟩ = some (.int .i64 G) ∧ w'.cell? ⟨w.heap.size + 1, 0, none⟩ = some (.slice A na ca) ∧ w'.cell? ⟨w.heap.size + 1, 1, none⟩ = some (.int .i64 C) ∧ w'.cell? ⟨w.heap.size + 1, 2, none⟩ = some (.slice Z nz cz) ∧ Hid (Below w0.heap.size w0 w')) (E := []) (by kernel_rfl) (hS.out _ _ HB_0 ((Below.refl _ _).drew)) (fun hHeld => ?_)
  refine wpT_take (i := 0) (oi := _) (v := ?_) rfl (by kernel_rfl) (by kernel_rfl) (by kernel_rfl) (by kernel_rfl) (fun _ _ _ h => h) (Or.inl ⟨by rfl, ?_⟩) (by assumption) ?_
  rotate_left; (intro wS hSw; (try dsimp only at hSw); go_simp <;> with_reducible rfl)
  try simp only [List.getElem_toArray, List.getElem_cons_zero, List.getElem_cons_succ, Act.put, List.setIfInBounds_toArray, List.set_cons_zero, List.set_cons_succ]
  refine wpT_take (i := 1) (oi := _) (v := ?_) rfl (by kernel_rfl) (by kernel_rfl) (by kernel_rfl) (by kernel_rfl) (fun _ _ _ h => h) (Or.inl ⟨by rfl, ?_⟩) (by assumption) ?_
  rotate_left; (intro wS hSw; (try dsimp only at hSw); go_simp <;> with_reducible rfl)
  try simp only [List.getElem_toArray, List.getElem_cons_zero, List.getElem_cons_succ, Act.put, List.setIfInBounds_toArray, List.set_cons_zero, List.set_cons_succ]
  refine wpT_take (i := 2) (oi := _) (v := ?_) rfl (by kernel_rfl) (by kernel_rfl) (by kernel_rfl) (by kernel_rfl) (fun _ _ _ h => h) (Or.inl ⟨by rfl, ?_⟩) (by assumption) ?_
  rotate_left; (intro wS hSw; (try dsimp only at hSw); go_simp <;> with_reducible rfl)
  try simp only [List.getElem_toArray, List.getElem_cons_zero, List.getElem_cons_succ, Act.put, List.setIfInBounds_toArray, List.set_cons_zero, List.set_cons_succ]
  refine wpT_take (i := 3) (oi := _) (v := ?_) rfl (by kernel_rfl) (by kernel_rfl) (by kernel_rfl) (by kernel_rfl) (fun _ _ _ h => h) (Or.inl ⟨by rfl, ?_⟩) (by assumption) ?_
  rotate_left; (intro wS hSw; (try dsimp only at hSw); go_simp <;> with_reducible rfl)
  try simp only [List.getElem_toArray, List.getElem_cons_zero, List.getElem_cons_succ, Act.put, List.setIfInBounds_toArray, List.set_cons_zero, List.set_cons_succ]
  refine wpT_take (i := 4) (oi := _) (v := ?_) rfl (by kernel_rfl) (by kernel_rfl) (by kernel_rfl) (by kernel_rfl) (fun _ _ _ h => h) (Or.inl ⟨by rfl, ?_⟩) (by assumption) ?_
  rotate_left; (intro wS hSw; (try dsimp only at hSw); go_simp <;> with_reducible rfl)
  try simp only [List.getElem_toArray, List.getElem_cons_zero, List.getElem_cons_succ, Act.put, List.setIfInBounds_toArray, List.set_cons_zero, List.set_cons_succ]
  refine wpT_one (i := 5) (by kernel_rfl) rfl (fun K hK => ?_)
  go_simp
  refine hK.out _ _ ?_ (fun hHeld => ?_)
  · exact hS.out _ _ (hHeld.2.2.2.2.2.2) (below_box0 _ _)
  clear hK K
  try simp only [List.getElem_toArray, List.getElem_cons_zero, List.getElem_cons_succ, Act.put, List.setIfInBounds_toArray, List.set_cons_zero, List.set_cons_succ]
  refine wpT_one (i := 6) (by kernel_rfl) rfl (fun K hK => ?_)
  go_simp
  refine (eqcheck_any P Q G w0.heap.size [a, ya, b, yb] 4 4 (Lib.hid rfl) (by omega) r HCK hQ _ (kV.out _ (hHeld.2.2.2.2.2.2)) (Lib.hid (cells4 w0.drew _ a ya b yb))).mono ?_
  rintro e wA ⟨rfl, hbA⟩
  refine hK.out _ _ ?_ (fun hHeld => ?_)
  · exact hS.out _ _ (hHeld.2.2.2.2.2.2) hbA
  clear hK K
  try simp only [List.getElem_toArray, List.getElem_cons_zero, List.getElem_cons_succ, Act.put, List.setIfInBounds_toArray, List.set_cons_zero, List.set_cons_succ]
  refine wpT_take (i := 7) (oi := _) (v := ?_) rfl (by kernel_rfl) (by kernel_rfl) (by kernel_rfl) (by kernel_rfl) (fun _ _ _ h => h) (Or.inl ⟨by rfl, ?_⟩) (by assumption) ?_
  rotate_left; (intro wS hSw; (try dsimp only at hSw); go_simp <;> with_reducible rfl)
  try simp only [List.getElem_toArray, List.getElem_cons_zero, List.getElem_cons_succ, Act.put, List.setIfInBounds_toArray, List.set_cons_zero, List.set_cons_succ]
  refine wpT_take (i := 8) (oi := _) (v := ?_) rfl (by kernel_rfl) (by kernel_rfl) (by kernel_rfl) (by kernel_rfl) (fun _ _ _ h => h) (Or.inl ⟨by rfl, ?_⟩) (by assumption) ?_
  rotate_left; (intro wS hSw; (try dsimp only at hSw); go_simp <;> with_reducible rfl)
  try simp only [List.getElem_toArray, List.getElem_cons_zero, List.getElem_cons_succ, Act.put, List.setIfInBounds_toArray, List.set_cons_zero, List.set_cons_succ]
  refine wpT_take (i := 9) (oi := _) (v := undef) rfl (by kernel_rfl) (by kernel_rfl) (by kernel_rfl) (by kernel_rfl) (fun _ _ _ h => h) (Or.inr ⟨by rfl, rfl⟩) (by assumption) ?_
  try simp only [List.getElem_toArray, List.getElem_cons_zero, List.getElem_cons_succ, Act.put, List.setIfInBounds_toArray, List.set_cons_zero, List.set_cons_succ]
  refine wpT_take (i := 10) (oi := _) (v := undef) rfl (by kernel_rfl) (by kernel_rfl) (by kernel_rfl) (by kernel_rfl) (fun _ _ _ h => h) (Or.inr ⟨by rfl, rfl⟩) (by assumption) ?_
  try simp only [List.getElem_toArray, List.getElem_cons_zero, List.getElem_cons_succ, Act.put, List.setIfInBounds_toArray, List.set_cons_zero, List.set_cons_succ]
  refine wpT_take (i := 11) (oi := _) (v := undef) rfl (by kernel_rfl) (by kernel_rfl) (by kernel_rfl) (by kernel_rfl) (fun _ _ _ h => h) (Or.inr ⟨by rfl, rfl⟩) (by assumption) ?_
  try simp only [List.getElem_toArray, List.getElem_cons_zero, List.getElem_cons_succ, Act.put, List.setIfInBounds_toArray, List.set_cons_zero, List.set_cons_succ]
  refine wpT_take (i := 12) (oi := _) (v := undef) rfl (by kernel_rfl) (by kernel_rfl) (by kernel_rfl) (by kernel_rfl) (fun _ _ _ h => h) (Or.inr ⟨by rfl, rfl⟩) (by assumption) ?_
  try simp only [List.getElem_toArray, List.getElem_cons_zero, List.getElem_cons_succ, Act.put, List.setIfInBounds_toArray, List.set_cons_zero, List.set_cons_succ]
  refine wpT_take (i := 13) (oi := _) (v := undef) rfl (by kernel_rfl) (by kernel_rfl) (by kernel_rfl) (by kernel_rfl) (fun _ _ _ h => h) (Or.inr ⟨by rfl, rfl⟩) (by assumption) ?_
  try simp only [List.getElem_toArray, List.getElem_cons_zero, List.getElem_cons_succ, Act.put, List.setIfInBounds_toArray, List.set_cons_zero, List.set_cons_succ]
  refine wpT_take (i := 14) (oi := _) (v := undef) rfl (by kernel_rfl) (by kernel_rfl) (by kernel_rfl) (by kernel_rfl) (fun _ _ _ h => h) (Or.inr ⟨by rfl, rfl⟩) (by assumption) ?_
  try simp only [List.getElem_toArray, List.getElem_cons_zero, List.getElem_cons_succ, Act.put, List.setIfInBounds_toArray, List.set_cons_zero, List.set_cons_succ]
  refine wpT_take (i := 15) (oi := _) (v := undef) rfl (by kernel_rfl) (by kernel_rfl) (by kernel_rfl) (by kernel_rfl) (fun _ _ _ h => h) (Or.inr ⟨by rfl, rfl⟩) (by assumption) ?_
  try simp only [List.getElem_toArray, List.getElem_cons_zero, List.getElem_cons_succ, Act.put, List.setIfInBounds_toArray, List.set_cons_zero, List.set_cons_succ]
  refine wpT_take (i := 16) (oi := _) (v := undef) rfl (by kernel_rfl) (by kernel_rfl) (by kernel_rfl) (by kernel_rfl) (fun _ _ _ h => h) (Or.inr ⟨by rfl, rfl⟩) (by assumption) ?_
  try simp only [List.getElem_toArray, List.getElem_cons_zero, List.getElem_cons_succ, Act.put, List.setIfInBounds_toArray, List.set_cons_zero, List.set_cons_succ]
  refine wpT_take (i := 17) (oi := _) (v := ?_) rfl (by kernel_rfl) (by kernel_rfl) (by kernel_rfl) (by kernel_rfl) (fun _ _ _ h => h) (Or.inl ⟨by rfl, ?_⟩) (by assumption) ?_
  rotate_left; (intro wS hSw; (try dsimp only at hSw); go_simp <;> with_reducible rfl)
  try simp only [List.getElem_toArray, List.getElem_cons_zero, List.getElem_cons_succ, Act.put, List.setIfInBounds_toArray, List.set_cons_zero, List.set_cons_succ]
  refine wpT_take (i := 18) (oi := _) (v := ?_) rfl (by kernel_rfl) (by kernel_rfl) (by kernel_rfl) (by kernel_rfl) (fun _ _ _ h => h) (Or.inl ⟨by rfl, ?_⟩) (by assumption) ?_
  rotate_left; (intro wS hSw; (try dsimp only at hSw); go_simp <;> with_reducible rfl)
  try simp only [List.getElem_toArray, List.getElem_cons_zero, List.getElem_cons_succ, Act.put, List.setIfInBounds_toArray, List.set_cons_zero, List.set_cons_succ]
  refine wpT_done (by kernel_rfl) ?_ _
  obtain ⟨x0, x1, x2, x3, x4, x5, HBF⟩ := hHeld
  have hbF := below_ext HBw.out HBF.out
  clear x0 x1 x2 x3 x4 x5
  go_wp2
  go_ret
  exact ⟨rfl, hbF⟩
set_option maxHeartbeats 12800000 in
theorem eqck_y (P Q G a ya b yb : Int) (A : Option Addr) (al : List Int) (na ca : Nat) (C : Int) (Z : Option Addr) (zs : List Int) (nz cz : Nat) (han : Hid (al.length = na)) (hzn : Hid (zs.length = nz)) (hna : na < 1000000) (hnz : nz < 1000000) (hQ : Q < 9223372036854775808) (HCK : Hid (chkG P Q G [a, ya, b, yb] = 0)) (r : Bool) (HCL : Hid (chkL P Q G C [ya, yb] (eqRows none none a b) al zs = r)) (w : World) (hv : Hid (Vars w)) (hA : Hid (Sl w A al)) (hZ : Hid (Sl w Z zs)) :
    Calls Tryz.prog 16 #[gv P Q G, .int .i64 a, .int .i64 ya, .int .i64 b, .int .i64 yb, prvL A na ca C Z nz cz] w fun e' w' => e' = .returned (.bool r) ∧ Below w.heap.size w w' := by
  obtain ⟨w0, hW⟩ : ∃ W, ((w.alloc (gObj P Q G)).alloc (prObjL A na ca C Z nz cz)) = W := ⟨_, rfl⟩
  have HBw : Hid (Below w.heap.size w w0) := Lib.hid (by rw [← hW]; exact below_two (Below.refl _ _))
  have hc : w0.cell? ⟨w.heap.size, 0, none⟩ = some (.int .i64 P) ∧ w0.cell? ⟨w.heap.size, 1, none⟩ = some (.int .i64 Q) ∧ w0.cell? ⟨w.heap.size, 2, none⟩ = some (.int .i64 G) ∧ w0.cell? ⟨w.heap.size + 1, 0, none⟩ = some (.slice A na ca) ∧ w0.cell? ⟨w.heap.size + 1, 1, none⟩ = some (.int .i64 C) ∧ w0.cell? ⟨w.heap.size + 1, 2, none⟩ = some (.slice Z nz cz) := by rw [← hW]; exact ⟨cell_below (allocs_cell (by simp) (by rfl)) (below_box0 _ _), cell_below (allocs_cell (by simp) (by rfl)) (below_box0 _ _), cell_below (allocs_cell (by simp) (by rfl)) (below_box0 _ _), allocs_cell (by simp) (by rfl), allocs_cell (by simp) (by rfl), allocs_cell (by simp) (by rfl)⟩
  have kC := Lib.hid (show ∀ u : World, Hid (Below w0.heap.size w0 u) → u.cell? ⟨w.heap.size, 0, none⟩ = some (.int .i64 P) ∧ u.cell? ⟨w.heap.size, 1, none⟩ = some (.int .i64 Q) ∧ u.cell? ⟨w.heap.size, 2, none⟩ = some (.int .i64 G) ∧ u.cell? ⟨w.heap.size + 1, 0, none⟩ = some (.slice A na ca) ∧ u.cell? ⟨w.heap.size + 1, 1, none⟩ = some (.int .i64 C) ∧ u.cell? ⟨w.heap.size + 1, 2, none⟩ = some (.slice Z nz cz) from fun u h => ⟨cell_below hc.1 h.out, cell_below hc.2.1 h.out, cell_below hc.2.2.1 h.out, cell_below hc.2.2.2.1 h.out, cell_below hc.2.2.2.2.1 h.out, cell_below hc.2.2.2.2.2 h.out⟩)
  have kV := Lib.hid (show ∀ u : World, Hid (Below w0.heap.size w0 u) → Hid (Vars u) from fun u h => Lib.hid ((hv.out.below) (below_ext HBw.out h.out)))
  have kA := Lib.hid (show ∀ u : World, Hid (Below w0.heap.size w0 u) → Hid (Sl u A al) from fun u h => Lib.hid ((hA.out.below) (below_ext HBw.out h.out)))
  have kZ := Lib.hid (show ∀ u : World, Hid (Below w0.heap.size w0 u) → Hid (Sl u Z zs) from fun u h => Lib.hid ((hZ.out.below) (below_ext HBw.out h.out)))
  have HB_0 : Hid (Below w0.heap.size w0 w0) := Lib.hid (Below.refl _ _)
  have HW := Lib.hid hW
  clear hW hc hv hA hZ
  go_enter Tryz.func16, Tryz.ntmps16
  go_wp2_with fail
  rw [HW.out]
  obtain ⟨zc0, zc1, zc2, zc3, zc4, zc5⟩ := kC.out _ HB_0
  clear zc0 zc1 zc2 zc3 zc4 zc5
  have hS := Lib.hid (show ∀ u1 u2 : World, Hid (Below w0.heap.size w0 u1) → Below u1.heap.size u1 u2 → (u2.cell? ⟨w.heap.size, 0, none⟩ = some (.int .i64 P) ∧ u2.cell? ⟨w.heap.size, 1, none⟩ = some (.int .i64 Q) ∧ u2.cell? ⟨w.heap.size, 2, none⟩ = some (.int .i64 G) ∧ u2.cell? ⟨w.heap.size + 1, 0, none⟩ = some (.slice A na ca) ∧ u2.cell? ⟨w.heap.size + 1, 1, none⟩ = some (.int .i64 C) ∧ u2.cell? ⟨w.heap.size + 1, 2, none⟩ = some (.slice Z nz cz) ∧ Hid (Below w0.heap.size w0 u2)) from fun u1 u2 h1 h2 => by
    have h3 := Lib.hid (below_ext h1.out h2)
    obtain ⟨y0, y1, y2, y3, y4, y5⟩ := kC.out _ h3
    exact ⟨y0, y1, y2, y3, y4, y5, h3⟩)
  refine wp_region_T (S := fun w' => w'.cell? ⟨w.heap.size, 0, none⟩ = some (.int .i64 P) ∧ w'.cell? ⟨w.heap.size, 1, none⟩ = some (.int .i64 Q) ∧ w'.cell? ⟨w.heap.size, 2, none⟩ = some (.int .i64 G) ∧ w'.cell? ⟨w.heap.size + 1, 0, none⟩ = some (.slice A na ca) ∧ w'.cell? ⟨w.heap.size + 1, 1, none⟩ = some (.int .i64 C) ∧ w'.cell? ⟨w.heap.size + 1, 2, none⟩ = some (.slice Z nz cz) ∧ Hid (Below w0.heap.size w0 w')) (E := []) (by kernel_rfl) (hS.out _ _ HB_0 ((Below.refl _ _).drew)) (fun hHeld => ?_)
  refine wpT_take (i := 0) (oi := _) (v := ?_) rfl (by kernel_rfl) (by kernel_rfl) (by kernel_rfl) (by kernel_rfl) (fun _ _ _ h => h) (Or.inl ⟨by rfl, ?_⟩) (by assumption) ?_
  rotate_left; (intro wS hSw; (try dsimp only at hSw); go_simp <;> with_reducible rfl)
  try simp only [List.getElem_toArray, List.getElem_cons_zero, List.getElem_cons_succ, Act.put, List.setIfInBounds_toArray, List.set_cons_zero, List.set_cons_succ]
  refine wpT_take (i := 1) (oi := _) (v := ?_) rfl (by kernel_rfl) (by kernel_rfl) (by kernel_rfl) (by kernel_rfl) (fun _ _ _ h => h) (Or.inl ⟨by rfl, ?_⟩) (by assumption) ?_
  rotate_left; (intro wS hSw; (try dsimp only at hSw); go_simp <;> with_reducible rfl)
  try simp only [List.getElem_toArray, List.getElem_cons_zero, List.getElem_cons_succ, Act.put, List.setIfInBounds_toArray, List.set_cons_zero, List.set_cons_succ]
  refine wpT_take (i := 2) (oi := _) (v := ?_) rfl (by kernel_rfl) (by kernel_rfl) (by kernel_rfl) (by kernel_rfl) (fun _ _ _ h => h) (Or.inl ⟨by rfl, ?_⟩) (by assumption) ?_
  rotate_left; (intro wS hSw; (try dsimp only at hSw); go_simp <;> with_reducible rfl)
  try simp only [List.getElem_toArray, List.getElem_cons_zero, List.getElem_cons_succ, Act.put, List.setIfInBounds_toArray, List.set_cons_zero, List.set_cons_succ]
  refine wpT_take (i := 3) (oi := _) (v := ?_) rfl (by kernel_rfl) (by kernel_rfl) (by kernel_rfl) (by kernel_rfl) (fun _ _ _ h => h) (Or.inl ⟨by rfl, ?_⟩) (by assumption) ?_
  rotate_left; (intro wS hSw; (try dsimp only at hSw); go_simp <;> with_reducible rfl)
  try simp only [List.getElem_toArray, List.getElem_cons_zero, List.getElem_cons_succ, Act.put, List.setIfInBounds_toArray, List.set_cons_zero, List.set_cons_succ]
  refine wpT_take (i := 4) (oi := _) (v := ?_) rfl (by kernel_rfl) (by kernel_rfl) (by kernel_rfl) (by kernel_rfl) (fun _ _ _ h => h) (Or.inl ⟨by rfl, ?_⟩) (by assumption) ?_
  rotate_left; (intro wS hSw; (try dsimp only at hSw); go_simp <;> with_reducible rfl)
  try simp only [List.getElem_toArray, List.getElem_cons_zero, List.getElem_cons_succ, Act.put, List.setIfInBounds_toArray, List.set_cons_zero, List.set_cons_succ]
  refine wpT_one (i := 5) (by kernel_rfl) rfl (fun K hK => ?_)
  go_simp
  refine hK.out _ _ ?_ (fun hHeld => ?_)
  · exact hS.out _ _ (hHeld.2.2.2.2.2.2) (below_box0 _ _)
  clear hK K
  try simp only [List.getElem_toArray, List.getElem_cons_zero, List.getElem_cons_succ, Act.put, List.setIfInBounds_toArray, List.set_cons_zero, List.set_cons_succ]
  refine wpT_one (i := 6) (by kernel_rfl) rfl (fun K hK => ?_)
  go_simp
  refine (eqcheck_any P Q G w0.heap.size [a, ya, b, yb] 4 4 (Lib.hid rfl) (by omega) 0 HCK hQ _ (kV.out _ (hHeld.2.2.2.2.2.2)) (Lib.hid (cells4 w0.drew _ a ya b yb))).mono ?_
  rintro e wA ⟨rfl, hbA⟩
  refine hK.out _ _ ?_ (fun hHeld => ?_)
  · exact hS.out _ _ (hHeld.2.2.2.2.2.2) hbA
  clear hK K
  try simp only [List.getElem_toArray, List.getElem_cons_zero, List.getElem_cons_succ, Act.put, List.setIfInBounds_toArray, List.set_cons_zero, List.set_cons_succ]
  refine wpT_take (i := 7) (oi := _) (v := ?_) rfl (by kernel_rfl) (by kernel_rfl) (by kernel_rfl) (by kernel_rfl) (fun _ _ _ h => h) (Or.inl ⟨by rfl, ?_⟩) (by assumption) ?_
  rotate_left; (intro wS hSw; (try dsimp only at hSw); go_simp <;> with_reducible rfl)
  try simp only [List.getElem_toArray, List.getElem_cons_zero, List.getElem_cons_succ, Act.put, List.setIfInBounds_toArray, List.set_cons_zero, List.set_cons_succ]
  refine wpT_take (i := 8) (oi := _) (v := ?_) rfl (by kernel_rfl) (by kernel_rfl) (by kernel_rfl) (by kernel_rfl) (fun _ _ _ h => h) (Or.inl ⟨by rfl, ?_⟩) (by assumption) ?_
  rotate_left; (intro wS hSw; (try dsimp only at hSw); go_simp <;> with_reducible rfl)
  try simp only [List.getElem_toArray, List.getElem_cons_zero, List.getElem_cons_succ, Act.put, List.setIfInBounds_toArray, List.set_cons_zero, List.set_cons_succ]
  refine wpT_take (i := 9) (oi := _) (v := ?_) rfl (by kernel_rfl) (by kernel_rfl) (by kernel_rfl) (by kernel_rfl) (fun _ _ _ h => h) (Or.inl ⟨by rfl, ?_⟩) (by assumption) ?_
  rotate_left; (intro wS hSw; (try dsimp only at hSw); go_simp <;> with_reducible rfl)
  try simp only [List.getElem_toArray, List.getElem_cons_zero, List.getElem_cons_succ, Act.put, List.setIfInBounds_toArray, List.set_cons_zero, List.set_cons_succ]
  refine wpT_take (i := 10) (oi := _) (v := ?_) rfl (by kernel_rfl) (by kernel_rfl) (by kernel_rfl) (by kernel_rfl) (fun _ _ _ h => h) (Or.inl ⟨by rfl, ?_⟩) (by assumption) ?_
  rotate_left; (intro wS hSw; (try dsimp only at hSw); go_simp <;> with_reducible rfl)
  try simp only [List.getElem_toArray, List.getElem_cons_zero, List.getElem_cons_succ, Act.put, List.setIfInBounds_toArray, List.set_cons_zero, List.set_cons_succ]
  refine wpT_take (i := 11) (oi := _) (v := ?_) rfl (by kernel_rfl) (by kernel_rfl) (by kernel_rfl) (by kernel_rfl) (fun _ _ _ h => h) (Or.inl ⟨by rfl, ?_⟩) (by assumption) ?_
  rotate_left; (intro wS hSw; (try dsimp only at hSw); go_simp <;> with_reducible rfl)
  try simp only [List.getElem_toArray, List.getElem_cons_zero, List.getElem_cons_succ, Act.put, List.setIfInBounds_toArray, List.set_cons_zero, List.set_cons_succ]
  refine wpT_take (i := 12) (oi := _) (v := ?_) rfl (by kernel_rfl) (by kernel_rfl) (by kernel_rfl) (by kernel_rfl) (fun _ _ _ h => h) (Or.inl ⟨by rfl, ?_⟩) (by assumption) ?_
  rotate_left; (intro wS hSw; (try dsimp only at hSw); go_simp <;> with_reducible rfl)
  try simp only [List.getElem_toArray, List.getElem_cons_zero, List.getElem_cons_succ, Act.put, List.setIfInBounds_toArray, List.set_cons_zero, List.set_cons_succ]
  refine wpT_take (i := 13) (oi := _) (v := ?_) rfl (by kernel_rfl) (by kernel_rfl) (by kernel_rfl) (by kernel_rfl) (fun _ _ _ h => h) (Or.inl ⟨by rfl, ?_⟩) (by assumption) ?_
  rotate_left; (intro wS hSw; (try dsimp only at hSw); go_simp <;> with_reducible rfl)
  try simp only [List.getElem_toArray, List.getElem_cons_zero, List.getElem_cons_succ, Act.put, List.setIfInBounds_toArray, List.set_cons_zero, List.set_cons_succ]
  refine wpT_take (i := 15) (oi := _) (v := ?_) rfl (by kernel_rfl) (by kernel_rfl) (by kernel_rfl) (by kernel_rfl) (fun _ _ _ h => h) (Or.inl ⟨by rfl, ?_⟩) (by assumption) ?_
  rotate_left; (intro wS hSw; (try dsimp only at hSw); go_simp <;> with_reducible rfl)
  try simp only [List.getElem_toArray, List.getElem_cons_zero, List.getElem_cons_succ, Act.put, List.setIfInBounds_toArray, List.set_cons_zero, List.set_cons_succ]
  refine wpT_one (i := 14) (by kernel_rfl) rfl (fun K hK => ?_)
  go_simp
  refine (erelation_any a ya b yb _).mono ?_
  intro e wB hR
  obtain ⟨Y, B, A1, B1, rfl, hY, hB, hbA⟩ := hR
  refine hK.out _ _ ?_ (fun hHeld => ?_)
  · exact hS.out _ _ (hHeld.2.2.2.2.2.2) hbA
  clear hK K
  try simp only [List.getElem_toArray, List.getElem_cons_zero, List.getElem_cons_succ, Act.put, List.setIfInBounds_toArray, List.set_cons_zero, List.set_cons_succ]
  refine wpT_one (i := 16) (by kernel_rfl) rfl (fun K hK => ?_)
  go_simp
  refine (lcheck_w P Q G Y [ya, yb] 2 2 B (eqRows A1 B1 a b) 2 2 A al na ca C Z zs nz cz (Lib.hid rfl) (Lib.hid rfl) han hzn hna hnz hQ r (Lib.hid ((chkL_addr A1 B1).trans HCL.out)) _ (kV.out _ (hHeld.2.2.2.2.2.2)) (Lib.hid hY) (Lib.hid hB) (kA.out _ (hHeld.2.2.2.2.2.2)) (kZ.out _ (hHeld.2.2.2.2.2.2))).mono ?_
  rintro e wC ⟨rfl, hbA⟩
  refine hK.out _ _ ?_ (fun hHeld => ?_)
  · exact hS.out _ _ (hHeld.2.2.2.2.2.2) hbA
  clear hK K
  try simp only [List.getElem_toArray, List.getElem_cons_zero, List.getElem_cons_succ, Act.put, List.setIfInBounds_toArray, List.set_cons_zero, List.set_cons_succ]
  refine wpT_take (i := 17) (oi := _) (v := ?_) rfl (by kernel_rfl) (by kernel_rfl) (by kernel_rfl) (by kernel_rfl) (fun _ _ _ h => h) (Or.inl ⟨by rfl, ?_⟩) (by assumption) ?_
  rotate_left; (intro wS hSw; (try dsimp only at hSw); go_simp <;> with_reducible rfl)
  try simp only [List.getElem_toArray, List.getElem_cons_zero, List.getElem_cons_succ, Act.put, List.setIfInBounds_toArray, List.set_cons_zero, List.set_cons_succ]
  refine wpT_take (i := 18) (oi := _) (v := ?_) rfl (by kernel_rfl) (by kernel_rfl) (by kernel_rfl) (by kernel_rfl) (fun _ _ _ h => h) (Or.inl ⟨by rfl, ?_⟩) (by assumption) ?_
  rotate_left; (intro wS hSw; (try dsimp only at hSw); go_simp <;> with_reducible rfl)
  try simp only [List.getElem_toArray, List.getElem_cons_zero, List.getElem_cons_succ, Act.put, List.setIfInBounds_toArray, List.set_cons_zero, List.set_cons_succ]
  refine wpT_done (by kernel_rfl) ?_ _
  obtain ⟨x0, x1, x2, x3, x4, x5, HBF⟩ := hHeld
  have hbF := below_ext HBw.out HBF.out
  clear x0 x1 x2 x3 x4 x5
  go_wp2
  go_ret
  exact ⟨rfl, hbF⟩
set_option maxHeartbeats 12800000 in
theorem eqvr_n (P Q G a ya b yb : Int) (A : Option Addr) (al : List Int) (na ca : Nat) (C : Int) (Z : Option Addr) (zs : List Int) (nz cz : Nat) (han : Hid (al.length = na)) (hzn : Hid (zs.length = nz)) (hna : na < 1000000) (hnz : nz < 1000000) (hQ : Q < 9223372036854775808) (s : ByteArray) (r : Int) (HCK : Hid (chkG P Q G [a, ya, b, yb] = r)) (hne : (r == 0) = false) (w : World) (hv : Hid (Vars w)) (hd : Hid (VarsD w)) (hA : Hid (Sl w A al)) (hZ : Hid (Sl w Z zs)) :
    Calls Tryz.prog 19 #[gv P Q G, .int .i64 a, .int .i64 ya, .int .i64 b, .int .i64 yb, .string s, prvL A na ca C Z nz cz] w fun e' w' => e' = .returned (.bool false) ∧ Below w.heap.size w w' := by
  have e0 : ((r : Int) == 0) = false := by simpa using hne
  obtain ⟨w0, hW⟩ : ∃ W, ((w.alloc (gObj P Q G)).alloc (prObjL A na ca C Z nz cz)) = W := ⟨_, rfl⟩
  have HBw : Hid (Below w.heap.size w w0) := Lib.hid (by rw [← hW]; exact below_two (Below.refl _ _))
  have hc : w0.cell? ⟨w.heap.size, 0, none⟩ = some (.int .i64 P) ∧ w0.cell? ⟨w.heap.size, 1, none⟩ = some (.int .i64 Q) ∧ w0.cell? ⟨w.heap.size, 2, none⟩ = some (.int .i64 G) ∧ w0.cell? ⟨w.heap.size + 1, 0, none⟩ = some (.slice A na ca) ∧ w0.cell? ⟨w.heap.size + 1, 1, none⟩ = some (.int .i64 C) ∧ w0.cell? ⟨w.heap.size + 1, 2, none⟩ = some (.slice Z nz cz) := by rw [← hW]; exact ⟨cell_below (allocs_cell (by simp) (by rfl)) (below_box0 _ _), cell_below (allocs_cell (by simp) (by rfl)) (below_box0 _ _), cell_below (allocs_cell (by simp) (by rfl)) (below_box0 _ _), allocs_cell (by simp) (by rfl), allocs_cell (by simp) (by rfl), allocs_cell (by simp) (by rfl)⟩
  have kC := Lib.hid (show ∀ u : World, Hid (Below w0.heap.size w0 u) → u.cell? ⟨w.heap.size, 0, none⟩ = some (.int .i64 P) ∧ u.cell? ⟨w.heap.size, 1, none⟩ = some (.int .i64 Q) ∧ u.cell? ⟨w.heap.size, 2, none⟩ = some (.int .i64 G) ∧ u.cell? ⟨w.heap.size + 1, 0, none⟩ = some (.slice A na ca) ∧ u.cell? ⟨w.heap.size + 1, 1, none⟩ = some (.int .i64 C) ∧ u.cell? ⟨w.heap.size + 1, 2, none⟩ = some (.slice Z nz cz) from fun u h => ⟨cell_below hc.1 h.out, cell_below hc.2.1 h.out, cell_below hc.2.2.1 h.out, cell_below hc.2.2.2.1 h.out, cell_below hc.2.2.2.2.1 h.out, cell_below hc.2.2.2.2.2 h.out⟩)
  have kV := Lib.hid (show ∀ u : World, Hid (Below w0.heap.size w0 u) → Hid (Vars u) from fun u h => Lib.hid ((hv.out.below) (below_ext HBw.out h.out)))
  have kA := Lib.hid (show ∀ u : World, Hid (Below w0.heap.size w0 u) → Hid (Sl u A al) from fun u h => Lib.hid ((hA.out.below) (below_ext HBw.out h.out)))
  have kZ := Lib.hid (show ∀ u : World, Hid (Below w0.heap.size w0 u) → Hid (Sl u Z zs) from fun u h => Lib.hid ((hZ.out.below) (below_ext HBw.out h.out)))
  have kD := Lib.hid (show ∀ u : World, Hid (Below w0.heap.size w0 u) → Hid (VarsD u) from fun u h => Lib.hid ((hd.out.below) (below_ext HBw.out h.out)))
  have HB_0 : Hid (Below w0.heap.size w0 w0) := Lib.hid (Below.refl _ _)
  have HW := Lib.hid hW
  clear hW hc hv hd hA hZ
  go_enter Tryz.func19, Tryz.ntmps19
  go_wp2_with fail
  rw [HW.out]
  obtain ⟨zc0, zc1, zc2, zc3, zc4, zc5⟩ := kC.out _ HB_0
  clear zc0 zc1 zc2 zc3 zc4 zc5
  have hS := Lib.hid (show ∀ u1 u2 : World, Hid (Below w0.heap.size w0 u1) → Below u1.heap.size u1 u2 → (u2.cell? ⟨w.heap.size, 0, none⟩ = some (.int .i64 P) ∧ u2.cell? ⟨w.heap.size, 1, none⟩ = some (.int .i64 Q) ∧ u2.cell? ⟨w.heap.size, 2, none⟩ = some (.int .i64 G) ∧ u2.cell? ⟨w.heap.size + 1, 0, none⟩ = some (.slice A na ca) ∧ u2.cell? ⟨w.heap.size + 1, 1, none⟩ = some (.int .i64 C) ∧ u2.cell? ⟨w.heap.size + 1, 2, none⟩ = some (.slice Z nz cz) ∧ Hid (Below w0.heap.size w0 u2)) from fun u1 u2 h1 h2 => by
    have h3 := Lib.hid (below_ext h1.out h2)
    obtain ⟨y0, y1, y2, y3, y4, y5⟩ := kC.out _ h3
    exact ⟨y0, y1, y2, y3, y4, y5, h3⟩)
  refine wp_region_T (S := fun w' => w'.cell? ⟨w.heap.size, 0, none⟩ = some (.int .i64 P) ∧ w'.cell? ⟨w.heap.size, 1, none⟩ = some (.int .i64 Q) ∧ w'.cell? ⟨w.heap.size, 2, none⟩ = some (.int .i64 G) ∧ w'.cell? ⟨w.heap.size + 1, 0, none⟩ = some (.slice A na ca) ∧ w'.cell? ⟨w.heap.size + 1, 1, none⟩ = some (.int .i64 C) ∧ w'.cell? ⟨w.heap.size + 1, 2, none⟩ = some (.slice Z nz cz) ∧ Hid (Below w0.heap.size w0 w')) (E := []) (by kernel_rfl) (hS.out _ _ HB_0 ((Below.refl _ _).drew)) (fun hHeld => ?_)
  refine wpT_take (i := 0) (oi := _) (v := ?_) rfl (by kernel_rfl) (by kernel_rfl) (by kernel_rfl) (by kernel_rfl) (fun _ _ _ h => h) (Or.inl ⟨by rfl, ?_⟩) (by assumption) ?_
  rotate_left; (intro wS hSw; (try dsimp only at hSw); go_simp <;> with_reducible rfl)
  try simp only [List.getElem_toArray, List.getElem_cons_zero, List.getElem_cons_succ, Act.put, List.setIfInBounds_toArray, List.set_cons_zero, List.set_cons_succ]
  refine wpT_take (i := 1) (oi := _) (v := ?_) rfl (by kernel_rfl) (by kernel_rfl) (by kernel_rfl) (by kernel_rfl) (fun _ _ _ h => h) (Or.inl ⟨by rfl, ?_⟩) (by assumption) ?_
  rotate_left; (intro wS hSw; (try dsimp only at hSw); go_simp <;> with_reducible rfl)
  try simp only [List.getElem_toArray, List.getElem_cons_zero, List.getElem_cons_succ, Act.put, List.setIfInBounds_toArray, List.set_cons_zero, List.set_cons_succ]
  refine wpT_take (i := 2) (oi := _) (v := ?_) rfl (by kernel_rfl) (by kernel_rfl) (by kernel_rfl) (by kernel_rfl) (fun _ _ _ h => h) (Or.inl ⟨by rfl, ?_⟩) (by assumption) ?_
  rotate_left; (intro wS hSw; (try dsimp only at hSw); go_simp <;> with_reducible rfl)
  try simp only [List.getElem_toArray, List.getElem_cons_zero, List.getElem_cons_succ, Act.put, List.setIfInBounds_toArray, List.set_cons_zero, List.set_cons_succ]
  refine wpT_take (i := 3) (oi := _) (v := ?_) rfl (by kernel_rfl) (by kernel_rfl) (by kernel_rfl) (by kernel_rfl) (fun _ _ _ h => h) (Or.inl ⟨by rfl, ?_⟩) (by assumption) ?_
  rotate_left; (intro wS hSw; (try dsimp only at hSw); go_simp <;> with_reducible rfl)
  try simp only [List.getElem_toArray, List.getElem_cons_zero, List.getElem_cons_succ, Act.put, List.setIfInBounds_toArray, List.set_cons_zero, List.set_cons_succ]
  refine wpT_take (i := 4) (oi := _) (v := ?_) rfl (by kernel_rfl) (by kernel_rfl) (by kernel_rfl) (by kernel_rfl) (fun _ _ _ h => h) (Or.inl ⟨by rfl, ?_⟩) (by assumption) ?_
  rotate_left; (intro wS hSw; (try dsimp only at hSw); go_simp <;> with_reducible rfl)
  try simp only [List.getElem_toArray, List.getElem_cons_zero, List.getElem_cons_succ, Act.put, List.setIfInBounds_toArray, List.set_cons_zero, List.set_cons_succ]
  refine wpT_one (i := 5) (by kernel_rfl) rfl (fun K hK => ?_)
  go_simp
  refine hK.out _ _ ?_ (fun hHeld => ?_)
  · exact hS.out _ _ (hHeld.2.2.2.2.2.2) (below_box0 _ _)
  clear hK K
  try simp only [List.getElem_toArray, List.getElem_cons_zero, List.getElem_cons_succ, Act.put, List.setIfInBounds_toArray, List.set_cons_zero, List.set_cons_succ]
  refine wpT_one (i := 6) (by kernel_rfl) rfl (fun K hK => ?_)
  go_simp
  refine (eqcheck_any P Q G w0.heap.size [a, ya, b, yb] 4 4 (Lib.hid rfl) (by omega) r HCK hQ _ (kV.out _ (hHeld.2.2.2.2.2.2)) (Lib.hid (cells4 w0.drew _ a ya b yb))).mono ?_
  rintro e wA ⟨rfl, hbA⟩
  refine hK.out _ _ ?_ (fun hHeld => ?_)
  · exact hS.out _ _ (hHeld.2.2.2.2.2.2) hbA
  clear hK K
  try simp only [List.getElem_toArray, List.getElem_cons_zero, List.getElem_cons_succ, Act.put, List.setIfInBounds_toArray, List.set_cons_zero, List.set_cons_succ]
  refine wpT_take (i := 7) (oi := _) (v := ?_) rfl (by kernel_rfl) (by kernel_rfl) (by kernel_rfl) (by kernel_rfl) (fun _ _ _ h => h) (Or.inl ⟨by rfl, ?_⟩) (by assumption) ?_
  rotate_left; (intro wS hSw; (try dsimp only at hSw); go_simp <;> with_reducible rfl)
  try simp only [List.getElem_toArray, List.getElem_cons_zero, List.getElem_cons_succ, Act.put, List.setIfInBounds_toArray, List.set_cons_zero, List.set_cons_succ]
  refine wpT_take (i := 8) (oi := _) (v := ?_) rfl (by kernel_rfl) (by kernel_rfl) (by kernel_rfl) (by kernel_rfl) (fun _ _ _ h => h) (Or.inl ⟨by rfl, ?_⟩) (by assumption) ?_
  rotate_left; (intro wS hSw; (try dsimp only at hSw); go_simp <;> with_reducible rfl)
  try simp only [List.getElem_toArray, List.getElem_cons_zero, List.getElem_cons_succ, Act.put, List.setIfInBounds_toArray, List.set_cons_zero, List.set_cons_succ]
  refine wpT_take (i := 9) (oi := _) (v := undef) rfl (by kernel_rfl) (by kernel_rfl) (by kernel_rfl) (by kernel_rfl) (fun _ _ _ h => h) (Or.inr ⟨by rfl, rfl⟩) (by assumption) ?_
  try simp only [List.getElem_toArray, List.getElem_cons_zero, List.getElem_cons_succ, Act.put, List.setIfInBounds_toArray, List.set_cons_zero, List.set_cons_succ]
  refine wpT_take (i := 10) (oi := _) (v := undef) rfl (by kernel_rfl) (by kernel_rfl) (by kernel_rfl) (by kernel_rfl) (fun _ _ _ h => h) (Or.inr ⟨by rfl, rfl⟩) (by assumption) ?_
  try simp only [List.getElem_toArray, List.getElem_cons_zero, List.getElem_cons_succ, Act.put, List.setIfInBounds_toArray, List.set_cons_zero, List.set_cons_succ]
  refine wpT_take (i := 11) (oi := _) (v := undef) rfl (by kernel_rfl) (by kernel_rfl) (by kernel_rfl) (by kernel_rfl) (fun _ _ _ h => h) (Or.inr ⟨by rfl, rfl⟩) (by assumption) ?_
  try simp only [List.getElem_toArray, List.getElem_cons_zero, List.getElem_cons_succ, Act.put, List.setIfInBounds_toArray, List.set_cons_zero, List.set_cons_succ]
  refine wpT_take (i := 12) (oi := _) (v := undef) rfl (by kernel_rfl) (by kernel_rfl) (by kernel_rfl) (by kernel_rfl) (fun _ _ _ h => h) (Or.inr ⟨by rfl, rfl⟩) (by assumption) ?_
  try simp only [List.getElem_toArray, List.getElem_cons_zero, List.getElem_cons_succ, Act.put, List.setIfInBounds_toArray, List.set_cons_zero, List.set_cons_succ]
  refine wpT_take (i := 13) (oi := _) (v := undef) rfl (by kernel_rfl) (by kernel_rfl) (by kernel_rfl) (by kernel_rfl) (fun _ _ _ h => h) (Or.inr ⟨by rfl, rfl⟩) (by assumption) ?_
  try simp only [List.getElem_toArray, List.getElem_cons_zero, List.getElem_cons_succ, Act.put, List.setIfInBounds_toArray, List.set_cons_zero, List.set_cons_succ]
  refine wpT_take (i := 14) (oi := _) (v := undef) rfl (by kernel_rfl) (by kernel_rfl) (by kernel_rfl) (by kernel_rfl) (fun _ _ _ h => h) (Or.inr ⟨by rfl, rfl⟩) (by assumption) ?_
  try simp only [List.getElem_toArray, List.getElem_cons_zero, List.getElem_cons_succ, Act.put, List.setIfInBounds_toArray, List.set_cons_zero, List.set_cons_succ]
  refine wpT_take (i := 15) (oi := _) (v := undef) rfl (by kernel_rfl) (by kernel_rfl) (by kernel_rfl) (by kernel_rfl) (fun _ _ _ h => h) (Or.inr ⟨by rfl, rfl⟩) (by assumption) ?_
  try simp only [List.getElem_toArray, List.getElem_cons_zero, List.getElem_cons_succ, Act.put, List.setIfInBounds_toArray, List.set_cons_zero, List.set_cons_succ]
  refine wpT_take (i := 16) (oi := _) (v := undef) rfl (by kernel_rfl) (by kernel_rfl) (by kernel_rfl) (by kernel_rfl) (fun _ _ _ h => h) (Or.inr ⟨by rfl, rfl⟩) (by assumption) ?_
  try simp only [List.getElem_toArray, List.getElem_cons_zero, List.getElem_cons_succ, Act.put, List.setIfInBounds_toArray, List.set_cons_zero, List.set_cons_succ]
  refine wpT_take (i := 17) (oi := _) (v := undef) rfl (by kernel_rfl) (by kernel_rfl) (by kernel_rfl) (by kernel_rfl) (fun _ _ _ h => h) (Or.inr ⟨by rfl, rfl⟩) (by assumption) ?_
  try simp only [List.getElem_toArray, List.getElem_cons_zero, List.getElem_cons_succ, Act.put, List.setIfInBounds_toArray, List.set_cons_zero, List.set_cons_succ]
  refine wpT_take (i := 18) (oi := _) (v := ?_) rfl (by kernel_rfl) (by kernel_rfl) (by kernel_rfl) (by kernel_rfl) (fun _ _ _ h => h) (Or.inl ⟨by rfl, ?_⟩) (by assumption) ?_
  rotate_left; (intro wS hSw; (try dsimp only at hSw); go_simp <;> with_reducible rfl)
  try simp only [List.getElem_toArray, List.getElem_cons_zero, List.getElem_cons_succ, Act.put, List.setIfInBounds_toArray, List.set_cons_zero, List.set_cons_succ]
  refine wpT_take (i := 19) (oi := _) (v := ?_) rfl (by kernel_rfl) (by kernel_rfl) (by kernel_rfl) (by kernel_rfl) (fun _ _ _ h => h) (Or.inl ⟨by rfl, ?_⟩) (by assumption) ?_
  rotate_left; (intro wS hSw; (try dsimp only at hSw); go_simp <;> with_reducible rfl)
  try simp only [List.getElem_toArray, List.getElem_cons_zero, List.getElem_cons_succ, Act.put, List.setIfInBounds_toArray, List.set_cons_zero, List.set_cons_succ]
  refine wpT_done (by kernel_rfl) ?_ _
  obtain ⟨x0, x1, x2, x3, x4, x5, HBF⟩ := hHeld
  have hbF := below_ext HBw.out HBF.out
  clear x0 x1 x2 x3 x4 x5
  go_wp2
  go_ret
  exact ⟨rfl, hbF⟩
set_option maxHeartbeats 12800000 in
theorem eqvr_y (P Q G a ya b yb : Int) (A : Option Addr) (al : List Int) (na ca : Nat) (C : Int) (Z : Option Addr) (zs : List Int) (nz cz : Nat) (han : Hid (al.length = na)) (hzn : Hid (zs.length = nz)) (hna : na < 1000000) (hnz : nz < 1000000) (hQ : Q < 9223372036854775808) (s : ByteArray) (hs : s.size ≤ 1000) (HCK : Hid (chkG P Q G [a, ya, b, yb] = 0)) (r : Bool) (HCL : Kp (verL P Q G C (bys s) [ya, yb] (eqRows none none a b) al zs = r)) (w : World) (hv : Hid (Vars w)) (hd : Hid (VarsD w)) (hA : Hid (Sl w A al)) (hZ : Hid (Sl w Z zs)) :
    Calls Tryz.prog 19 #[gv P Q G, .int .i64 a, .int .i64 ya, .int .i64 b, .int .i64 yb, .string s, prvL A na ca C Z nz cz] w fun e' w' => e' = .returned (.bool r) ∧ Below w.heap.size w w' := by
  obtain ⟨w0, hW⟩ : ∃ W, ((w.alloc (gObj P Q G)).alloc (prObjL A na ca C Z nz cz)) = W := ⟨_, rfl⟩
  have HBw : Hid (Below w.heap.size w w0) := Lib.hid (by rw [← hW]; exact below_two (Below.refl _ _))
  have hc : w0.cell? ⟨w.heap.size, 0, none⟩ = some (.int .i64 P) ∧ w0.cell? ⟨w.heap.size, 1, none⟩ = some (.int .i64 Q) ∧ w0.cell? ⟨w.heap.size, 2, none⟩ = some (.int .i64 G) ∧ w0.cell? ⟨w.heap.size + 1, 0, none⟩ = some (.slice A na ca) ∧ w0.cell? ⟨w.heap.size + 1, 1, none⟩ = some (.int .i64 C) ∧ w0.cell? ⟨w.heap.size + 1, 2, none⟩ = some (.slice Z nz cz) := by rw [← hW]; exact ⟨cell_below (allocs_cell (by simp) (by rfl)) (below_box0 _ _), cell_below (allocs_cell (by simp) (by rfl)) (below_box0 _ _), cell_below (allocs_cell (by simp) (by rfl)) (below_box0 _ _), allocs_cell (by simp) (by rfl), allocs_cell (by simp) (by rfl), allocs_cell (by simp) (by rfl)⟩
  have kC := Lib.hid (show ∀ u : World, Hid (Below w0.heap.size w0 u) → u.cell? ⟨w.heap.size, 0, none⟩ = some (.int .i64 P) ∧ u.cell? ⟨w.heap.size, 1, none⟩ = some (.int .i64 Q) ∧ u.cell? ⟨w.heap.size, 2, none⟩ = some (.int .i64 G) ∧ u.cell? ⟨w.heap.size + 1, 0, none⟩ = some (.slice A na ca) ∧ u.cell? ⟨w.heap.size + 1, 1, none⟩ = some (.int .i64 C) ∧ u.cell? ⟨w.heap.size + 1, 2, none⟩ = some (.slice Z nz cz) from fun u h => ⟨cell_below hc.1 h.out, cell_below hc.2.1 h.out, cell_below hc.2.2.1 h.out, cell_below hc.2.2.2.1 h.out, cell_below hc.2.2.2.2.1 h.out, cell_below hc.2.2.2.2.2 h.out⟩)
  have kV := Lib.hid (show ∀ u : World, Hid (Below w0.heap.size w0 u) → Hid (Vars u) from fun u h => Lib.hid ((hv.out.below) (below_ext HBw.out h.out)))
  have kA := Lib.hid (show ∀ u : World, Hid (Below w0.heap.size w0 u) → Hid (Sl u A al) from fun u h => Lib.hid ((hA.out.below) (below_ext HBw.out h.out)))
  have kZ := Lib.hid (show ∀ u : World, Hid (Below w0.heap.size w0 u) → Hid (Sl u Z zs) from fun u h => Lib.hid ((hZ.out.below) (below_ext HBw.out h.out)))
  have kD := Lib.hid (show ∀ u : World, Hid (Below w0.heap.size w0 u) → Hid (VarsD u) from fun u h => Lib.hid ((hd.out.below) (below_ext HBw.out h.out)))
  have HB_0 : Hid (Below w0.heap.size w0 w0) := Lib.hid (Below.refl _ _)
  have HW := Lib.hid hW
  clear hW hc hv hd hA hZ
  go_enter Tryz.func19, Tryz.ntmps19
  go_wp2_with fail
  rw [HW.out]
  obtain ⟨zc0, zc1, zc2, zc3, zc4, zc5⟩ := kC.out _ HB_0
  clear zc0 zc1 zc2 zc3 zc4 zc5
  have hS := Lib.hid (show ∀ u1 u2 : World, Hid (Below w0.heap.size w0 u1) → Below u1.heap.size u1 u2 → (u2.cell? ⟨w.heap.size, 0, none⟩ = some (.int .i64 P) ∧ u2.cell? ⟨w.heap.size, 1, none⟩ = some (.int .i64 Q) ∧ u2.cell? ⟨w.heap.size, 2, none⟩ = some (.int .i64 G) ∧ u2.cell? ⟨w.heap.size + 1, 0, none⟩ = some (.slice A na ca) ∧ u2.cell? ⟨w.heap.size + 1, 1, none⟩ = some (.int .i64 C) ∧ u2.cell? ⟨w.heap.size + 1, 2, none⟩ = some (.slice Z nz cz) ∧ Hid (Below w0.heap.size w0 u2)) from fun u1 u2 h1 h2 => by
    have h3 := Lib.hid (below_ext h1.out h2)
    obtain ⟨y0, y1, y2, y3, y4, y5⟩ := kC.out _ h3
    exact ⟨y0, y1, y2, y3, y4, y5, h3⟩)
  refine wp_region_T (S := fun w' => w'.cell? ⟨w.heap.size, 0, none⟩ = some (.int .i64 P) ∧ w'.cell? ⟨w.heap.size, 1, none⟩ = some (.int .i64 Q) ∧ w'.cell? ⟨w.heap.size, 2, none⟩ = some (.int .i64 G) ∧ w'.cell? ⟨w.heap.size + 1, 0, none⟩ = some (.slice A na ca) ∧ w'.cell? ⟨w.heap.size + 1, 1, none⟩ = some (.int .i64 C) ∧ w'.cell? ⟨w.heap.size + 1, 2, none⟩ = some (.slice Z nz cz) ∧ Hid (Below w0.heap.size w0 w')) (E := []) (by kernel_rfl) (hS.out _ _ HB_0 ((Below.refl _ _).drew)) (fun hHeld => ?_)
  refine wpT_take (i := 0) (oi := _) (v := ?_) rfl (by kernel_rfl) (by kernel_rfl) (by kernel_rfl) (by kernel_rfl) (fun _ _ _ h => h) (Or.inl ⟨by rfl, ?_⟩) (by assumption) ?_
  rotate_left; (intro wS hSw; (try dsimp only at hSw); go_simp <;> with_reducible rfl)
  try simp only [List.getElem_toArray, List.getElem_cons_zero, List.getElem_cons_succ, Act.put, List.setIfInBounds_toArray, List.set_cons_zero, List.set_cons_succ]
  refine wpT_take (i := 1) (oi := _) (v := ?_) rfl (by kernel_rfl) (by kernel_rfl) (by kernel_rfl) (by kernel_rfl) (fun _ _ _ h => h) (Or.inl ⟨by rfl, ?_⟩) (by assumption) ?_
  rotate_left; (intro wS hSw; (try dsimp only at hSw); go_simp <;> with_reducible rfl)
  try simp only [List.getElem_toArray, List.getElem_cons_zero, List.getElem_cons_succ, Act.put, List.setIfInBounds_toArray, List.set_cons_zero, List.set_cons_succ]
  refine wpT_take (i := 2) (oi := _) (v := ?_) rfl (by kernel_rfl) (by kernel_rfl) (by kernel_rfl) (by kernel_rfl) (fun _ _ _ h => h) (Or.inl ⟨by rfl, ?_⟩) (by assumption) ?_
  rotate_left; (intro wS hSw; (try dsimp only at hSw); go_simp <;> with_reducible rfl)
  try simp only [List.getElem_toArray, List.getElem_cons_zero, List.getElem_cons_succ, Act.put, List.setIfInBounds_toArray, List.set_cons_zero, List.set_cons_succ]
  refine wpT_take (i := 3) (oi := _) (v := ?_) rfl (by kernel_rfl) (by kernel_rfl) (by kernel_rfl) (by kernel_rfl) (fun _ _ _ h => h) (Or.inl ⟨by rfl, ?_⟩) (by assumption) ?_
  rotate_left; (intro wS hSw; (try dsimp only at hSw); go_simp <;> with_reducible rfl)
  try simp only [List.getElem_toArray, List.getElem_cons_zero, List.getElem_cons_succ, Act.put, List.setIfInBounds_toArray, List.set_cons_zero, List.set_cons_succ]
  refine wpT_take (i := 4) (oi := _) (v := ?_) rfl (by kernel_rfl) (by kernel_rfl) (by kernel_rfl) (by kernel_rfl) (fun _ _ _ h => h) (Or.inl ⟨by rfl, ?_⟩) (by assumption) ?_
  rotate_left; (intro wS hSw; (try dsimp only at hSw); go_simp <;> with_reducible rfl)
  try simp only [List.getElem_toArray, List.getElem_cons_zero, List.getElem_cons_succ, Act.put, List.setIfInBounds_toArray, List.set_cons_zero, List.set_cons_succ]
  refine wpT_one (i := 5) (by kernel_rfl) rfl (fun K hK => ?_)
  go_simp
  refine hK.out _ _ ?_ (fun hHeld => ?_)
  · exact hS.out _ _ (hHeld.2.2.2.2.2.2) (below_box0 _ _)
  clear hK K
  try simp only [List.getElem_toArray, List.getElem_cons_zero, List.getElem_cons_succ, Act.put, List.setIfInBounds_toArray, List.set_cons_zero, List.set_cons_succ]
  refine wpT_one (i := 6) (by kernel_rfl) rfl (fun K hK => ?_)
  go_simp
  refine (eqcheck_any P Q G w0.heap.size [a, ya, b, yb] 4 4 (Lib.hid rfl) (by omega) 0 HCK hQ _ (kV.out _ (hHeld.2.2.2.2.2.2)) (Lib.hid (cells4 w0.drew _ a ya b yb))).mono ?_
  rintro e wA ⟨rfl, hbA⟩
  refine hK.out _ _ ?_ (fun hHeld => ?_)
  · exact hS.out _ _ (hHeld.2.2.2.2.2.2) hbA
  clear hK K
  try simp only [List.getElem_toArray, List.getElem_cons_zero, List.getElem_cons_succ, Act.put, List.setIfInBounds_toArray, List.set_cons_zero, List.set_cons_succ]
  refine wpT_take (i := 7) (oi := _) (v := ?_) rfl (by kernel_rfl) (by kernel_rfl) (by kernel_rfl) (by kernel_rfl) (fun _ _ _ h => h) (Or.inl ⟨by rfl, ?_⟩) (by assumption) ?_
  rotate_left; (intro wS hSw; (try dsimp only at hSw); go_simp <;> with_reducible rfl)
  try simp only [List.getElem_toArray, List.getElem_cons_zero, List.getElem_cons_succ, Act.put, List.setIfInBounds_toArray, List.set_cons_zero, List.set_cons_succ]
  refine wpT_take (i := 8) (oi := _) (v := ?_) rfl (by kernel_rfl) (by kernel_rfl) (by kernel_rfl) (by kernel_rfl) (fun _ _ _ h => h) (Or.inl ⟨by rfl, ?_⟩) (by assumption) ?_
  rotate_left; (intro wS hSw; (try dsimp only at hSw); go_simp <;> with_reducible rfl)
  try simp only [List.getElem_toArray, List.getElem_cons_zero, List.getElem_cons_succ, Act.put, List.setIfInBounds_toArray, List.set_cons_zero, List.set_cons_succ]
  refine wpT_take (i := 9) (oi := _) (v := ?_) rfl (by kernel_rfl) (by kernel_rfl) (by kernel_rfl) (by kernel_rfl) (fun _ _ _ h => h) (Or.inl ⟨by rfl, ?_⟩) (by assumption) ?_
  rotate_left; (intro wS hSw; (try dsimp only at hSw); go_simp <;> with_reducible rfl)
  try simp only [List.getElem_toArray, List.getElem_cons_zero, List.getElem_cons_succ, Act.put, List.setIfInBounds_toArray, List.set_cons_zero, List.set_cons_succ]
  refine wpT_take (i := 10) (oi := _) (v := ?_) rfl (by kernel_rfl) (by kernel_rfl) (by kernel_rfl) (by kernel_rfl) (fun _ _ _ h => h) (Or.inl ⟨by rfl, ?_⟩) (by assumption) ?_
  rotate_left; (intro wS hSw; (try dsimp only at hSw); go_simp <;> with_reducible rfl)
  try simp only [List.getElem_toArray, List.getElem_cons_zero, List.getElem_cons_succ, Act.put, List.setIfInBounds_toArray, List.set_cons_zero, List.set_cons_succ]
  refine wpT_take (i := 11) (oi := _) (v := ?_) rfl (by kernel_rfl) (by kernel_rfl) (by kernel_rfl) (by kernel_rfl) (fun _ _ _ h => h) (Or.inl ⟨by rfl, ?_⟩) (by assumption) ?_
  rotate_left; (intro wS hSw; (try dsimp only at hSw); go_simp <;> with_reducible rfl)
  try simp only [List.getElem_toArray, List.getElem_cons_zero, List.getElem_cons_succ, Act.put, List.setIfInBounds_toArray, List.set_cons_zero, List.set_cons_succ]
  refine wpT_take (i := 12) (oi := _) (v := ?_) rfl (by kernel_rfl) (by kernel_rfl) (by kernel_rfl) (by kernel_rfl) (fun _ _ _ h => h) (Or.inl ⟨by rfl, ?_⟩) (by assumption) ?_
  rotate_left; (intro wS hSw; (try dsimp only at hSw); go_simp <;> with_reducible rfl)
  try simp only [List.getElem_toArray, List.getElem_cons_zero, List.getElem_cons_succ, Act.put, List.setIfInBounds_toArray, List.set_cons_zero, List.set_cons_succ]
  refine wpT_take (i := 13) (oi := _) (v := ?_) rfl (by kernel_rfl) (by kernel_rfl) (by kernel_rfl) (by kernel_rfl) (fun _ _ _ h => h) (Or.inl ⟨by rfl, ?_⟩) (by assumption) ?_
  rotate_left; (intro wS hSw; (try dsimp only at hSw); go_simp <;> with_reducible rfl)
  try simp only [List.getElem_toArray, List.getElem_cons_zero, List.getElem_cons_succ, Act.put, List.setIfInBounds_toArray, List.set_cons_zero, List.set_cons_succ]
  refine wpT_take (i := 15) (oi := _) (v := ?_) rfl (by kernel_rfl) (by kernel_rfl) (by kernel_rfl) (by kernel_rfl) (fun _ _ _ h => h) (Or.inl ⟨by rfl, ?_⟩) (by assumption) ?_
  rotate_left; (intro wS hSw; (try dsimp only at hSw); go_simp <;> with_reducible rfl)
  try simp only [List.getElem_toArray, List.getElem_cons_zero, List.getElem_cons_succ, Act.put, List.setIfInBounds_toArray, List.set_cons_zero, List.set_cons_succ]
  refine wpT_take (i := 16) (oi := _) (v := ?_) rfl (by kernel_rfl) (by kernel_rfl) (by kernel_rfl) (by kernel_rfl) (fun _ _ _ h => h) (Or.inl ⟨by rfl, ?_⟩) (by assumption) ?_
  rotate_left; (intro wS hSw; (try dsimp only at hSw); go_simp <;> with_reducible rfl)
  try simp only [List.getElem_toArray, List.getElem_cons_zero, List.getElem_cons_succ, Act.put, List.setIfInBounds_toArray, List.set_cons_zero, List.set_cons_succ]
  refine wpT_one (i := 14) (by kernel_rfl) rfl (fun K hK => ?_)
  go_simp
  refine (erelation_any a ya b yb _).mono ?_
  intro e wB hR
  obtain ⟨Y, B, A1, B1, rfl, hY, hB, hbA⟩ := hR
  refine hK.out _ _ ?_ (fun hHeld => ?_)
  · exact hS.out _ _ (hHeld.2.2.2.2.2.2) hbA
  clear hK K
  try simp only [List.getElem_toArray, List.getElem_cons_zero, List.getElem_cons_succ, Act.put, List.setIfInBounds_toArray, List.set_cons_zero, List.set_cons_succ]
  refine wpT_one (i := 17) (by kernel_rfl) rfl (fun K hK => ?_)
  go_simp
  refine (lver_any P Q G Y [ya, yb] 2 2 B (eqRows A1 B1 a b) 2 2 A al na ca C Z zs nz cz (Lib.hid rfl) (Lib.hid rfl) han hzn hna hnz hQ s hs r ⟨(verL_addr A1 B1).trans HCL.1⟩ _ (kV.out _ (hHeld.2.2.2.2.2.2)) (kD.out _ (hHeld.2.2.2.2.2.2)) (Lib.hid hY) (Lib.hid hB) (kA.out _ (hHeld.2.2.2.2.2.2)) (kZ.out _ (hHeld.2.2.2.2.2.2))).mono ?_
  rintro e wC ⟨rfl, hbA⟩
  refine hK.out _ _ ?_ (fun hHeld => ?_)
  · exact hS.out _ _ (hHeld.2.2.2.2.2.2) hbA
  clear hK K
  try simp only [List.getElem_toArray, List.getElem_cons_zero, List.getElem_cons_succ, Act.put, List.setIfInBounds_toArray, List.set_cons_zero, List.set_cons_succ]
  refine wpT_take (i := 18) (oi := _) (v := ?_) rfl (by kernel_rfl) (by kernel_rfl) (by kernel_rfl) (by kernel_rfl) (fun _ _ _ h => h) (Or.inl ⟨by rfl, ?_⟩) (by assumption) ?_
  rotate_left; (intro wS hSw; (try dsimp only at hSw); go_simp <;> with_reducible rfl)
  try simp only [List.getElem_toArray, List.getElem_cons_zero, List.getElem_cons_succ, Act.put, List.setIfInBounds_toArray, List.set_cons_zero, List.set_cons_succ]
  refine wpT_take (i := 19) (oi := _) (v := ?_) rfl (by kernel_rfl) (by kernel_rfl) (by kernel_rfl) (by kernel_rfl) (fun _ _ _ h => h) (Or.inl ⟨by rfl, ?_⟩) (by assumption) ?_
  rotate_left; (intro wS hSw; (try dsimp only at hSw); go_simp <;> with_reducible rfl)
  try simp only [List.getElem_toArray, List.getElem_cons_zero, List.getElem_cons_succ, Act.put, List.setIfInBounds_toArray, List.set_cons_zero, List.set_cons_succ]
  refine wpT_done (by kernel_rfl) ?_ _
  obtain ⟨x0, x1, x2, x3, x4, x5, HBF⟩ := hHeld
  have hbF := below_ext HBw.out HBF.out
  clear x0 x1 x2 x3 x4 x5
  go_wp2
  go_ret
  exact ⟨rfl, hbF⟩
/-- equality.Check. -/
theorem eqck_any (P Q G a ya b yb : Int) (A : Option Addr) (al : List Int) (na ca : Nat) (C : Int) (Z : Option Addr) (zs : List Int) (nz cz : Nat) (han : Hid (al.length = na)) (hzn : Hid (zs.length = nz)) (hna : na < 1000000) (hnz : nz < 1000000) (hQ : Q < 9223372036854775808) (r : Bool) (hr : Hid (eqChk P Q G a ya b yb C al zs = r)) (w : World) (hv : Hid (Vars w)) (hA : Hid (Sl w A al)) (hZ : Hid (Sl w Z zs)) :
    Calls Tryz.prog 16 #[gv P Q G, .int .i64 a, .int .i64 ya, .int .i64 b, .int .i64 yb, prvL A na ca C Z nz cz] w fun e' w' => e' = .returned (.bool r) ∧ Below w.heap.size w w' := by
  obtain ⟨k, hk⟩ : ∃ k, chkG P Q G [a, ya, b, yb] = k := ⟨_, rfl⟩
  have hr' := hr.out
  rw [eqChk, hk] at hr'
  cases h0 : (k == 0) with
  | false =>
    obtain rfl : r = false := by rw [← hr', h0]; rfl
    exact eqck_n P Q G a ya b yb A al na ca C Z zs nz cz han hzn hna hnz hQ k (Lib.hid hk) h0 w hv hA hZ
  | true =>
    obtain rfl : k = 0 := by simpa using h0
    exact eqck_y P Q G a ya b yb A al na ca C Z zs nz cz han hzn hna hnz hQ (Lib.hid hk) r (Lib.hid (by rw [← hr']; simp)) w hv hA hZ
/-- equality.Verify. -/
theorem eqvr_any (P Q G a ya b yb : Int) (A : Option Addr) (al : List Int) (na ca : Nat) (C : Int) (Z : Option Addr) (zs : List Int) (nz cz : Nat) (han : Hid (al.length = na)) (hzn : Hid (zs.length = nz)) (hna : na < 1000000) (hnz : nz < 1000000) (hQ : Q < 9223372036854775808) (s : ByteArray) (hs : s.size ≤ 1000) (r : Bool) (hr : Kp (eqVer P Q G a ya b yb C (bys s) al zs = r)) (w : World) (hv : Hid (Vars w)) (hd : Hid (VarsD w)) (hA : Hid (Sl w A al)) (hZ : Hid (Sl w Z zs)) :
    Calls Tryz.prog 19 #[gv P Q G, .int .i64 a, .int .i64 ya, .int .i64 b, .int .i64 yb, .string s, prvL A na ca C Z nz cz] w fun e' w' => e' = .returned (.bool r) ∧ Below w.heap.size w w' := by
  obtain ⟨k, hk⟩ : ∃ k, chkG P Q G [a, ya, b, yb] = k := ⟨_, rfl⟩
  have hr' := hr.1
  rw [eqVer, hk] at hr'
  cases h0 : (k == 0) with
  | false =>
    obtain rfl : r = false := by rw [← hr', h0]; rfl
    exact eqvr_n P Q G a ya b yb A al na ca C Z zs nz cz han hzn hna hnz hQ s k (Lib.hid hk) h0 w hv hd hA hZ
  | true =>
    obtain rfl : k = 0 := by simpa using h0
    exact eqvr_y P Q G a ya b yb A al na ca C Z zs nz cz han hzn hna hnz hQ s hs (Lib.hid hk) r ⟨by rw [← hr']; simp⟩ w hv hd hA hZ
end Go.Proofs.YtdlhodbiaoafiaaGreatDoor
namespace Go.Proofs.YtdlhodbiaoafiaaGreatDoor
open Go.RowKit SpM
set_option linter.unusedVariables false
set_option linter.unusedSimpArgs false
set_option maxRecDepth 100000
set_option maxHeartbeats 3200000 in
theorem sm_a (A1 : Option Addr) (a1 : List Int) (n1 k1 : Nat) (C1 : Int) (Z1 : Option Addr) (z1 : List Int) (m1 l1 : Nat) (A2 : Option Addr) (a2 : List Int) (n2 k2 : Nat) (C2 : Int) (Z2 : Option Addr) (z2 : List Int) (m2 l2 : Nat) (hn1 : Hid (a1.length = n1)) (hm1 : Hid (z1.length = m1)) (hn2 : Hid (a2.length = n2)) (hm2 : Hid (z2.length = m2)) (b1 : n1 < 1000000) (b2 : m1 < 1000000) (b3 : n2 < 1000000) (b4 : m2 < 1000000) (he : Hid ((a1 == a2) = false)) (w : World) (hA1 : Hid (Sl w A1 a1)) (hZ1 : Hid (Sl w Z1 z1)) (hA2 : Hid (Sl w A2 a2)) (hZ2 : Hid (Sl w Z2 z2)) :
    Calls Tryz.prog 18 #[prvL A1 n1 k1 C1 Z1 m1 l1, prvL A2 n2 k2 C2 Z2 m2 l2] w fun e' w' => e' = .returned (.bool false) ∧ Below w.heap.size w w' := by
  obtain ⟨w0, hW⟩ : ∃ W, ((w.alloc (prObjL A1 n1 k1 C1 Z1 m1 l1)).alloc (prObjL A2 n2 k2 C2 Z2 m2 l2)) = W := ⟨_, rfl⟩
  have HBw : Hid (Below w.heap.size w w0) := Lib.hid (by rw [← hW]; exact below_two (Below.refl _ _))
  have hc : w0.cell? ⟨w.heap.size, 0, none⟩ = some (.slice A1 n1 k1) ∧ w0.cell? ⟨w.heap.size, 1, none⟩ = some (.int .i64 C1) ∧ w0.cell? ⟨w.heap.size, 2, none⟩ = some (.slice Z1 m1 l1) ∧ w0.cell? ⟨w.heap.size + 1, 0, none⟩ = some (.slice A2 n2 k2) ∧ w0.cell? ⟨w.heap.size + 1, 1, none⟩ = some (.int .i64 C2) ∧ w0.cell? ⟨w.heap.size + 1, 2, none⟩ = some (.slice Z2 m2 l2) := by rw [← hW]; exact ⟨cell_below (allocs_cell (by simp) (by rfl)) (below_box0 _ _), cell_below (allocs_cell (by simp) (by rfl)) (below_box0 _ _), cell_below (allocs_cell (by simp) (by rfl)) (below_box0 _ _), allocs_cell (by simp) (by rfl), allocs_cell (by simp) (by rfl), allocs_cell (by simp) (by rfl)⟩
  have kC := Lib.hid (show ∀ u : World, Hid (Below w0.heap.size w0 u) → u.cell? ⟨w.heap.size, 0, none⟩ = some (.slice A1 n1 k1) ∧ u.cell? ⟨w.heap.size, 1, none⟩ = some (.int .i64 C1) ∧ u.cell? ⟨w.heap.size, 2, none⟩ = some (.slice Z1 m1 l1) ∧ u.cell? ⟨w.heap.size + 1, 0, none⟩ = some (.slice A2 n2 k2) ∧ u.cell? ⟨w.heap.size + 1, 1, none⟩ = some (.int .i64 C2) ∧ u.cell? ⟨w.heap.size + 1, 2, none⟩ = some (.slice Z2 m2 l2) from fun u h => ⟨cell_below hc.1 h.out, cell_below hc.2.1 h.out, cell_below hc.2.2.1 h.out, cell_below hc.2.2.2.1 h.out, cell_below hc.2.2.2.2.1 h.out, cell_below hc.2.2.2.2.2 h.out⟩)
  have kA1 := Lib.hid (show ∀ u : World, Hid (Below w0.heap.size w0 u) → Hid (Sl u A1 a1) from fun u h => Lib.hid ((hA1.out.below) (below_ext HBw.out h.out)))
  have kZ1 := Lib.hid (show ∀ u : World, Hid (Below w0.heap.size w0 u) → Hid (Sl u Z1 z1) from fun u h => Lib.hid ((hZ1.out.below) (below_ext HBw.out h.out)))
  have kA2 := Lib.hid (show ∀ u : World, Hid (Below w0.heap.size w0 u) → Hid (Sl u A2 a2) from fun u h => Lib.hid ((hA2.out.below) (below_ext HBw.out h.out)))
  have kZ2 := Lib.hid (show ∀ u : World, Hid (Below w0.heap.size w0 u) → Hid (Sl u Z2 z2) from fun u h => Lib.hid ((hZ2.out.below) (below_ext HBw.out h.out)))
  have HB_0 : Hid (Below w0.heap.size w0 w0) := Lib.hid (Below.refl _ _)
  have HW := Lib.hid hW
  clear hW hc hA1 hZ1 hA2 hZ2
  go_enter Tryz.func18, Tryz.ntmps18
  go_wp2_with fail
  rw [HW.out]
  obtain ⟨zc0, zc1, zc2, zc3, zc4, zc5⟩ := kC.out _ HB_0
  go_wp2_with fail
  refine (eqs_any A1 a1 n1 k1 A2 a2 n2 k2 false he hn1 hn2 b1 b3 _ (kA1.out _ HB_0) (kA2.out _ HB_0)).mono ?_
  rintro e w1 ⟨rfl, hb0⟩
  have HB_1 := Lib.hid (below_ext HB_0.out hb0)
  clear zc0 zc1 zc2 zc3 zc4 zc5
  clear hb0
  obtain ⟨zc0, zc1, zc2, zc3, zc4, zc5⟩ := kC.out _ HB_1
  have hbF := below_ext HBw.out HB_1.out
  go_wp2
  go_ret
  exact ⟨rfl, hbF⟩
set_option maxHeartbeats 3200000 in
theorem sm_c (A1 : Option Addr) (a1 : List Int) (n1 k1 : Nat) (C1 : Int) (Z1 : Option Addr) (z1 : List Int) (m1 l1 : Nat) (A2 : Option Addr) (a2 : List Int) (n2 k2 : Nat) (C2 : Int) (Z2 : Option Addr) (z2 : List Int) (m2 l2 : Nat) (hn1 : Hid (a1.length = n1)) (hm1 : Hid (z1.length = m1)) (hn2 : Hid (a2.length = n2)) (hm2 : Hid (z2.length = m2)) (b1 : n1 < 1000000) (b2 : m1 < 1000000) (b3 : n2 < 1000000) (b4 : m2 < 1000000) (he : Hid ((a1 == a2) = true)) (hc : (C1 == C2) = false) (w : World) (hA1 : Hid (Sl w A1 a1)) (hZ1 : Hid (Sl w Z1 z1)) (hA2 : Hid (Sl w A2 a2)) (hZ2 : Hid (Sl w Z2 z2)) :
    Calls Tryz.prog 18 #[prvL A1 n1 k1 C1 Z1 m1 l1, prvL A2 n2 k2 C2 Z2 m2 l2] w fun e' w' => e' = .returned (.bool false) ∧ Below w.heap.size w w' := by
  obtain ⟨w0, hW⟩ : ∃ W, ((w.alloc (prObjL A1 n1 k1 C1 Z1 m1 l1)).alloc (prObjL A2 n2 k2 C2 Z2 m2 l2)) = W := ⟨_, rfl⟩
  have HBw : Hid (Below w.heap.size w w0) := Lib.hid (by rw [← hW]; exact below_two (Below.refl _ _))
  have hc : w0.cell? ⟨w.heap.size, 0, none⟩ = some (.slice A1 n1 k1) ∧ w0.cell? ⟨w.heap.size, 1, none⟩ = some (.int .i64 C1) ∧ w0.cell? ⟨w.heap.size, 2, none⟩ = some (.slice Z1 m1 l1) ∧ w0.cell? ⟨w.heap.size + 1, 0, none⟩ = some (.slice A2 n2 k2) ∧ w0.cell? ⟨w.heap.size + 1, 1, none⟩ = some (.int .i64 C2) ∧ w0.cell? ⟨w.heap.size + 1, 2, none⟩ = some (.slice Z2 m2 l2) := by rw [← hW]; exact ⟨cell_below (allocs_cell (by simp) (by rfl)) (below_box0 _ _), cell_below (allocs_cell (by simp) (by rfl)) (below_box0 _ _), cell_below (allocs_cell (by simp) (by rfl)) (below_box0 _ _), allocs_cell (by simp) (by rfl), allocs_cell (by simp) (by rfl), allocs_cell (by simp) (by rfl)⟩
  have kC := Lib.hid (show ∀ u : World, Hid (Below w0.heap.size w0 u) → u.cell? ⟨w.heap.size, 0, none⟩ = some (.slice A1 n1 k1) ∧ u.cell? ⟨w.heap.size, 1, none⟩ = some (.int .i64 C1) ∧ u.cell? ⟨w.heap.size, 2, none⟩ = some (.slice Z1 m1 l1) ∧ u.cell? ⟨w.heap.size + 1, 0, none⟩ = some (.slice A2 n2 k2) ∧ u.cell? ⟨w.heap.size + 1, 1, none⟩ = some (.int .i64 C2) ∧ u.cell? ⟨w.heap.size + 1, 2, none⟩ = some (.slice Z2 m2 l2) from fun u h => ⟨cell_below hc.1 h.out, cell_below hc.2.1 h.out, cell_below hc.2.2.1 h.out, cell_below hc.2.2.2.1 h.out, cell_below hc.2.2.2.2.1 h.out, cell_below hc.2.2.2.2.2 h.out⟩)
  have kA1 := Lib.hid (show ∀ u : World, Hid (Below w0.heap.size w0 u) → Hid (Sl u A1 a1) from fun u h => Lib.hid ((hA1.out.below) (below_ext HBw.out h.out)))
  have kZ1 := Lib.hid (show ∀ u : World, Hid (Below w0.heap.size w0 u) → Hid (Sl u Z1 z1) from fun u h => Lib.hid ((hZ1.out.below) (below_ext HBw.out h.out)))
  have kA2 := Lib.hid (show ∀ u : World, Hid (Below w0.heap.size w0 u) → Hid (Sl u A2 a2) from fun u h => Lib.hid ((hA2.out.below) (below_ext HBw.out h.out)))
  have kZ2 := Lib.hid (show ∀ u : World, Hid (Below w0.heap.size w0 u) → Hid (Sl u Z2 z2) from fun u h => Lib.hid ((hZ2.out.below) (below_ext HBw.out h.out)))
  have HB_0 : Hid (Below w0.heap.size w0 w0) := Lib.hid (Below.refl _ _)
  have HW := Lib.hid hW
  clear hW hc hA1 hZ1 hA2 hZ2
  go_enter Tryz.func18, Tryz.ntmps18
  go_wp2_with fail
  rw [HW.out]
  obtain ⟨zc0, zc1, zc2, zc3, zc4, zc5⟩ := kC.out _ HB_0
  go_wp2_with fail
  refine (eqs_any A1 a1 n1 k1 A2 a2 n2 k2 true he hn1 hn2 b1 b3 _ (kA1.out _ HB_0) (kA2.out _ HB_0)).mono ?_
  rintro e w1 ⟨rfl, hb0⟩
  have HB_1 := Lib.hid (below_ext HB_0.out hb0)
  clear zc0 zc1 zc2 zc3 zc4 zc5
  clear hb0
  obtain ⟨zc0, zc1, zc2, zc3, zc4, zc5⟩ := kC.out _ HB_1
  have hbF := below_ext HBw.out HB_1.out
  go_wp2
  go_ret
  exact ⟨rfl, hbF⟩
set_option maxHeartbeats 3200000 in
theorem sm_z (A1 : Option Addr) (a1 : List Int) (n1 k1 : Nat) (C1 : Int) (Z1 : Option Addr) (z1 : List Int) (m1 l1 : Nat) (A2 : Option Addr) (a2 : List Int) (n2 k2 : Nat) (C2 : Int) (Z2 : Option Addr) (z2 : List Int) (m2 l2 : Nat) (hn1 : Hid (a1.length = n1)) (hm1 : Hid (z1.length = m1)) (hn2 : Hid (a2.length = n2)) (hm2 : Hid (z2.length = m2)) (b1 : n1 < 1000000) (b2 : m1 < 1000000) (b3 : n2 < 1000000) (b4 : m2 < 1000000) (he : Hid ((a1 == a2) = true)) (hc : (C1 == C2) = true) (r : Bool) (hz : Hid ((z1 == z2) = r)) (w : World) (hA1 : Hid (Sl w A1 a1)) (hZ1 : Hid (Sl w Z1 z1)) (hA2 : Hid (Sl w A2 a2)) (hZ2 : Hid (Sl w Z2 z2)) :
    Calls Tryz.prog 18 #[prvL A1 n1 k1 C1 Z1 m1 l1, prvL A2 n2 k2 C2 Z2 m2 l2] w fun e' w' => e' = .returned (.bool r) ∧ Below w.heap.size w w' := by
  obtain ⟨w0, hW⟩ : ∃ W, ((w.alloc (prObjL A1 n1 k1 C1 Z1 m1 l1)).alloc (prObjL A2 n2 k2 C2 Z2 m2 l2)) = W := ⟨_, rfl⟩
  have HBw : Hid (Below w.heap.size w w0) := Lib.hid (by rw [← hW]; exact below_two (Below.refl _ _))
  have hc : w0.cell? ⟨w.heap.size, 0, none⟩ = some (.slice A1 n1 k1) ∧ w0.cell? ⟨w.heap.size, 1, none⟩ = some (.int .i64 C1) ∧ w0.cell? ⟨w.heap.size, 2, none⟩ = some (.slice Z1 m1 l1) ∧ w0.cell? ⟨w.heap.size + 1, 0, none⟩ = some (.slice A2 n2 k2) ∧ w0.cell? ⟨w.heap.size + 1, 1, none⟩ = some (.int .i64 C2) ∧ w0.cell? ⟨w.heap.size + 1, 2, none⟩ = some (.slice Z2 m2 l2) := by rw [← hW]; exact ⟨cell_below (allocs_cell (by simp) (by rfl)) (below_box0 _ _), cell_below (allocs_cell (by simp) (by rfl)) (below_box0 _ _), cell_below (allocs_cell (by simp) (by rfl)) (below_box0 _ _), allocs_cell (by simp) (by rfl), allocs_cell (by simp) (by rfl), allocs_cell (by simp) (by rfl)⟩
  have kC := Lib.hid (show ∀ u : World, Hid (Below w0.heap.size w0 u) → u.cell? ⟨w.heap.size, 0, none⟩ = some (.slice A1 n1 k1) ∧ u.cell? ⟨w.heap.size, 1, none⟩ = some (.int .i64 C1) ∧ u.cell? ⟨w.heap.size, 2, none⟩ = some (.slice Z1 m1 l1) ∧ u.cell? ⟨w.heap.size + 1, 0, none⟩ = some (.slice A2 n2 k2) ∧ u.cell? ⟨w.heap.size + 1, 1, none⟩ = some (.int .i64 C2) ∧ u.cell? ⟨w.heap.size + 1, 2, none⟩ = some (.slice Z2 m2 l2) from fun u h => ⟨cell_below hc.1 h.out, cell_below hc.2.1 h.out, cell_below hc.2.2.1 h.out, cell_below hc.2.2.2.1 h.out, cell_below hc.2.2.2.2.1 h.out, cell_below hc.2.2.2.2.2 h.out⟩)
  have kA1 := Lib.hid (show ∀ u : World, Hid (Below w0.heap.size w0 u) → Hid (Sl u A1 a1) from fun u h => Lib.hid ((hA1.out.below) (below_ext HBw.out h.out)))
  have kZ1 := Lib.hid (show ∀ u : World, Hid (Below w0.heap.size w0 u) → Hid (Sl u Z1 z1) from fun u h => Lib.hid ((hZ1.out.below) (below_ext HBw.out h.out)))
  have kA2 := Lib.hid (show ∀ u : World, Hid (Below w0.heap.size w0 u) → Hid (Sl u A2 a2) from fun u h => Lib.hid ((hA2.out.below) (below_ext HBw.out h.out)))
  have kZ2 := Lib.hid (show ∀ u : World, Hid (Below w0.heap.size w0 u) → Hid (Sl u Z2 z2) from fun u h => Lib.hid ((hZ2.out.below) (below_ext HBw.out h.out)))
  have HB_0 : Hid (Below w0.heap.size w0 w0) := Lib.hid (Below.refl _ _)
  have HW := Lib.hid hW
  clear hW hc hA1 hZ1 hA2 hZ2
  go_enter Tryz.func18, Tryz.ntmps18
  go_wp2_with fail
  rw [HW.out]
  obtain ⟨zc0, zc1, zc2, zc3, zc4, zc5⟩ := kC.out _ HB_0
  go_wp2_with fail
  refine (eqs_any A1 a1 n1 k1 A2 a2 n2 k2 true he hn1 hn2 b1 b3 _ (kA1.out _ HB_0) (kA2.out _ HB_0)).mono ?_
  rintro e w1 ⟨rfl, hb0⟩
  have HB_1 := Lib.hid (below_ext HB_0.out hb0)
  clear zc0 zc1 zc2 zc3 zc4 zc5
  clear hb0
  obtain ⟨zc0, zc1, zc2, zc3, zc4, zc5⟩ := kC.out _ HB_1
  go_wp2_with fail
  refine (eqs_any Z1 z1 m1 l1 Z2 z2 m2 l2 r hz hm1 hm2 b2 b4 _ (kZ1.out _ HB_1) (kZ2.out _ HB_1)).mono ?_
  rintro e w2 ⟨rfl, hb0⟩
  have HB_2 := Lib.hid (below_ext HB_1.out hb0)
  clear zc0 zc1 zc2 zc3 zc4 zc5
  clear hb0
  obtain ⟨zc0, zc1, zc2, zc3, zc4, zc5⟩ := kC.out _ HB_2
  have hbF := below_ext HBw.out HB_2.out
  go_wp2
  go_ret
  exact ⟨rfl, hbF⟩
/-- same. -/
theorem same18_any (A1 : Option Addr) (a1 : List Int) (n1 k1 : Nat) (C1 : Int) (Z1 : Option Addr) (z1 : List Int) (m1 l1 : Nat) (A2 : Option Addr) (a2 : List Int) (n2 k2 : Nat) (C2 : Int) (Z2 : Option Addr) (z2 : List Int) (m2 l2 : Nat) (hn1 : Hid (a1.length = n1)) (hm1 : Hid (z1.length = m1)) (hn2 : Hid (a2.length = n2)) (hm2 : Hid (z2.length = m2)) (b1 : n1 < 1000000) (b2 : m1 < 1000000) (b3 : n2 < 1000000) (b4 : m2 < 1000000) (r : Bool) (hr : Hid (((a1 == a2) && ((C1 == C2) && (z1 == z2))) = r)) (w : World) (hA1 : Hid (Sl w A1 a1)) (hZ1 : Hid (Sl w Z1 z1)) (hA2 : Hid (Sl w A2 a2)) (hZ2 : Hid (Sl w Z2 z2)) :
    Calls Tryz.prog 18 #[prvL A1 n1 k1 C1 Z1 m1 l1, prvL A2 n2 k2 C2 Z2 m2 l2] w fun e' w' => e' = .returned (.bool r) ∧ Below w.heap.size w w' := by
  cases he : a1 == a2 with
  | false =>
    obtain rfl : r = false := by rw [← hr.out, he]; rfl
    exact sm_a A1 a1 n1 k1 C1 Z1 z1 m1 l1 A2 a2 n2 k2 C2 Z2 z2 m2 l2 hn1 hm1 hn2 hm2 b1 b2 b3 b4 (Lib.hid he) w hA1 hZ1 hA2 hZ2
  | true =>
    cases hc : C1 == C2 with
    | false =>
      obtain rfl : r = false := by rw [← hr.out, he, hc]; rfl
      exact sm_c A1 a1 n1 k1 C1 Z1 z1 m1 l1 A2 a2 n2 k2 C2 Z2 z2 m2 l2 hn1 hm1 hn2 hm2 b1 b2 b3 b4 (Lib.hid he) hc w hA1 hZ1 hA2 hZ2
    | true => exact sm_z A1 a1 n1 k1 C1 Z1 z1 m1 l1 A2 a2 n2 k2 C2 Z2 z2 m2 l2 hn1 hm1 hn2 hm2 b1 b2 b3 b4 (Lib.hid he) hc r (Lib.hid (by rw [← hr.out, he, hc]; rfl)) w hA1 hZ1 hA2 hZ2
theorem scalar18_any (P Q G x : Int) (r : Bool) (hr : Hid (scB Q x = r)) (w : World) :
    Calls Tryz.prog 23 #[gv P Q G, .int .i64 x] w fun e' w' => e' = .returned (.bool r) ∧ Below w.heap.size w w' := by
  by_cases h1 : 0 ≤ x
  · have d1 : decide ((0 : Int) ≤ x) = true := by simp [h1]
    obtain ⟨t, ht⟩ : ∃ t, decide (x < Q) = t := ⟨_, rfl⟩
    obtain rfl : t = r := by rw [← hr.out, scB, d1, ht]; rfl
    clear hr
    go_enter Tryz.func23, Tryz.ntmps23
    go_wp2
    go_ret
    exact ⟨rfl, below_box0 _ _⟩
  · have d1 : decide ((0 : Int) ≤ x) = false := by simp; omega
    obtain rfl : r = false := by rw [← hr.out, scB, d1]; rfl
    clear hr
    go_enter Tryz.func23, Tryz.ntmps23
    go_wp2
    go_ret
    exact ⟨rfl, below_box0 _ _⟩
end Go.Proofs.YtdlhodbiaoafiaaGreatDoor
namespace Go.Proofs.YtdlhodbiaoafiaaGreatDoor
open Go.RowKit SpM
set_option linter.unusedVariables false
set_option linter.unusedSimpArgs false
set_option maxRecDepth 100000
/-- the blocks of an equality's relation that starts at block g. -/
def EqBlk (a ya b yb : Int) (g : Nat) (w : World) : Prop := w.heap[g + 1]? = some (.cells #[.int .i64 ya, .int .i64 yb] 3) ∧ w.heap[g + 1 + 1]? = some (.cells #[.int .i64 a] 3) ∧ w.heap[g + 1 + 1 + 1]? = some (.cells #[.int .i64 b] 3) ∧ w.heap[g + 1 + 1 + 1 + 1]? = some (.cells #[.slice (some ⟨g + 1 + 1, 0, none⟩) 1 1, .slice (some ⟨g + 1 + 1 + 1, 0, none⟩) 1 1] 26)
theorem EqBlk.set {a ya b yb : Int} {g : Nat} {w : World} (h : EqBlk a ya b yb g w) {k : Nat} (hk : k < g) (j : Nat) (v : Value) : EqBlk a ya b yb g (w.setCell ⟨k, j, none⟩ v) := by
  obtain ⟨h1, h2, h3, h4⟩ := h
  refine ⟨?_, ?_, ?_, ?_⟩
  · rw [Go.Deep.blk_setCell_other _ _ _ _ (show g + 1 ≠ k by omega)]; exact h1
  · rw [Go.Deep.blk_setCell_other _ _ _ _ (show g + 1 + 1 ≠ k by omega)]; exact h2
  · rw [Go.Deep.blk_setCell_other _ _ _ _ (show g + 1 + 1 + 1 ≠ k by omega)]; exact h3
  · rw [Go.Deep.blk_setCell_other _ _ _ _ (show g + 1 + 1 + 1 + 1 ≠ k by omega)]; exact h4
end Go.Proofs.YtdlhodbiaoafiaaGreatDoor
namespace Go.Proofs.YtdlhodbiaoafiaaGreatDoor
open Go.RowKit SpM
set_option linter.unusedVariables false
set_option linter.unusedSimpArgs false
set_option maxRecDepth 100000
set_option maxHeartbeats 1600000 in
theorem eqright_any (s : ByteArray) (hs : s.size ≤ 1000) (r : Bool) (hr : Hid (labB (bys s) = r)) (w : World) :
    Calls Tryz.prog 50 #[.string s] w fun e w' => e = .returned (.bool r) ∧ w = w' := by
  go_enter Tryz.func50, Tryz.ntmps50
  go_wp2
  go_loop [6] (fun i => ∃ k : Nat, k ≤ s.size ∧ i = .int .i64 k ∧ Hid ((bys s).any badc = ((bys s).drop k).any badc)) (fun i => s.size - (intOf i).toNat)
  case atStart => exact ⟨0, by omega, rfl, Lib.hid rfl⟩
  case round =>
    obtain ⟨k, hk, rfl, HR⟩ := hrel
    by_cases hlt : k < s.size
    · have hkl : k < (bys s).length := by rw [bys_len]; exact hlt
      have hg := bys_get hlt
      by_cases t1 : ((s[k]'hlt).toNat : Int) < 33
      · have hN : (bys s).any badc = true := HR.out.trans (any_drop_hit hkl (by rw [hg]; simp [badc, t1]))
        have e : r = false := by rw [← hr.out, labB, hN]; simp
        have d3 : decide (((s[k]'hlt).toNat : Int) < 33) = true := by simp [t1]
        subst e
        clear hN hg hkl HR hr
        go_wp2
        go_ret
        exact ⟨rfl, rfl⟩
      · have d3 : decide (((s[k]'hlt).toNat : Int) < 33) = false := by simp [t1]
        by_cases t2 : (126 : Int) < ((s[k]'hlt).toNat : Int)
        · have hN : (bys s).any badc = true := HR.out.trans (any_drop_hit hkl (by rw [hg]; simp [badc, t1, t2]))
          have e : r = false := by rw [← hr.out, labB, hN]; simp
          have d4 : decide ((126 : Int) < ((s[k]'hlt).toNat : Int)) = true := by simp [t2]
          subst e
          clear hN hg hkl HR hr
          go_wp2
          go_ret
          exact ⟨rfl, rfl⟩
        · have HN : Hid ((bys s).any badc = ((bys s).drop (k + 1)).any badc) := Lib.hid (HR.out.trans (any_drop_step hkl (by rw [hg]; simp [badc, t1, t2])))
          have d4 : decide ((126 : Int) < ((s[k]'hlt).toNat : Int)) = false := by simp [t2]
          clear hg hkl HR
          go_wp2
          go_round
          case rel => exact ⟨k + 1, by omega, by go_num, HN⟩
          case measure => simp [intOf]; omega
    · have hN : (bys s).any badc = false := by rw [HR.out, List.drop_of_length_le (by rw [bys_len]; omega)]; rfl
      by_cases t1 : 1 ≤ s.size
      · have d5 : decide ((1 : Int) ≤ (s.size : Int)) = true := by simp; omega
        by_cases t2 : s.size ≤ 24
        · have d6 : decide ((s.size : Int) ≤ 24) = true := by simp; omega
          have e : r = true := by rw [← hr.out, labB, bys_len, hN, decide_eq_true t1, decide_eq_true t2]; rfl
          subst e
          clear HR hr hN
          go_wp2
          go_ret
          exact ⟨rfl, rfl⟩
        · have d6 : decide ((s.size : Int) ≤ 24) = false := by simp; omega
          have e : r = false := by rw [← hr.out, labB, bys_len, decide_eq_false t2]; simp
          subst e
          clear HR hr hN
          go_wp2
          go_ret
          exact ⟨rfl, rfl⟩
      · have d5 : decide ((1 : Int) ≤ (s.size : Int)) = false := by simp; omega
        have e : r = false := by rw [← hr.out, labB, bys_len, decide_eq_false t1]; rfl
        subst e
        clear HR hr hN
        go_wp2
        go_ret
        exact ⟨rfl, rfl⟩
set_option maxHeartbeats 6400000 in
theorem eqp_v (P Q G a b x : Int) (s : ByteArray) (h : List Int) (c : Int) (hs : s.size ≤ 1000) (hl : Hid (h.length = 32)) (hQ : Q < 9223372036854775808) (hck : Hid (chkG P Q G [a, b] = 1))  (w : World) (hv : Hid (Vars w)) (hd : Hid (VarsD w)) :
    Calls Tryz.prog 25 #[gv P Q G, .int .i64 a, .int .i64 b, .int .i64 x, .string s, .agg (tcs h c)] w fun e w' => e = .returned (PrvE (.agg #[.slice none 0 0, .int .i64 0, .slice none 0 0]) (zer 32) 0 1) ∧ Below w.heap.size w w' := by
  obtain ⟨W, hW⟩ : ∃ W, ((((w.alloc (gObj P Q G)).alloc (.cells (tcs h c) 56)).alloc (.cells #[.slice none 0 0, .int .i64 0, .slice none 0 0] 28)).alloc (.cells #[.int .u8 0, .int .u8 0, .int .u8 0, .int .u8 0, .int .u8 0, .int .u8 0, .int .u8 0, .int .u8 0, .int .u8 0, .int .u8 0, .int .u8 0, .int .u8 0, .int .u8 0, .int .u8 0, .int .u8 0, .int .u8 0, .int .u8 0, .int .u8 0, .int .u8 0, .int .u8 0, .int .u8 0, .int .u8 0, .int .u8 0, .int .u8 0, .int .u8 0, .int .u8 0, .int .u8 0, .int .u8 0, .int .u8 0, .int .u8 0, .int .u8 0, .int .u8 0, .int .i64 0] 56)) = W := ⟨_, rfl⟩
  have HI0 : Hid (PvK w P Q G h c W) := Lib.hid (by rw [← hW]; exact PvK.start w P Q G h c)
  have HV := Lib.hid (hv.out.below HI0.out.b)
  have HDV := Lib.hid (hd.out.below HI0.out.b)
  have HW := Lib.hid hW
  clear hW hv hd
  go_enter Tryz.func25, Tryz.ntmps25
  go_upto_region 1 with (fail)
  rw [HW.out]
  clear HW
  obtain ⟨g0, g1, g2⟩ := HI0.out.g
  have hq := below_box0 W (.cells #[.int .i64 a, .int .i64 b] 3)
  have HC := Lib.hid (cells2 W 3 a b)
  have HIa := Lib.hid (HI0.out.below hq)
  have HVa := Lib.hid (HV.out.below hq)
  have HBa := Lib.hid hq
  clear hq
  go_wp2_with fail
  refine (eqcheck_any P Q G W.heap.size [a, b] 2 2 (Lib.hid rfl) (by omega) 1 hck hQ _ HVa HC).mono ?_
  rintro e w1 ⟨rfl, hb1⟩
  have HI1 := Lib.hid (HIa.out.below hb1)
  have HB1 : Hid (Below W.heap.size W w1) := Lib.hid (below_ext HBa.out hb1)
  clear g0 g1 g2 hb1 HC HIa HVa HBa
  have HIz := HI1
  obtain ⟨hq, hdd, hd1, hbF⟩ := HIz.out.fail
  have HDz := Lib.hid hd1
  have HPz := Lib.hid HIz.out.p
  have HQF := Lib.hid hq
  have HDF := Lib.hid hdd
  have HBF := Lib.hid hbF
  clear hq hdd hd1 hbF
  obtain ⟨⟨p0, p1, p2⟩, pf0, pf1, pf2⟩ := HPz.out.cells
  go_wp2_with (first
    | ((with_reducible show wpList _ _ _ (⟨some 38, _, _, _, _, _⟩ :: _) _ _); refine wpList_built rfl 56 _ rfl _ builtD ?_)
    | ((with_reducible show wpList _ _ _ (⟨none, _, _, _, _, _⟩ :: _) _ _); refine wpList_store_row rfl 56 _ _ rfl (w.heap.size + 3) (tcs (zer 32) 0) rfl rfl _ _ HDz.out (dr_info rfl) rfl (tcs_one _ _) ?_))
  exact bodyPost_ret (v := PrvE (.agg #[.slice none 0 0, .int .i64 0, .slice none 0 0]) (zer 32) 0 1) (results_cell2_tmp (p := 12) (q := 13) (r := 14) (ty := 28) (ty2 := 56) rfl _ _ ⟨w.heap.size + 2, 0, none⟩ ⟨w.heap.size + 3, 0, none⟩ _ _ _ rfl rfl rfl (run_loadVar_row _ _ _ _ _ _ _ HQF.out Tryz.underlying28 rfl infoP) (run_loadVar_row _ _ _ _ _ _ _ HDF.out Tryz.underlying56 rfl (dr_info rfl))) rfl ⟨rfl, HBF.out⟩
set_option maxHeartbeats 6400000 in
theorem eqp_d (P Q G a b x : Int) (s : ByteArray) (h : List Int) (c : Int) (hs : s.size ≤ 1000) (hl : Hid (h.length = 32)) (hQ : Q < 9223372036854775808) (r : Int) (hr1 : (r == 1) = false) (hck : Hid (chkG P Q G [a, b] = r)) (hdr : Hid (drB c = false)) (w : World) (hv : Hid (Vars w)) (hd : Hid (VarsD w)) :
    Calls Tryz.prog 25 #[gv P Q G, .int .i64 a, .int .i64 b, .int .i64 x, .string s, .agg (tcs h c)] w fun e w' => e = .returned (PrvE (.agg #[.slice none 0 0, .int .i64 0, .slice none 0 0]) (zer 32) 0 1) ∧ Below w.heap.size w w' := by
  obtain ⟨W, hW⟩ : ∃ W, ((((w.alloc (gObj P Q G)).alloc (.cells (tcs h c) 56)).alloc (.cells #[.slice none 0 0, .int .i64 0, .slice none 0 0] 28)).alloc (.cells #[.int .u8 0, .int .u8 0, .int .u8 0, .int .u8 0, .int .u8 0, .int .u8 0, .int .u8 0, .int .u8 0, .int .u8 0, .int .u8 0, .int .u8 0, .int .u8 0, .int .u8 0, .int .u8 0, .int .u8 0, .int .u8 0, .int .u8 0, .int .u8 0, .int .u8 0, .int .u8 0, .int .u8 0, .int .u8 0, .int .u8 0, .int .u8 0, .int .u8 0, .int .u8 0, .int .u8 0, .int .u8 0, .int .u8 0, .int .u8 0, .int .u8 0, .int .u8 0, .int .i64 0] 56)) = W := ⟨_, rfl⟩
  have HI0 : Hid (PvK w P Q G h c W) := Lib.hid (by rw [← hW]; exact PvK.start w P Q G h c)
  have HV := Lib.hid (hv.out.below HI0.out.b)
  have HDV := Lib.hid (hd.out.below HI0.out.b)
  have HW := Lib.hid hW
  clear hW hv hd
  go_enter Tryz.func25, Tryz.ntmps25
  go_upto_region 1 with (fail)
  rw [HW.out]
  clear HW
  obtain ⟨g0, g1, g2⟩ := HI0.out.g
  have hq := below_box0 W (.cells #[.int .i64 a, .int .i64 b] 3)
  have HC := Lib.hid (cells2 W 3 a b)
  have HIa := Lib.hid (HI0.out.below hq)
  have HVa := Lib.hid (HV.out.below hq)
  have HBa := Lib.hid hq
  clear hq
  go_wp2_with fail
  refine (eqcheck_any P Q G W.heap.size [a, b] 2 2 (Lib.hid rfl) (by omega) r hck hQ _ HVa HC).mono ?_
  rintro e w1 ⟨rfl, hb1⟩
  have HI1 := Lib.hid (HIa.out.below hb1)
  have HB1 : Hid (Below W.heap.size W w1) := Lib.hid (below_ext HBa.out hb1)
  clear g0 g1 g2 hb1 HC HIa HVa HBa
  go_wp2_with ((with_reducible show wpList _ _ _ (⟨some 28, _, _, _, _, _⟩ :: _) _ _); refine wpList_load_row_g (by rfl) 56 _ rfl (w.heap.size + 1) rfl _ _ _ _ HI1.out.d Tryz.underlying56 rfl (dr_info hl.out) ?_)
  refine (dvalid_any h hl c false hdr _).mono ?_
  rintro e w2 ⟨rfl, hb2⟩
  have HI2 := Lib.hid (HI1.out.below hb2)
  have HB2 : Hid (Below W.heap.size W w2) := Lib.hid (below_ext HB1.out hb2)
  clear hb2
  have HIz := HI2
  obtain ⟨hq, hdd, hd1, hbF⟩ := HIz.out.fail
  have HDz := Lib.hid hd1
  have HPz := Lib.hid HIz.out.p
  have HQF := Lib.hid hq
  have HDF := Lib.hid hdd
  have HBF := Lib.hid hbF
  clear hq hdd hd1 hbF
  obtain ⟨⟨p0, p1, p2⟩, pf0, pf1, pf2⟩ := HPz.out.cells
  go_wp2_with (first
    | ((with_reducible show wpList _ _ _ (⟨some 38, _, _, _, _, _⟩ :: _) _ _); refine wpList_built rfl 56 _ rfl _ builtD ?_)
    | ((with_reducible show wpList _ _ _ (⟨none, _, _, _, _, _⟩ :: _) _ _); refine wpList_store_row rfl 56 _ _ rfl (w.heap.size + 3) (tcs (zer 32) 0) rfl rfl _ _ HDz.out (dr_info rfl) rfl (tcs_one _ _) ?_))
  exact bodyPost_ret (v := PrvE (.agg #[.slice none 0 0, .int .i64 0, .slice none 0 0]) (zer 32) 0 1) (results_cell2_tmp (p := 12) (q := 13) (r := 14) (ty := 28) (ty2 := 56) rfl _ _ ⟨w.heap.size + 2, 0, none⟩ ⟨w.heap.size + 3, 0, none⟩ _ _ _ rfl rfl rfl (run_loadVar_row _ _ _ _ _ _ _ HQF.out Tryz.underlying28 rfl infoP) (run_loadVar_row _ _ _ _ _ _ _ HDF.out Tryz.underlying56 rfl (dr_info rfl))) rfl ⟨rfl, HBF.out⟩
set_option maxHeartbeats 6400000 in
theorem eqp_l (P Q G a b x : Int) (s : ByteArray) (h : List Int) (c : Int) (hs : s.size ≤ 1000) (hl : Hid (h.length = 32)) (hQ : Q < 9223372036854775808) (r : Int) (hr1 : (r == 1) = false) (hck : Hid (chkG P Q G [a, b] = r)) (hdr : Hid (drB c = true)) (hr : Hid (labB (bys s) = false))  (w : World) (hv : Hid (Vars w)) (hd : Hid (VarsD w)) :
    Calls Tryz.prog 25 #[gv P Q G, .int .i64 a, .int .i64 b, .int .i64 x, .string s, .agg (tcs h c)] w fun e w' => e = .returned (PrvE (.agg #[.slice none 0 0, .int .i64 0, .slice none 0 0]) (zer 32) 0 1) ∧ Below w.heap.size w w' := by
  obtain ⟨W, hW⟩ : ∃ W, ((((w.alloc (gObj P Q G)).alloc (.cells (tcs h c) 56)).alloc (.cells #[.slice none 0 0, .int .i64 0, .slice none 0 0] 28)).alloc (.cells #[.int .u8 0, .int .u8 0, .int .u8 0, .int .u8 0, .int .u8 0, .int .u8 0, .int .u8 0, .int .u8 0, .int .u8 0, .int .u8 0, .int .u8 0, .int .u8 0, .int .u8 0, .int .u8 0, .int .u8 0, .int .u8 0, .int .u8 0, .int .u8 0, .int .u8 0, .int .u8 0, .int .u8 0, .int .u8 0, .int .u8 0, .int .u8 0, .int .u8 0, .int .u8 0, .int .u8 0, .int .u8 0, .int .u8 0, .int .u8 0, .int .u8 0, .int .u8 0, .int .i64 0] 56)) = W := ⟨_, rfl⟩
  have HI0 : Hid (PvK w P Q G h c W) := Lib.hid (by rw [← hW]; exact PvK.start w P Q G h c)
  have HV := Lib.hid (hv.out.below HI0.out.b)
  have HDV := Lib.hid (hd.out.below HI0.out.b)
  have HW := Lib.hid hW
  clear hW hv hd
  go_enter Tryz.func25, Tryz.ntmps25
  go_upto_region 1 with (fail)
  rw [HW.out]
  clear HW
  obtain ⟨g0, g1, g2⟩ := HI0.out.g
  have hq := below_box0 W (.cells #[.int .i64 a, .int .i64 b] 3)
  have HC := Lib.hid (cells2 W 3 a b)
  have HIa := Lib.hid (HI0.out.below hq)
  have HVa := Lib.hid (HV.out.below hq)
  have HBa := Lib.hid hq
  clear hq
  go_wp2_with fail
  refine (eqcheck_any P Q G W.heap.size [a, b] 2 2 (Lib.hid rfl) (by omega) r hck hQ _ HVa HC).mono ?_
  rintro e w1 ⟨rfl, hb1⟩
  have HI1 := Lib.hid (HIa.out.below hb1)
  have HB1 : Hid (Below W.heap.size W w1) := Lib.hid (below_ext HBa.out hb1)
  clear g0 g1 g2 hb1 HC HIa HVa HBa
  go_wp2_with ((with_reducible show wpList _ _ _ (⟨some 28, _, _, _, _, _⟩ :: _) _ _); refine wpList_load_row_g (by rfl) 56 _ rfl (w.heap.size + 1) rfl _ _ _ _ HI1.out.d Tryz.underlying56 rfl (dr_info hl.out) ?_)
  refine (dvalid_any h hl c true hdr _).mono ?_
  rintro e w2 ⟨rfl, hb2⟩
  have HI2 := Lib.hid (HI1.out.below hb2)
  have HB2 : Hid (Below W.heap.size W w2) := Lib.hid (below_ext HB1.out hb2)
  clear hb2
  go_wp2_with fail
  refine (eqright_any s hs false hr _).mono ?_
  rintro e w3 ⟨rfl, rfl⟩
  have HIz := HI2
  obtain ⟨hq, hdd, hd1, hbF⟩ := HIz.out.fail
  have HDz := Lib.hid hd1
  have HPz := Lib.hid HIz.out.p
  have HQF := Lib.hid hq
  have HDF := Lib.hid hdd
  have HBF := Lib.hid hbF
  clear hq hdd hd1 hbF
  obtain ⟨⟨p0, p1, p2⟩, pf0, pf1, pf2⟩ := HPz.out.cells
  go_wp2_with (first
    | ((with_reducible show wpList _ _ _ (⟨some 38, _, _, _, _, _⟩ :: _) _ _); refine wpList_built rfl 56 _ rfl _ builtD ?_)
    | ((with_reducible show wpList _ _ _ (⟨none, _, _, _, _, _⟩ :: _) _ _); refine wpList_store_row rfl 56 _ _ rfl (w.heap.size + 3) (tcs (zer 32) 0) rfl rfl _ _ HDz.out (dr_info rfl) rfl (tcs_one _ _) ?_))
  exact bodyPost_ret (v := PrvE (.agg #[.slice none 0 0, .int .i64 0, .slice none 0 0]) (zer 32) 0 1) (results_cell2_tmp (p := 12) (q := 13) (r := 14) (ty := 28) (ty2 := 56) rfl _ _ ⟨w.heap.size + 2, 0, none⟩ ⟨w.heap.size + 3, 0, none⟩ _ _ _ rfl rfl rfl (run_loadVar_row _ _ _ _ _ _ _ HQF.out Tryz.underlying28 rfl infoP) (run_loadVar_row _ _ _ _ _ _ _ HDF.out Tryz.underlying56 rfl (dr_info rfl))) rfl ⟨rfl, HBF.out⟩
set_option maxHeartbeats 6400000 in
theorem eqp_e (P Q G a b x : Int) (s : ByteArray) (h : List Int) (c : Int) (hs : s.size ≤ 1000) (hl : Hid (h.length = 32)) (hQ : Q < 9223372036854775808) (r : Int) (hr1 : (r == 1) = false) (hck : Hid (chkG P Q G [a, b] = r)) (hdr : Hid (drB c = true)) (hr : Hid (labB (bys s) = true)) (hne : (r != 0) = true) (w : World) (hv : Hid (Vars w)) (hd : Hid (VarsD w)) :
    Calls Tryz.prog 25 #[gv P Q G, .int .i64 a, .int .i64 b, .int .i64 x, .string s, .agg (tcs h c)] w fun e w' => e = .returned (PrvE (.agg #[.slice none 0 0, .int .i64 0, .slice none 0 0]) (zer 32) 0 2) ∧ Below w.heap.size w w' := by
  obtain ⟨W, hW⟩ : ∃ W, ((((w.alloc (gObj P Q G)).alloc (.cells (tcs h c) 56)).alloc (.cells #[.slice none 0 0, .int .i64 0, .slice none 0 0] 28)).alloc (.cells #[.int .u8 0, .int .u8 0, .int .u8 0, .int .u8 0, .int .u8 0, .int .u8 0, .int .u8 0, .int .u8 0, .int .u8 0, .int .u8 0, .int .u8 0, .int .u8 0, .int .u8 0, .int .u8 0, .int .u8 0, .int .u8 0, .int .u8 0, .int .u8 0, .int .u8 0, .int .u8 0, .int .u8 0, .int .u8 0, .int .u8 0, .int .u8 0, .int .u8 0, .int .u8 0, .int .u8 0, .int .u8 0, .int .u8 0, .int .u8 0, .int .u8 0, .int .u8 0, .int .i64 0] 56)) = W := ⟨_, rfl⟩
  have HI0 : Hid (PvK w P Q G h c W) := Lib.hid (by rw [← hW]; exact PvK.start w P Q G h c)
  have HV := Lib.hid (hv.out.below HI0.out.b)
  have HDV := Lib.hid (hd.out.below HI0.out.b)
  have HW := Lib.hid hW
  clear hW hv hd
  go_enter Tryz.func25, Tryz.ntmps25
  go_upto_region 1 with (fail)
  rw [HW.out]
  clear HW
  obtain ⟨g0, g1, g2⟩ := HI0.out.g
  have hq := below_box0 W (.cells #[.int .i64 a, .int .i64 b] 3)
  have HC := Lib.hid (cells2 W 3 a b)
  have HIa := Lib.hid (HI0.out.below hq)
  have HVa := Lib.hid (HV.out.below hq)
  have HBa := Lib.hid hq
  clear hq
  go_wp2_with fail
  refine (eqcheck_any P Q G W.heap.size [a, b] 2 2 (Lib.hid rfl) (by omega) r hck hQ _ HVa HC).mono ?_
  rintro e w1 ⟨rfl, hb1⟩
  have HI1 := Lib.hid (HIa.out.below hb1)
  have HB1 : Hid (Below W.heap.size W w1) := Lib.hid (below_ext HBa.out hb1)
  clear g0 g1 g2 hb1 HC HIa HVa HBa
  go_wp2_with ((with_reducible show wpList _ _ _ (⟨some 28, _, _, _, _, _⟩ :: _) _ _); refine wpList_load_row_g (by rfl) 56 _ rfl (w.heap.size + 1) rfl _ _ _ _ HI1.out.d Tryz.underlying56 rfl (dr_info hl.out) ?_)
  refine (dvalid_any h hl c true hdr _).mono ?_
  rintro e w2 ⟨rfl, hb2⟩
  have HI2 := Lib.hid (HI1.out.below hb2)
  have HB2 : Hid (Below W.heap.size W w2) := Lib.hid (below_ext HB1.out hb2)
  clear hb2
  go_wp2_with fail
  refine (eqright_any s hs true hr _).mono ?_
  rintro e w3 ⟨rfl, rfl⟩
  have HIz := HI2
  obtain ⟨hq, hdd, hd1, hbF⟩ := HIz.out.fail
  have HDz := Lib.hid hd1
  have HPz := Lib.hid HIz.out.p
  have HQF := Lib.hid hq
  have HDF := Lib.hid hdd
  have HBF := Lib.hid hbF
  clear hq hdd hd1 hbF
  obtain ⟨⟨p0, p1, p2⟩, pf0, pf1, pf2⟩ := HPz.out.cells
  go_wp2_with (first
    | ((with_reducible show wpList _ _ _ (⟨some 52, _, _, _, _, _⟩ :: _) _ _); refine wpList_built rfl 56 _ rfl _ builtD ?_)
    | ((with_reducible show wpList _ _ _ (⟨none, _, _, _, _, _⟩ :: _) _ _); refine wpList_store_row rfl 56 _ _ rfl (w.heap.size + 3) (tcs (zer 32) 0) rfl rfl _ _ HDz.out (dr_info rfl) rfl (tcs_one _ _) ?_))
  exact bodyPost_ret (v := PrvE (.agg #[.slice none 0 0, .int .i64 0, .slice none 0 0]) (zer 32) 0 2) (results_cell2_tmp (p := 12) (q := 13) (r := 14) (ty := 28) (ty2 := 56) rfl _ _ ⟨w.heap.size + 2, 0, none⟩ ⟨w.heap.size + 3, 0, none⟩ _ _ _ rfl rfl rfl (run_loadVar_row _ _ _ _ _ _ _ HQF.out Tryz.underlying28 rfl infoP) (run_loadVar_row _ _ _ _ _ _ _ HDF.out Tryz.underlying56 rfl (dr_info rfl))) rfl ⟨rfl, HBF.out⟩
set_option maxHeartbeats 6400000 in
theorem eqp_x (P Q G a b x : Int) (s : ByteArray) (h : List Int) (c : Int) (hs : s.size ≤ 1000) (hl : Hid (h.length = 32)) (hQ : Q < 9223372036854775808) (r : Int) (hr1 : (r == 1) = false) (hck : Hid (chkG P Q G [a, b] = r)) (hdr : Hid (drB c = true)) (hr : Hid (labB (bys s) = true)) (hz : r = 0) (hx : ¬ (0 ≤ x ∧ x < Q)) (w : World) (hv : Hid (Vars w)) (hd : Hid (VarsD w)) :
    Calls Tryz.prog 25 #[gv P Q G, .int .i64 a, .int .i64 b, .int .i64 x, .string s, .agg (tcs h c)] w fun e w' => e = .returned (PrvE (.agg #[.slice none 0 0, .int .i64 0, .slice none 0 0]) (zer 32) 0 2) ∧ Below w.heap.size w w' := by
  subst hz
  obtain ⟨W, hW⟩ : ∃ W, ((((w.alloc (gObj P Q G)).alloc (.cells (tcs h c) 56)).alloc (.cells #[.slice none 0 0, .int .i64 0, .slice none 0 0] 28)).alloc (.cells #[.int .u8 0, .int .u8 0, .int .u8 0, .int .u8 0, .int .u8 0, .int .u8 0, .int .u8 0, .int .u8 0, .int .u8 0, .int .u8 0, .int .u8 0, .int .u8 0, .int .u8 0, .int .u8 0, .int .u8 0, .int .u8 0, .int .u8 0, .int .u8 0, .int .u8 0, .int .u8 0, .int .u8 0, .int .u8 0, .int .u8 0, .int .u8 0, .int .u8 0, .int .u8 0, .int .u8 0, .int .u8 0, .int .u8 0, .int .u8 0, .int .u8 0, .int .u8 0, .int .i64 0] 56)) = W := ⟨_, rfl⟩
  have HI0 : Hid (PvK w P Q G h c W) := Lib.hid (by rw [← hW]; exact PvK.start w P Q G h c)
  have HV := Lib.hid (hv.out.below HI0.out.b)
  have HDV := Lib.hid (hd.out.below HI0.out.b)
  have HW := Lib.hid hW
  clear hW hv hd
  go_enter Tryz.func25, Tryz.ntmps25
  go_upto_region 1 with (fail)
  rw [HW.out]
  clear HW
  obtain ⟨g0, g1, g2⟩ := HI0.out.g
  have hq := below_box0 W (.cells #[.int .i64 a, .int .i64 b] 3)
  have HC := Lib.hid (cells2 W 3 a b)
  have HIa := Lib.hid (HI0.out.below hq)
  have HVa := Lib.hid (HV.out.below hq)
  have HBa := Lib.hid hq
  clear hq
  go_wp2_with fail
  refine (eqcheck_any P Q G W.heap.size [a, b] 2 2 (Lib.hid rfl) (by omega) 0 hck hQ _ HVa HC).mono ?_
  rintro e w1 ⟨rfl, hb1⟩
  have HI1 := Lib.hid (HIa.out.below hb1)
  have HB1 : Hid (Below W.heap.size W w1) := Lib.hid (below_ext HBa.out hb1)
  clear g0 g1 g2 hb1 HC HIa HVa HBa
  go_wp2_with ((with_reducible show wpList _ _ _ (⟨some 28, _, _, _, _, _⟩ :: _) _ _); refine wpList_load_row_g (by rfl) 56 _ rfl (w.heap.size + 1) rfl _ _ _ _ HI1.out.d Tryz.underlying56 rfl (dr_info hl.out) ?_)
  refine (dvalid_any h hl c true hdr _).mono ?_
  rintro e w2 ⟨rfl, hb2⟩
  have HI2 := Lib.hid (HI1.out.below hb2)
  have HB2 : Hid (Below W.heap.size W w2) := Lib.hid (below_ext HB1.out hb2)
  clear hb2
  go_wp2_with fail
  refine (eqright_any s hs true hr _).mono ?_
  rintro e w3 ⟨rfl, rfl⟩
  obtain ⟨g0, g1, g2⟩ := HI2.out.g
  have HIz := HI2
  by_cases x0 : x < 0
  · have d1 : decide (x < 0) = true := by simp; omega
    obtain ⟨hq, hdd, hd1, hbF⟩ := HIz.out.fail
    have HDz := Lib.hid hd1
    have HPz := Lib.hid HIz.out.p
    have HQF := Lib.hid hq
    have HDF := Lib.hid hdd
    have HBF := Lib.hid hbF
    clear hq hdd hd1 hbF
    obtain ⟨⟨p0, p1, p2⟩, pf0, pf1, pf2⟩ := HPz.out.cells
    go_wp2_with (first
      | ((with_reducible show wpList _ _ _ (⟨some 52, _, _, _, _, _⟩ :: _) _ _); refine wpList_built rfl 56 _ rfl _ builtD ?_)
      | ((with_reducible show wpList _ _ _ (⟨none, _, _, _, _, _⟩ :: _) _ _); refine wpList_store_row rfl 56 _ _ rfl (w.heap.size + 3) (tcs (zer 32) 0) rfl rfl _ _ HDz.out (dr_info rfl) rfl (tcs_one _ _) ?_))
    exact bodyPost_ret (v := PrvE (.agg #[.slice none 0 0, .int .i64 0, .slice none 0 0]) (zer 32) 0 2) (results_cell2_tmp (p := 12) (q := 13) (r := 14) (ty := 28) (ty2 := 56) rfl _ _ ⟨w.heap.size + 2, 0, none⟩ ⟨w.heap.size + 3, 0, none⟩ _ _ _ rfl rfl rfl (run_loadVar_row _ _ _ _ _ _ _ HQF.out Tryz.underlying28 rfl infoP) (run_loadVar_row _ _ _ _ _ _ _ HDF.out Tryz.underlying56 rfl (dr_info rfl))) rfl ⟨rfl, HBF.out⟩
  · have d1 : decide (x < 0) = false := by simp; omega
    have d2 : decide (Q ≤ x) = true := by simp; omega
    obtain ⟨hq, hdd, hd1, hbF⟩ := HIz.out.fail
    have HDz := Lib.hid hd1
    have HPz := Lib.hid HIz.out.p
    have HQF := Lib.hid hq
    have HDF := Lib.hid hdd
    have HBF := Lib.hid hbF
    clear hq hdd hd1 hbF
    obtain ⟨⟨p0, p1, p2⟩, pf0, pf1, pf2⟩ := HPz.out.cells
    go_wp2_with (first
      | ((with_reducible show wpList _ _ _ (⟨some 52, _, _, _, _, _⟩ :: _) _ _); refine wpList_built rfl 56 _ rfl _ builtD ?_)
      | ((with_reducible show wpList _ _ _ (⟨none, _, _, _, _, _⟩ :: _) _ _); refine wpList_store_row rfl 56 _ _ rfl (w.heap.size + 3) (tcs (zer 32) 0) rfl rfl _ _ HDz.out (dr_info rfl) rfl (tcs_one _ _) ?_))
    exact bodyPost_ret (v := PrvE (.agg #[.slice none 0 0, .int .i64 0, .slice none 0 0]) (zer 32) 0 2) (results_cell2_tmp (p := 12) (q := 13) (r := 14) (ty := 28) (ty2 := 56) rfl _ _ ⟨w.heap.size + 2, 0, none⟩ ⟨w.heap.size + 3, 0, none⟩ _ _ _ rfl rfl rfl (run_loadVar_row _ _ _ _ _ _ _ HQF.out Tryz.underlying28 rfl infoP) (run_loadVar_row _ _ _ _ _ _ _ HDF.out Tryz.underlying56 rfl (dr_info rfl))) rfl ⟨rfl, HBF.out⟩
end Go.Proofs.YtdlhodbiaoafiaaGreatDoor
namespace Go.Proofs.YtdlhodbiaoafiaaGreatDoor
open Go.RowKit SpM
set_option linter.unusedVariables false
set_option linter.unusedSimpArgs false
set_option maxRecDepth 100000
theorem holdsB_parts' {P Q G : Int} {ys : List Int} {rows : List Row} {xs : List Int} (h : holdsB P Q G ys rows xs = true) : validR P Q G ys rows = true ∧ xs.length = rowN rows ∧ xs.all (scB Q) = true ∧ ((rows.map fun r => prodF P 1 r.xs xs) == ys) = true := by
  simp only [holdsB, Bool.and_eq_true, decide_eq_true_eq] at h
  exact ⟨h.1, h.2.1, h.2.2.1, h.2.2.2⟩
theorem PvI.draw {w : World} {P Q G : Int} {Y : Option Addr} {yn yc : Nat} {B : Option Addr} {bn bc : Nat} {h h' : List Int} {c c' : Int} {u : World} (H : PvI w P Q G Y yn yc B bn bc h c u) : PvI w P Q G Y yn yc B bn bc h' c' (u.setRow (w.heap.size + 2) (tcs h' c')) :=
  ⟨⟨(cell_setRow_other _ _ _ _ (by simp)).trans H.g.1, (cell_setRow_other _ _ _ _ (by simp)).trans H.g.2.1, (cell_setRow_other _ _ _ _ (by simp)).trans H.g.2.2⟩, ⟨(cell_setRow_other _ _ _ _ (by simp)).trans H.r.1, (cell_setRow_other _ _ _ _ (by simp)).trans H.r.2⟩, H.d.setRow, (setRow_other _ _ _ _ (by omega)).trans H.p, (setRow_other _ _ _ _ (by omega)).trans H.e, below_setRow' H.b (by omega), by rw [setRow_size]; exact H.z⟩
set_option maxHeartbeats 12800000 in
theorem lprove_f (P Q G : Int) (Y : Option Addr) (ys : List Int) (yn yc : Nat) (B : Option Addr) (rows : List Row) (bn bc : Nat) (X : Option Addr) (xs : List Int) (xn xc : Nat) (s : ByteArray) (h : List Int) (c : Int) (hyn : Hid (ys.length = yn)) (hbn : Hid (rows.length = bn)) (hxn : Hid (xs.length = xn)) (hxb : xn < 1000000) (hs : s.size ≤ 1000) (hl : Hid (h.length = 32)) (hQ : Q < 9223372036854775808) (hhb : Hid (bytesB h = true)) (hr : Hid (labB (bys s) = true)) (hdr : Hid (drB c = true)) (hck : Hid (chkR P Q G ys rows xs [] = 0)) (hho : Hid (holdsB P Q G ys rows xs = true)) (HST : Hid ((stD h Q c (rowN rows)).2 = true)) (w : World) (hv : Hid (Vars w)) (hd : Hid (VarsD w)) (hY : Hid (Sl w Y ys)) (hB : Hid (Rw w B rows)) (hX : Hid (Sl w X xs)) :
    Calls Tryz.prog 31 #[gv P Q G, .agg #[.slice Y yn yc, .slice B bn bc], .slice X xn xc, .string s, .agg (tcs h c)] w fun e w' => e = .returned (PrvE (.agg #[.slice none 0 0, .int .i64 0, .slice none 0 0]) (zer 32) 0 5) ∧ Below w.heap.size w w' := by
  obtain ⟨W, hW⟩ : ∃ W, (((((w.alloc (gObj P Q G)).alloc (.cells #[.slice Y yn yc, .slice B bn bc] 37)).alloc (.cells (tcs h c) 56)).alloc (.cells #[.slice none 0 0, .int .i64 0, .slice none 0 0] 28)).alloc (.cells #[.int .u8 0, .int .u8 0, .int .u8 0, .int .u8 0, .int .u8 0, .int .u8 0, .int .u8 0, .int .u8 0, .int .u8 0, .int .u8 0, .int .u8 0, .int .u8 0, .int .u8 0, .int .u8 0, .int .u8 0, .int .u8 0, .int .u8 0, .int .u8 0, .int .u8 0, .int .u8 0, .int .u8 0, .int .u8 0, .int .u8 0, .int .u8 0, .int .u8 0, .int .u8 0, .int .u8 0, .int .u8 0, .int .u8 0, .int .u8 0, .int .u8 0, .int .u8 0, .int .i64 0] 56)) = W := ⟨_, rfl⟩
  have HI0 : Hid (PvI w P Q G Y yn yc B bn bc h c W) := Lib.hid (by rw [← hW]; exact PvI.start w P Q G Y yn yc B bn bc h c)
  have HV := Lib.hid (hv.out.below HI0.out.b)
  have HDV := Lib.hid (hd.out.below HI0.out.b)
  have HYY := Lib.hid (hY.out.below HI0.out.b)
  have HBB := Lib.hid (hB.out.below HI0.out.b)
  have HXX := Lib.hid (hX.out.below HI0.out.b)
  have HW := Lib.hid hW
  clear hW hv hd hY hB hX
  go_enter Tryz.func31, Tryz.ntmps31
  go_upto_region 1 with (fail)
  rw [HW.out]
  clear HW
  go_wp2_with fail
  refine (tnew_ok s hs hr _ HDV).mono ?_
  rintro e w1 ⟨rfl, hb1⟩
  have HI1 := Lib.hid (HI0.out.below hb1)
  obtain ⟨S0, hS0⟩ : ∃ S, newL (bys s) = S := ⟨_, rfl⟩
  have HL0 : Hid (S0.length = 32) := Lib.hid (by rw [← hS0]; exact (st_new _).1)
  rw [hS0, show TrE S0 0 0 = .tuple #[.agg (tcs S0 0), .int .i64 0] from rfl]
  have HBW1 := Lib.hid hb1
  clear hb1 hS0
  go_upto_region 3 with ((with_reducible show wpList _ _ _ (⟨none, _, _, _, _, _⟩ :: _) _ _); refine wpList_store_row rfl 85 _ _ rfl w1.heap.size (tcs S0 0) rfl rfl _ _ (heap_alloc_new _ _) (tr_info HL0.out) (tcs_sz (h := zer 32) (c := 0) rfl HL0.out) (tcs_one _ _) ?_)
  rw [World.setRow_alloc_new]
  try simp only [Act.put]
  have HI2 := Lib.hid (HI1.out.below (below_box0 w1 (.cells (tcs S0 0) 85)))
  have HBW2 := Lib.hid (below_ext HBW1.out (below_box0 w1 (.cells (tcs S0 0) 85)))
  obtain ⟨W2, hW2⟩ : ∃ u, w1.alloc (.cells (tcs S0 0) 85) = u := ⟨_, rfl⟩
  rw [hW2] at HI2 HBW2 ⊢
  clear hW2
  go_wp2_with ((with_reducible show wpList _ _ _ (⟨some 28, _, _, _, _, _⟩ :: _) _ _); refine wpList_load_row_g (by rfl) 56 _ rfl (w.heap.size + 2) rfl _ _ _ _ HI2.out.d Tryz.underlying56 rfl (dr_info hl.out) ?_)
  refine (dvalid_any h hl c true hdr _).mono ?_
  rintro e w3 ⟨rfl, hb3⟩
  have HI3 := Lib.hid (HI2.out.below hb3)
  have HBB3 : Hid (Below W.heap.size W w3) := Lib.hid (below_ext HBW2.out hb3)
  clear hb3
  obtain ⟨g0, g1, g2⟩ := HI3.out.g
  obtain ⟨r0, r1⟩ := HI3.out.r
  go_wp2_with fail
  refine (lcheck_any P Q G Y ys yn yc B rows bn bc X xs xn xc none [] 0 0 0 hck hyn hbn hxn hxb (Lib.hid rfl) (by omega) hQ _ (Lib.hid (HV.out.below HBB3.out)) (Lib.hid (HYY.out.below HBB3.out)) (Lib.hid (HBB.out.below HBB3.out)) (Lib.hid (HXX.out.below HBB3.out)) (Lib.hid (sl_nil _))).mono ?_
  rintro e w4 ⟨rfl, hb4⟩
  have HI4 := Lib.hid (HI3.out.below hb4)
  have HBB4 : Hid (Below W.heap.size W w4) := Lib.hid (below_ext HBB3.out hb4)
  clear hb4 g0 g1 g2 r0 r1
  obtain ⟨g0, g1, g2⟩ := HI4.out.g
  obtain ⟨r0, r1⟩ := HI4.out.r
  go_wp2_with fail
  refine (lholds_any P Q G Y ys yn yc B rows bn bc X xs xn xc true hho hyn hbn hxn hxb hQ _ (Lib.hid (HV.out.below HBB4.out)) (Lib.hid (HYY.out.below HBB4.out)) (Lib.hid (HBB.out.below HBB4.out)) (Lib.hid (HXX.out.below HBB4.out))).mono ?_
  rintro e w5 ⟨rfl, hb5⟩
  have HI5 := Lib.hid (HI4.out.below hb5)
  have HBB5 : Hid (Below W.heap.size W w5) := Lib.hid (below_ext HBB4.out hb5)
  clear hb5 g0 g1 g2 r0 r1 HI0 HI1 HI2 HI3 HI4 HBB3 HBB4
  obtain ⟨g0, g1, g2⟩ := HI5.out.g
  obtain ⟨r0, r1⟩ := HI5.out.r
  obtain ⟨nu, hnu⟩ : ∃ k, rowN rows = k := ⟨_, rfl⟩
  have HN := Lib.hid hnu
  rw [hnu] at HST
  obtain ⟨v1, v2, v3, v4, v5, v6, v7, v8⟩ := validR_parts (holdsB_parts' hho.out).1
  obtain ⟨hp2, hp, hq3, hqp⟩ := validG_P v1
  have hxn2 : xs.length = nu := by rw [← hnu]; exact (holdsB_parts' hho.out).2.1
  have hxc := (holdsB_parts' hho.out).2.2.1
  have hn1 : 1 ≤ nu := by rw [← hnu]; exact v6
  have hn12 : nu ≤ 12 := by rw [← hnu]; exact v7
  have hbp : 0 < bn := by rw [← hbn.out]; omega
  have hb8 : bn ≤ 8 := by rw [← hbn.out]; omega
  have HRB : Hid (rows.all (rowB P Q nu) = true) := Lib.hid (by rw [← hnu]; exact v8)
  have HXN : Hid (xs.length = nu) := Lib.hid hxn2
  have HXC := Lib.hid hxc
  have HVG := Lib.hid v1
  have HVR := Lib.hid (holdsB_parts' hho.out).1
  clear hnu v1 v2 v3 v4 v5 v6 v7 v8 hxn2 hxc
  have HId := Lib.hid (HI5.out.below (Below.refl _ _).drew)
  have HBBd : Hid (Below W.heap.size W w5.drew) := Lib.hid (below_ext HBB5.out (Below.refl _ _).drew)
  go_wp2_with fail
  clear g0 g1 g2 r0 r1
  refine wp_region_T (S := fun w' => w'.cell? ⟨w.heap.size, 0, none⟩ = some (.int .i64 P) ∧ w'.cell? ⟨w.heap.size, 1, none⟩ = some (.int .i64 Q) ∧ w'.cell? ⟨w.heap.size, 2, none⟩ = some (.int .i64 G) ∧ w'.cell? ⟨w.heap.size + 1, 0, none⟩ = some (.slice Y yn yc) ∧ w'.cell? ⟨w.heap.size + 1, 1, none⟩ = some (.slice B bn bc)) (E := []) (by kernel_rfl) (by exact ⟨HId.out.g.1, HId.out.g.2.1, HId.out.g.2.2, HId.out.r.1, HId.out.r.2⟩) (fun hHeld => ?_)
  refine wpT_take (i := 1) (oi := _) (v := ?_) rfl (by kernel_rfl) (by kernel_rfl) (by kernel_rfl) (by kernel_rfl) (fun _ _ _ h => h) (Or.inl ⟨by rfl, ?_⟩) (by assumption) ?_
  rotate_left; (intro wS hSw; (try dsimp only at hSw); go_simp <;> with_reducible rfl)
  try simp only [List.getElem_toArray, List.getElem_cons_zero, List.getElem_cons_succ, Act.put, List.setIfInBounds_toArray, List.set_cons_zero, List.set_cons_succ]
  refine wpT_take (i := 2) (oi := _) (v := ?_) rfl (by kernel_rfl) (by kernel_rfl) (by kernel_rfl) (by kernel_rfl) (fun _ _ _ h => h) (Or.inl ⟨by rfl, ?_⟩) (by assumption) ?_
  rotate_left; (intro wS hSw; (try dsimp only at hSw); go_simp <;> with_reducible rfl)
  try simp only [List.getElem_toArray, List.getElem_cons_zero, List.getElem_cons_succ, Act.put, List.setIfInBounds_toArray, List.set_cons_zero, List.set_cons_succ]
  refine wpT_take (i := 3) (oi := _) (v := ?_) rfl (by kernel_rfl) (by kernel_rfl) (by kernel_rfl) (by kernel_rfl) (fun _ _ _ h => h) (Or.inl ⟨by rfl, ?_⟩) (by assumption) ?_
  rotate_left; (intro wS hSw; (try dsimp only at hSw); go_simp <;> with_reducible rfl)
  try simp only [List.getElem_toArray, List.getElem_cons_zero, List.getElem_cons_succ, Act.put, List.setIfInBounds_toArray, List.set_cons_zero, List.set_cons_succ]
  refine wpT_two (i1 := 0) (i2 := 4) (by kernel_rfl) rfl rfl (fun K hK => ?_) (fun K hK => ?_)
  · skip
    rw [show (if Region.wanted _ _ = true then _ else _ : Prop) = _ from if_pos rfl]
    refine wp_load_row 56 _ rfl (w.heap.size + 2) rfl _ _ _ _ HId.out.d Tryz.underlying56 rfl (dr_info hl.out) ?_
    refine hK.out _ _ ?_ (fun hHeld => ?_)
    · exact ⟨HId.out.g.1, HId.out.g.2.1, HId.out.g.2.2, HId.out.r.1, HId.out.r.2⟩
    clear hK K
    try simp only [List.getElem_toArray, List.getElem_cons_zero, List.getElem_cons_succ, Act.put, List.setIfInBounds_toArray, List.set_cons_zero, List.set_cons_succ]
    refine wpT_one (i := 4) (by kernel_rfl) rfl (fun K hK => ?_)
    go_simp
    refine (lunknowns_any Y yn yc B rows bn bc nu hbn hbp HN _ (Lib.hid (HBB.out.below HBBd.out))).mono ?_
    rintro e w6 ⟨rfl, hb6⟩
    have HI6 := Lib.hid (HId.out.below hb6)
    have HBB6 : Hid (Below W.heap.size W w6) := Lib.hid (below_ext HBBd.out hb6)
    clear hb6
    refine hK.out _ _ ?_ (fun hHeld => ?_)
    · exact ⟨HI6.out.g.1, HI6.out.g.2.1, HI6.out.g.2.2, HI6.out.r.1, HI6.out.r.2⟩
    clear hK K
    try simp only [List.getElem_toArray, List.getElem_cons_zero, List.getElem_cons_succ, Act.put, List.setIfInBounds_toArray, List.set_cons_zero, List.set_cons_succ]
    refine wpT_one (i := 5) (by kernel_rfl) rfl (fun K hK => ?_)
    go_simp
    refine (dlist_any h hl hhb c hdr Q (by omega) (by omega) nu (by omega) _ (Lib.hid (HDV.out.below HBB6.out))).mono ?_
    intro e w7 hLO
    unfold LstOut at hLO
    rw [HST.out] at hLO
    rw [if_pos rfl] at hLO
    obtain ⟨rfl, hb7⟩ := hLO
    have HI7 := Lib.hid (HI6.out.below hb7)
    have HBB7 : Hid (Below W.heap.size W w7) := Lib.hid (below_ext HBB6.out hb7)
    clear hb7
    refine hK.out _ _ ?_ (fun hHeld => ?_)
    · exact ⟨HI7.out.g.1, HI7.out.g.2.1, HI7.out.g.2.2, HI7.out.r.1, HI7.out.r.2⟩
    clear hK K
    try simp only [List.getElem_toArray, List.getElem_cons_zero, List.getElem_cons_succ, Act.put, List.setIfInBounds_toArray, List.set_cons_zero, List.set_cons_succ]
    refine wpT_one (i := 6) (by kernel_rfl) rfl (fun K hK => ?_)
    go_simp
    refine hK.out _ _ ?_ (fun hHeld => ?_)
    · exact ⟨HI7.out.g.1, HI7.out.g.2.1, HI7.out.g.2.2, HI7.out.r.1, HI7.out.r.2⟩
    clear hK K
    try simp only [List.getElem_toArray, List.getElem_cons_zero, List.getElem_cons_succ, Act.put, List.setIfInBounds_toArray, List.set_cons_zero, List.set_cons_succ]
    refine wpT_take (i := 7) (oi := _) (v := ?_) rfl (by kernel_rfl) (by kernel_rfl) (by kernel_rfl) (by kernel_rfl) (fun _ _ _ h => h) (Or.inl ⟨by rfl, ?_⟩) (by assumption) ?_
    rotate_left; (intro wS hSw; (try dsimp only at hSw); go_simp <;> with_reducible rfl)
    try simp only [List.getElem_toArray, List.getElem_cons_zero, List.getElem_cons_succ, Act.put, List.setIfInBounds_toArray, List.set_cons_zero, List.set_cons_succ]
    refine wpT_take (i := 8) (oi := _) (v := ?_) rfl (by kernel_rfl) (by kernel_rfl) (by kernel_rfl) (by kernel_rfl) (fun _ _ _ h => h) (Or.inl ⟨by rfl, ?_⟩) (by assumption) ?_
    rotate_left; (intro wS hSw; (try dsimp only at hSw); go_simp <;> with_reducible rfl)
    try simp only [List.getElem_toArray, List.getElem_cons_zero, List.getElem_cons_succ, Act.put, List.setIfInBounds_toArray, List.set_cons_zero, List.set_cons_succ]
    refine wpT_take (i := 9) (oi := _) (v := ?_) rfl (by kernel_rfl) (by kernel_rfl) (by kernel_rfl) (by kernel_rfl) (fun _ _ _ h => h) (Or.inl ⟨by rfl, ?_⟩) (by assumption) ?_
    rotate_left; (intro wS hSw; (try dsimp only at hSw); go_simp <;> with_reducible rfl)
    try simp only [List.getElem_toArray, List.getElem_cons_zero, List.getElem_cons_succ, Act.put, List.setIfInBounds_toArray, List.set_cons_zero, List.set_cons_succ]
    refine wpT_one (i := 10) (by kernel_rfl) rfl (fun K hK => ?_)
    rw [show (if Region.wanted _ _ = true then _ else _ : Prop) = _ from if_pos rfl]
    refine wp_store_row 56 _ _ rfl (w.heap.size + 2) (tcs (zer 32) 0) rfl rfl 56 _ HI7.out.d (dr_info rfl) (tcs_sz hl.out rfl) (tcs_one _ _) ?_
    refine hK.out _ _ ?_ (fun hHeld => ?_)
    · exact ⟨(cell_setRow_other _ _ _ _ (by simp)).trans HI7.out.g.1, (cell_setRow_other _ _ _ _ (by simp)).trans HI7.out.g.2.1, (cell_setRow_other _ _ _ _ (by simp)).trans HI7.out.g.2.2, (cell_setRow_other _ _ _ _ (by simp)).trans HI7.out.r.1, (cell_setRow_other _ _ _ _ (by simp)).trans HI7.out.r.2⟩
    clear hK K
    try simp only [List.getElem_toArray, List.getElem_cons_zero, List.getElem_cons_succ, Act.put, List.setIfInBounds_toArray, List.set_cons_zero, List.set_cons_succ]
    refine wpT_one (i := 11) (by kernel_rfl) rfl (fun K hK => ?_)
    go_simp
    refine hK.out _ _ ?_ (fun hHeld => ?_)
    · exact ⟨(cell_setRow_other _ _ _ _ (by simp)).trans HI7.out.g.1, (cell_setRow_other _ _ _ _ (by simp)).trans HI7.out.g.2.1, (cell_setRow_other _ _ _ _ (by simp)).trans HI7.out.g.2.2, (cell_setRow_other _ _ _ _ (by simp)).trans HI7.out.r.1, (cell_setRow_other _ _ _ _ (by simp)).trans HI7.out.r.2⟩
    clear hK K
    try simp only [List.getElem_toArray, List.getElem_cons_zero, List.getElem_cons_succ, Act.put, List.setIfInBounds_toArray, List.set_cons_zero, List.set_cons_succ]
    refine wpT_one (i := 12) (by kernel_rfl) rfl (fun K hK => ?_)
    go_simp
    refine hK.out _ _ ?_ (fun hHeld => ?_)
    · exact ⟨(cell_setRow_other _ _ _ _ (by simp)).trans HI7.out.g.1, (cell_setRow_other _ _ _ _ (by simp)).trans HI7.out.g.2.1, (cell_setRow_other _ _ _ _ (by simp)).trans HI7.out.g.2.2, (cell_setRow_other _ _ _ _ (by simp)).trans HI7.out.r.1, (cell_setRow_other _ _ _ _ (by simp)).trans HI7.out.r.2⟩
    clear hK K
    try simp only [List.getElem_toArray, List.getElem_cons_zero, List.getElem_cons_succ, Act.put, List.setIfInBounds_toArray, List.set_cons_zero, List.set_cons_succ]
    refine wpT_done (by kernel_rfl) ?_ _
    have HI8 : Hid (PvI w P Q G Y yn yc B bn bc (zer 32) 0 (w7.setRow (w.heap.size + 2) (tcs (zer 32) 0))) := Lib.hid (HI7.out.draw (h' := zer 32) (c' := 0))
    obtain ⟨W8, hW8⟩ : ∃ u, w7.setRow (w.heap.size + 2) (tcs (zer 32) 0) = u := ⟨_, rfl⟩
    rw [hW8] at HI8 ⊢
    clear hW8 HI7 HBB7
    go_wp2_with fail
    refine (lfail_any 5 _).mono ?_
    rintro e w9 ⟨rfl, hb9⟩
    have HIz := Lib.hid (HI8.out.below hb9)
    rw [show PrvE (.agg #[.slice none 0 0, .int .i64 0, .slice none 0 0]) (zer 32) 0 5 = .tuple #[.agg #[.slice none 0 0, .int .i64 0, .slice none 0 0], .agg (tcs (zer 32) 0), .int .i64 5] from rfl]
    clear hb9
    obtain ⟨hq, hdd, hd1, hbF⟩ := HIz.out.fail
    have HDz := Lib.hid hd1
    have HPz := Lib.hid HIz.out.p
    have HQF := Lib.hid hq
    have HDF := Lib.hid hdd
    have HBF := Lib.hid hbF
    clear hq hdd hd1 hbF
    obtain ⟨⟨p0, p1, p2⟩, pf0, pf1, pf2⟩ := HPz.out.cells
    go_wp2_with (first
      | ((with_reducible show wpList _ _ _ (⟨none, _, _, _, _, _⟩ :: _) _ _); refine wpList_store_row rfl 56 _ _ rfl (w.heap.size + 4) (tcs (zer 32) 0) rfl rfl _ _ HDz.out (dr_info rfl) rfl (tcs_one _ _) ?_))
    exact bodyPost_ret (v := PrvE (.agg #[.slice none 0 0, .int .i64 0, .slice none 0 0]) (zer 32) 0 5) (results_cell2_tmp (p := 10) (q := 11) (r := 12) (ty := 28) (ty2 := 56) rfl _ _ ⟨w.heap.size + 3, 0, none⟩ ⟨w.heap.size + 4, 0, none⟩ _ _ _ rfl rfl rfl (run_loadVar_row _ _ _ _ _ _ _ HQF.out Tryz.underlying28 rfl infoP) (run_loadVar_row _ _ _ _ _ _ _ HDF.out Tryz.underlying56 rfl (dr_info rfl))) rfl ⟨rfl, HBF.out⟩
  · skip
    go_simp
    refine (lunknowns_any Y yn yc B rows bn bc nu hbn hbp HN _ (Lib.hid (HBB.out.below HBBd.out))).mono ?_
    rintro e w6 ⟨rfl, hb6⟩
    have HI6 := Lib.hid (HId.out.below hb6)
    have HBB6 : Hid (Below W.heap.size W w6) := Lib.hid (below_ext HBBd.out hb6)
    clear hb6
    refine hK.out _ _ ?_ (fun hHeld => ?_)
    · exact ⟨HI6.out.g.1, HI6.out.g.2.1, HI6.out.g.2.2, HI6.out.r.1, HI6.out.r.2⟩
    clear hK K
    try simp only [List.getElem_toArray, List.getElem_cons_zero, List.getElem_cons_succ, Act.put, List.setIfInBounds_toArray, List.set_cons_zero, List.set_cons_succ]
    refine wpT_one (i := 0) (by kernel_rfl) rfl (fun K hK => ?_)
    rw [show (if Region.wanted _ _ = true then _ else _ : Prop) = _ from if_pos rfl]
    refine wp_load_row 56 _ rfl (w.heap.size + 2) rfl _ _ _ _ HI6.out.d Tryz.underlying56 rfl (dr_info hl.out) ?_
    refine hK.out _ _ ?_ (fun hHeld => ?_)
    · exact ⟨HI6.out.g.1, HI6.out.g.2.1, HI6.out.g.2.2, HI6.out.r.1, HI6.out.r.2⟩
    clear hK K
    try simp only [List.getElem_toArray, List.getElem_cons_zero, List.getElem_cons_succ, Act.put, List.setIfInBounds_toArray, List.set_cons_zero, List.set_cons_succ]
    refine wpT_one (i := 5) (by kernel_rfl) rfl (fun K hK => ?_)
    go_simp
    refine (dlist_any h hl hhb c hdr Q (by omega) (by omega) nu (by omega) _ (Lib.hid (HDV.out.below HBB6.out))).mono ?_
    intro e w7 hLO
    unfold LstOut at hLO
    rw [HST.out] at hLO
    rw [if_pos rfl] at hLO
    obtain ⟨rfl, hb7⟩ := hLO
    have HI7 := Lib.hid (HI6.out.below hb7)
    have HBB7 : Hid (Below W.heap.size W w7) := Lib.hid (below_ext HBB6.out hb7)
    clear hb7
    refine hK.out _ _ ?_ (fun hHeld => ?_)
    · exact ⟨HI7.out.g.1, HI7.out.g.2.1, HI7.out.g.2.2, HI7.out.r.1, HI7.out.r.2⟩
    clear hK K
    try simp only [List.getElem_toArray, List.getElem_cons_zero, List.getElem_cons_succ, Act.put, List.setIfInBounds_toArray, List.set_cons_zero, List.set_cons_succ]
    refine wpT_one (i := 6) (by kernel_rfl) rfl (fun K hK => ?_)
    go_simp
    refine hK.out _ _ ?_ (fun hHeld => ?_)
    · exact ⟨HI7.out.g.1, HI7.out.g.2.1, HI7.out.g.2.2, HI7.out.r.1, HI7.out.r.2⟩
    clear hK K
    try simp only [List.getElem_toArray, List.getElem_cons_zero, List.getElem_cons_succ, Act.put, List.setIfInBounds_toArray, List.set_cons_zero, List.set_cons_succ]
    refine wpT_take (i := 7) (oi := _) (v := ?_) rfl (by kernel_rfl) (by kernel_rfl) (by kernel_rfl) (by kernel_rfl) (fun _ _ _ h => h) (Or.inl ⟨by rfl, ?_⟩) (by assumption) ?_
    rotate_left; (intro wS hSw; (try dsimp only at hSw); go_simp <;> with_reducible rfl)
    try simp only [List.getElem_toArray, List.getElem_cons_zero, List.getElem_cons_succ, Act.put, List.setIfInBounds_toArray, List.set_cons_zero, List.set_cons_succ]
    refine wpT_take (i := 8) (oi := _) (v := ?_) rfl (by kernel_rfl) (by kernel_rfl) (by kernel_rfl) (by kernel_rfl) (fun _ _ _ h => h) (Or.inl ⟨by rfl, ?_⟩) (by assumption) ?_
    rotate_left; (intro wS hSw; (try dsimp only at hSw); go_simp <;> with_reducible rfl)
    try simp only [List.getElem_toArray, List.getElem_cons_zero, List.getElem_cons_succ, Act.put, List.setIfInBounds_toArray, List.set_cons_zero, List.set_cons_succ]
    refine wpT_take (i := 9) (oi := _) (v := ?_) rfl (by kernel_rfl) (by kernel_rfl) (by kernel_rfl) (by kernel_rfl) (fun _ _ _ h => h) (Or.inl ⟨by rfl, ?_⟩) (by assumption) ?_
    rotate_left; (intro wS hSw; (try dsimp only at hSw); go_simp <;> with_reducible rfl)
    try simp only [List.getElem_toArray, List.getElem_cons_zero, List.getElem_cons_succ, Act.put, List.setIfInBounds_toArray, List.set_cons_zero, List.set_cons_succ]
    refine wpT_one (i := 10) (by kernel_rfl) rfl (fun K hK => ?_)
    rw [show (if Region.wanted _ _ = true then _ else _ : Prop) = _ from if_pos rfl]
    refine wp_store_row 56 _ _ rfl (w.heap.size + 2) (tcs (zer 32) 0) rfl rfl 56 _ HI7.out.d (dr_info rfl) (tcs_sz hl.out rfl) (tcs_one _ _) ?_
    refine hK.out _ _ ?_ (fun hHeld => ?_)
    · exact ⟨(cell_setRow_other _ _ _ _ (by simp)).trans HI7.out.g.1, (cell_setRow_other _ _ _ _ (by simp)).trans HI7.out.g.2.1, (cell_setRow_other _ _ _ _ (by simp)).trans HI7.out.g.2.2, (cell_setRow_other _ _ _ _ (by simp)).trans HI7.out.r.1, (cell_setRow_other _ _ _ _ (by simp)).trans HI7.out.r.2⟩
    clear hK K
    try simp only [List.getElem_toArray, List.getElem_cons_zero, List.getElem_cons_succ, Act.put, List.setIfInBounds_toArray, List.set_cons_zero, List.set_cons_succ]
    refine wpT_one (i := 11) (by kernel_rfl) rfl (fun K hK => ?_)
    go_simp
    refine hK.out _ _ ?_ (fun hHeld => ?_)
    · exact ⟨(cell_setRow_other _ _ _ _ (by simp)).trans HI7.out.g.1, (cell_setRow_other _ _ _ _ (by simp)).trans HI7.out.g.2.1, (cell_setRow_other _ _ _ _ (by simp)).trans HI7.out.g.2.2, (cell_setRow_other _ _ _ _ (by simp)).trans HI7.out.r.1, (cell_setRow_other _ _ _ _ (by simp)).trans HI7.out.r.2⟩
    clear hK K
    try simp only [List.getElem_toArray, List.getElem_cons_zero, List.getElem_cons_succ, Act.put, List.setIfInBounds_toArray, List.set_cons_zero, List.set_cons_succ]
    refine wpT_one (i := 12) (by kernel_rfl) rfl (fun K hK => ?_)
    go_simp
    refine hK.out _ _ ?_ (fun hHeld => ?_)
    · exact ⟨(cell_setRow_other _ _ _ _ (by simp)).trans HI7.out.g.1, (cell_setRow_other _ _ _ _ (by simp)).trans HI7.out.g.2.1, (cell_setRow_other _ _ _ _ (by simp)).trans HI7.out.g.2.2, (cell_setRow_other _ _ _ _ (by simp)).trans HI7.out.r.1, (cell_setRow_other _ _ _ _ (by simp)).trans HI7.out.r.2⟩
    clear hK K
    try simp only [List.getElem_toArray, List.getElem_cons_zero, List.getElem_cons_succ, Act.put, List.setIfInBounds_toArray, List.set_cons_zero, List.set_cons_succ]
    refine wpT_done (by kernel_rfl) ?_ _
    have HI8 : Hid (PvI w P Q G Y yn yc B bn bc (zer 32) 0 (w7.setRow (w.heap.size + 2) (tcs (zer 32) 0))) := Lib.hid (HI7.out.draw (h' := zer 32) (c' := 0))
    obtain ⟨W8, hW8⟩ : ∃ u, w7.setRow (w.heap.size + 2) (tcs (zer 32) 0) = u := ⟨_, rfl⟩
    rw [hW8] at HI8 ⊢
    clear hW8 HI7 HBB7
    go_wp2_with fail
    refine (lfail_any 5 _).mono ?_
    rintro e w9 ⟨rfl, hb9⟩
    have HIz := Lib.hid (HI8.out.below hb9)
    rw [show PrvE (.agg #[.slice none 0 0, .int .i64 0, .slice none 0 0]) (zer 32) 0 5 = .tuple #[.agg #[.slice none 0 0, .int .i64 0, .slice none 0 0], .agg (tcs (zer 32) 0), .int .i64 5] from rfl]
    clear hb9
    obtain ⟨hq, hdd, hd1, hbF⟩ := HIz.out.fail
    have HDz := Lib.hid hd1
    have HPz := Lib.hid HIz.out.p
    have HQF := Lib.hid hq
    have HDF := Lib.hid hdd
    have HBF := Lib.hid hbF
    clear hq hdd hd1 hbF
    obtain ⟨⟨p0, p1, p2⟩, pf0, pf1, pf2⟩ := HPz.out.cells
    go_wp2_with (first
      | ((with_reducible show wpList _ _ _ (⟨none, _, _, _, _, _⟩ :: _) _ _); refine wpList_store_row rfl 56 _ _ rfl (w.heap.size + 4) (tcs (zer 32) 0) rfl rfl _ _ HDz.out (dr_info rfl) rfl (tcs_one _ _) ?_))
    exact bodyPost_ret (v := PrvE (.agg #[.slice none 0 0, .int .i64 0, .slice none 0 0]) (zer 32) 0 5) (results_cell2_tmp (p := 10) (q := 11) (r := 12) (ty := 28) (ty2 := 56) rfl _ _ ⟨w.heap.size + 3, 0, none⟩ ⟨w.heap.size + 4, 0, none⟩ _ _ _ rfl rfl rfl (run_loadVar_row _ _ _ _ _ _ _ HQF.out Tryz.underlying28 rfl infoP) (run_loadVar_row _ _ _ _ _ _ _ HDF.out Tryz.underlying56 rfl (dr_info rfl))) rfl ⟨rfl, HBF.out⟩
end Go.Proofs.YtdlhodbiaoafiaaGreatDoor
namespace Go.Proofs.YtdlhodbiaoafiaaGreatDoor
open Go.RowKit SpM
set_option linter.unusedVariables false
set_option linter.unusedSimpArgs false
set_option maxRecDepth 100000
theorem QBlk.set1 {w : World} {b : Nat} {x y z y' : Value} (hh : QBlk w b x y z) : QBlk (w.setCell ⟨b, 1, none⟩ y') b x y' z := by
  unfold QBlk
  rw [heap_setCell_same _ _ _ _ _ _ hh]
  rfl
theorem QBlk.set2 {w : World} {b : Nat} {x y z z' : Value} (hh : QBlk w b x y z) : QBlk (w.setCell ⟨b, 2, none⟩ z') b x y z' := by
  unfold QBlk
  rw [heap_setCell_same _ _ _ _ _ _ hh]
  rfl
theorem sl_set {w : World} {g b j : Nat} {v : Value} {xs : List Int} (h : Sl w (some ⟨g, 0, none⟩) xs) (hne : g ≠ b) : Sl (w.setCell ⟨b, j, none⟩ v) (some ⟨g, 0, none⟩) xs :=
  h.set (fun b' o' e _ => by cases e; exact hne)
theorem sl_far {w w' : World} {g : Nat} {xs : List Int} (h : Sl w (some ⟨g, 0, none⟩) xs) (hb : w'.heap[g]? = w.heap[g]?) : Sl w' (some ⟨g, 0, none⟩) xs := fun k hk => by
  obtain ⟨b, o, e, hc⟩ := h k hk
  cases e
  exact ⟨g, 0, rfl, (World.cell?_of_block hb).trans hc⟩
theorem PvI.belowB {w : World} {P Q G : Int} {Y : Option Addr} {yn yc : Nat} {B : Option Addr} {bn bc : Nat} {h : List Int} {c : Int} {u u' : World} (H : PvI w P Q G Y yn yc B bn bc h c u) (hb : Below (w.heap.size + 5) u u') : PvI w P Q G Y yn yc B bn bc h c u' :=
  ⟨⟨(hb.cell (p := ⟨w.heap.size, 0, none⟩) (by simp)).trans H.g.1, (hb.cell (p := ⟨w.heap.size, 1, none⟩) (by simp)).trans H.g.2.1, (hb.cell (p := ⟨w.heap.size, 2, none⟩) (by simp)).trans H.g.2.2⟩,
   ⟨(hb.cell (p := ⟨w.heap.size + 1, 0, none⟩) (by simp)).trans H.r.1, (hb.cell (p := ⟨w.heap.size + 1, 1, none⟩) (by simp)).trans H.r.2⟩,
   (hb.block _ (by omega)).trans H.d, (hb.block _ (by omega)).trans H.p, (hb.block _ (by omega)).trans H.e, H.b.trans (hb.mono (by omega)), Nat.le_trans H.z hb.size⟩
/-- what linear.Prove answers, in new places. -/
def ProvOutF (P Q G : Int) (lb ys : List Int) (rows : List Row) (ks xs : List Int) (bn : Nat) (h : List Int) (c2 : Int) (w : World) (e : Ending) (w' : World) : Prop :=
  ∃ g ca g' cz V, Kp (chalV P Q G lb ys rows (rows.map fun r => prodF P 1 r.xs ks) = V) ∧ e = .returned (PrvE (.agg #[.slice (some ⟨g, 0, none⟩) bn ca, .int .i64 V, .slice (some ⟨g', 0, none⟩) (rowN rows) cz]) h c2 0) ∧ w.heap.size ≤ g ∧ w.heap.size ≤ g' ∧ Sl w' (some ⟨g, 0, none⟩) (rows.map fun r => prodF P 1 r.xs ks) ∧ Sl w' (some ⟨g', 0, none⟩) (rspL Q V ks xs (rowN rows)) ∧ Below w.heap.size w w'
/-- what linear.Prove answers. -/
def ProvOut (P Q G : Int) (lb ys : List Int) (rows : List Row) (ks xs : List Int) (bn : Nat) (h : List Int) (c2 : Int) (w : World) (e : Ending) (w' : World) : Prop :=
  ∃ A ca Z cz V, Kp (chalV P Q G lb ys rows (rows.map fun r => prodF P 1 r.xs ks) = V) ∧ e = .returned (PrvE (.agg #[.slice A bn ca, .int .i64 V, .slice Z (rowN rows) cz]) h c2 0) ∧ Sl w' A (rows.map fun r => prodF P 1 r.xs ks) ∧ Sl w' Z (rspL Q V ks xs (rowN rows)) ∧ Below w.heap.size w w'
set_option maxHeartbeats 25600000 in
theorem lprove_oF (P Q G : Int) (Y : Option Addr) (ys : List Int) (yn yc : Nat) (B : Option Addr) (rows : List Row) (bn bc : Nat) (X : Option Addr) (xs : List Int) (xn xc : Nat) (s : ByteArray) (h : List Int) (c : Int) (hyn : Hid (ys.length = yn)) (hbn : Hid (rows.length = bn)) (hxn : Hid (xs.length = xn)) (hxb : xn < 1000000) (hs : s.size ≤ 1000) (hl : Hid (h.length = 32)) (hQ : Q < 9223372036854775808) (hhb : Hid (bytesB h = true)) (hr : Hid (labB (bys s) = true)) (hdr : Hid (drB c = true)) (hck : Hid (chkR P Q G ys rows xs [] = 0)) (hho : Hid (holdsB P Q G ys rows xs = true)) (HST : Hid ((stD h Q c (rowN rows)).2 = false)) (c2 : Int) (hc2 : Hid ((stD h Q c (rowN rows)).1 = c2)) (ks : List Int) (hks : Hid (lstD h Q c (rowN rows) = ks)) (w : World) (hv : Hid (Vars w)) (hd : Hid (VarsD w)) (hY : Hid (Sl w Y ys)) (hB : Hid (Rw w B rows)) (hX : Hid (Sl w X xs)) :
    Calls Tryz.prog 31 #[gv P Q G, .agg #[.slice Y yn yc, .slice B bn bc], .slice X xn xc, .string s, .agg (tcs h c)] w (ProvOutF P Q G (bys s) ys rows ks xs bn h c2 w) := by
  obtain ⟨W, hW⟩ : ∃ W, (((((w.alloc (gObj P Q G)).alloc (.cells #[.slice Y yn yc, .slice B bn bc] 37)).alloc (.cells (tcs h c) 56)).alloc (.cells #[.slice none 0 0, .int .i64 0, .slice none 0 0] 28)).alloc (.cells #[.int .u8 0, .int .u8 0, .int .u8 0, .int .u8 0, .int .u8 0, .int .u8 0, .int .u8 0, .int .u8 0, .int .u8 0, .int .u8 0, .int .u8 0, .int .u8 0, .int .u8 0, .int .u8 0, .int .u8 0, .int .u8 0, .int .u8 0, .int .u8 0, .int .u8 0, .int .u8 0, .int .u8 0, .int .u8 0, .int .u8 0, .int .u8 0, .int .u8 0, .int .u8 0, .int .u8 0, .int .u8 0, .int .u8 0, .int .u8 0, .int .u8 0, .int .u8 0, .int .i64 0] 56)) = W := ⟨_, rfl⟩
  have HI0 : Hid (PvI w P Q G Y yn yc B bn bc h c W) := Lib.hid (by rw [← hW]; exact PvI.start w P Q G Y yn yc B bn bc h c)
  have HV := Lib.hid (hv.out.below HI0.out.b)
  have HDV := Lib.hid (hd.out.below HI0.out.b)
  have HYY := Lib.hid (hY.out.below HI0.out.b)
  have HBB := Lib.hid (hB.out.below HI0.out.b)
  have HXX := Lib.hid (hX.out.below HI0.out.b)
  have HW := Lib.hid hW
  clear hW
  go_enter Tryz.func31, Tryz.ntmps31
  go_upto_region 1 with (fail)
  rw [HW.out]
  clear HW
  go_wp2_with fail
  refine (tnew_ok s hs hr _ HDV).mono ?_
  rintro e w1 ⟨rfl, hb1⟩
  have HI1 := Lib.hid (HI0.out.below hb1)
  obtain ⟨S0, hS0⟩ : ∃ S, newL (bys s) = S := ⟨_, rfl⟩
  have HL0 : Hid (S0.length = 32) := Lib.hid (by rw [← hS0]; exact (st_new _).1)
  rw [hS0, show TrE S0 0 0 = .tuple #[.agg (tcs S0 0), .int .i64 0] from rfl]
  have HBW1 := Lib.hid hb1
  clear hb1 hS0
  go_upto_region 3 with ((with_reducible show wpList _ _ _ (⟨none, _, _, _, _, _⟩ :: _) _ _); refine wpList_store_row rfl 85 _ _ rfl w1.heap.size (tcs S0 0) rfl rfl _ _ (heap_alloc_new _ _) (tr_info HL0.out) (tcs_sz (h := zer 32) (c := 0) rfl HL0.out) (tcs_one _ _) ?_)
  rw [World.setRow_alloc_new]
  try simp only [Act.put]
  have HI2 := Lib.hid (HI1.out.below (below_box0 w1 (.cells (tcs S0 0) 85)))
  have HBW2 := Lib.hid (below_ext HBW1.out (below_box0 w1 (.cells (tcs S0 0) 85)))
  obtain ⟨W2, hW2⟩ : ∃ u, w1.alloc (.cells (tcs S0 0) 85) = u := ⟨_, rfl⟩
  rw [hW2] at HI2 HBW2 ⊢
  clear hW2
  go_wp2_with ((with_reducible show wpList _ _ _ (⟨some 28, _, _, _, _, _⟩ :: _) _ _); refine wpList_load_row_g (by rfl) 56 _ rfl (w.heap.size + 2) rfl _ _ _ _ HI2.out.d Tryz.underlying56 rfl (dr_info hl.out) ?_)
  refine (dvalid_any h hl c true hdr _).mono ?_
  rintro e w3 ⟨rfl, hb3⟩
  have HI3 := Lib.hid (HI2.out.below hb3)
  have HBB3 : Hid (Below W.heap.size W w3) := Lib.hid (below_ext HBW2.out hb3)
  clear hb3
  obtain ⟨g0, g1, g2⟩ := HI3.out.g
  obtain ⟨r0, r1⟩ := HI3.out.r
  go_wp2_with fail
  refine (lcheck_any P Q G Y ys yn yc B rows bn bc X xs xn xc none [] 0 0 0 hck hyn hbn hxn hxb (Lib.hid rfl) (by omega) hQ _ (Lib.hid (HV.out.below HBB3.out)) (Lib.hid (HYY.out.below HBB3.out)) (Lib.hid (HBB.out.below HBB3.out)) (Lib.hid (HXX.out.below HBB3.out)) (Lib.hid (sl_nil _))).mono ?_
  rintro e w4 ⟨rfl, hb4⟩
  have HI4 := Lib.hid (HI3.out.below hb4)
  have HBB4 : Hid (Below W.heap.size W w4) := Lib.hid (below_ext HBB3.out hb4)
  clear hb4 g0 g1 g2 r0 r1
  obtain ⟨g0, g1, g2⟩ := HI4.out.g
  obtain ⟨r0, r1⟩ := HI4.out.r
  go_wp2_with fail
  refine (lholds_any P Q G Y ys yn yc B rows bn bc X xs xn xc true hho hyn hbn hxn hxb hQ _ (Lib.hid (HV.out.below HBB4.out)) (Lib.hid (HYY.out.below HBB4.out)) (Lib.hid (HBB.out.below HBB4.out)) (Lib.hid (HXX.out.below HBB4.out))).mono ?_
  rintro e w5 ⟨rfl, hb5⟩
  have HI5 := Lib.hid (HI4.out.below hb5)
  have HBB5 : Hid (Below W.heap.size W w5) := Lib.hid (below_ext HBB4.out hb5)
  clear hb5 g0 g1 g2 r0 r1 HI0 HI1 HI2 HI3 HI4 HBB3 HBB4
  obtain ⟨g0, g1, g2⟩ := HI5.out.g
  obtain ⟨r0, r1⟩ := HI5.out.r
  obtain ⟨nu, hnu⟩ : ∃ k, rowN rows = k := ⟨_, rfl⟩
  have HN := Lib.hid hnu
  rw [hnu] at HST hc2 hks
  have HC2 := hc2
  have HKS := hks
  obtain ⟨v1, v2, v3, v4, v5, v6, v7, v8⟩ := validR_parts (holdsB_parts' hho.out).1
  obtain ⟨hp2, hp, hq3, hqp⟩ := validG_P v1
  have hxn2 : xs.length = nu := by rw [← hnu]; exact (holdsB_parts' hho.out).2.1
  have hxc := (holdsB_parts' hho.out).2.2.1
  have hn1 : 1 ≤ nu := by rw [← hnu]; exact v6
  have hn12 : nu ≤ 12 := by rw [← hnu]; exact v7
  have hbp : 0 < bn := by rw [← hbn.out]; omega
  have hb8 : bn ≤ 8 := by rw [← hbn.out]; omega
  have HRB : Hid (rows.all (rowB P Q nu) = true) := Lib.hid (by rw [← hnu]; exact v8)
  have HXN : Hid (xs.length = nu) := Lib.hid hxn2
  have HXC := Lib.hid hxc
  have HVG := Lib.hid v1
  have HVR := Lib.hid (holdsB_parts' hho.out).1
  clear hnu v1 v2 v3 v4 v5 v6 v7 v8 hxn2 hxc
  have HId := Lib.hid (HI5.out.below (Below.refl _ _).drew)
  have HBBd : Hid (Below W.heap.size W w5.drew) := Lib.hid (below_ext HBB5.out (Below.refl _ _).drew)
  go_wp2_with fail
  clear g0 g1 g2 r0 r1
  refine wp_region_T (S := fun w' => w'.cell? ⟨w.heap.size, 0, none⟩ = some (.int .i64 P) ∧ w'.cell? ⟨w.heap.size, 1, none⟩ = some (.int .i64 Q) ∧ w'.cell? ⟨w.heap.size, 2, none⟩ = some (.int .i64 G) ∧ w'.cell? ⟨w.heap.size + 1, 0, none⟩ = some (.slice Y yn yc) ∧ w'.cell? ⟨w.heap.size + 1, 1, none⟩ = some (.slice B bn bc)) (E := []) (by kernel_rfl) (by exact ⟨HId.out.g.1, HId.out.g.2.1, HId.out.g.2.2, HId.out.r.1, HId.out.r.2⟩) (fun hHeld => ?_)
  refine wpT_take (i := 1) (oi := _) (v := ?_) rfl (by kernel_rfl) (by kernel_rfl) (by kernel_rfl) (by kernel_rfl) (fun _ _ _ h => h) (Or.inl ⟨by rfl, ?_⟩) (by assumption) ?_
  rotate_left; (intro wS hSw; (try dsimp only at hSw); go_simp <;> with_reducible rfl)
  try simp only [List.getElem_toArray, List.getElem_cons_zero, List.getElem_cons_succ, Act.put, List.setIfInBounds_toArray, List.set_cons_zero, List.set_cons_succ]
  refine wpT_take (i := 2) (oi := _) (v := ?_) rfl (by kernel_rfl) (by kernel_rfl) (by kernel_rfl) (by kernel_rfl) (fun _ _ _ h => h) (Or.inl ⟨by rfl, ?_⟩) (by assumption) ?_
  rotate_left; (intro wS hSw; (try dsimp only at hSw); go_simp <;> with_reducible rfl)
  try simp only [List.getElem_toArray, List.getElem_cons_zero, List.getElem_cons_succ, Act.put, List.setIfInBounds_toArray, List.set_cons_zero, List.set_cons_succ]
  refine wpT_take (i := 3) (oi := _) (v := ?_) rfl (by kernel_rfl) (by kernel_rfl) (by kernel_rfl) (by kernel_rfl) (fun _ _ _ h => h) (Or.inl ⟨by rfl, ?_⟩) (by assumption) ?_
  rotate_left; (intro wS hSw; (try dsimp only at hSw); go_simp <;> with_reducible rfl)
  try simp only [List.getElem_toArray, List.getElem_cons_zero, List.getElem_cons_succ, Act.put, List.setIfInBounds_toArray, List.set_cons_zero, List.set_cons_succ]
  refine wpT_two (i1 := 0) (i2 := 4) (by kernel_rfl) rfl rfl (fun K hK => ?_) (fun K hK => ?_)
  · skip
    rw [show (if Region.wanted _ _ = true then _ else _ : Prop) = _ from if_pos rfl]
    refine wp_load_row 56 _ rfl (w.heap.size + 2) rfl _ _ _ _ HId.out.d Tryz.underlying56 rfl (dr_info hl.out) ?_
    refine hK.out _ _ ?_ (fun hHeld => ?_)
    · exact ⟨HId.out.g.1, HId.out.g.2.1, HId.out.g.2.2, HId.out.r.1, HId.out.r.2⟩
    clear hK K
    try simp only [List.getElem_toArray, List.getElem_cons_zero, List.getElem_cons_succ, Act.put, List.setIfInBounds_toArray, List.set_cons_zero, List.set_cons_succ]
    refine wpT_one (i := 4) (by kernel_rfl) rfl (fun K hK => ?_)
    go_simp
    refine (lunknowns_any Y yn yc B rows bn bc nu hbn hbp HN _ (Lib.hid (HBB.out.below HBBd.out))).mono ?_
    rintro e w6 ⟨rfl, hb6⟩
    have HI6 := Lib.hid (HId.out.below hb6)
    have HBB6 : Hid (Below W.heap.size W w6) := Lib.hid (below_ext HBBd.out hb6)
    clear hb6
    refine hK.out _ _ ?_ (fun hHeld => ?_)
    · exact ⟨HI6.out.g.1, HI6.out.g.2.1, HI6.out.g.2.2, HI6.out.r.1, HI6.out.r.2⟩
    clear hK K
    try simp only [List.getElem_toArray, List.getElem_cons_zero, List.getElem_cons_succ, Act.put, List.setIfInBounds_toArray, List.set_cons_zero, List.set_cons_succ]
    refine wpT_one (i := 5) (by kernel_rfl) rfl (fun K hK => ?_)
    go_simp
    refine (dlist_any h hl hhb c hdr Q (by omega) (by omega) nu (by omega) _ (Lib.hid (HDV.out.below HBB6.out))).mono ?_
    intro e w7 hLO
    unfold LstOut at hLO
    rw [HST.out] at hLO
    rw [if_neg (by decide)] at hLO
    obtain ⟨v7, rfl, ho7, hb7⟩ := hLO
    have HI7 := Lib.hid (HI6.out.below hb7)
    have HBB7 : Hid (Below W.heap.size W w7) := Lib.hid (below_ext HBB6.out hb7)
    have HZ6 : Hid (w.heap.size + 5 ≤ w6.heap.size) := Lib.hid HI6.out.z
    rw [HKS.out] at ho7
    have HO7 := Lib.hid ho7
    rw [HC2.out]
    clear hb7 ho7
    refine hK.out _ _ ?_ (fun hHeld => ?_)
    · exact ⟨HI7.out.g.1, HI7.out.g.2.1, HI7.out.g.2.2, HI7.out.r.1, HI7.out.r.2⟩
    clear hK K
    try simp only [List.getElem_toArray, List.getElem_cons_zero, List.getElem_cons_succ, Act.put, List.setIfInBounds_toArray, List.set_cons_zero, List.set_cons_succ]
    refine wpT_one (i := 6) (by kernel_rfl) rfl (fun K hK => ?_)
    go_simp
    refine hK.out _ _ ?_ (fun hHeld => ?_)
    · exact ⟨HI7.out.g.1, HI7.out.g.2.1, HI7.out.g.2.2, HI7.out.r.1, HI7.out.r.2⟩
    clear hK K
    try simp only [List.getElem_toArray, List.getElem_cons_zero, List.getElem_cons_succ, Act.put, List.setIfInBounds_toArray, List.set_cons_zero, List.set_cons_succ]
    refine wpT_take (i := 7) (oi := _) (v := ?_) rfl (by kernel_rfl) (by kernel_rfl) (by kernel_rfl) (by kernel_rfl) (fun _ _ _ h => h) (Or.inl ⟨by rfl, ?_⟩) (by assumption) ?_
    rotate_left; (intro wS hSw; (try dsimp only at hSw); go_simp <;> with_reducible rfl)
    try simp only [List.getElem_toArray, List.getElem_cons_zero, List.getElem_cons_succ, Act.put, List.setIfInBounds_toArray, List.set_cons_zero, List.set_cons_succ]
    refine wpT_take (i := 8) (oi := _) (v := ?_) rfl (by kernel_rfl) (by kernel_rfl) (by kernel_rfl) (by kernel_rfl) (fun _ _ _ h => h) (Or.inl ⟨by rfl, ?_⟩) (by assumption) ?_
    rotate_left; (intro wS hSw; (try dsimp only at hSw); go_simp <;> with_reducible rfl)
    try simp only [List.getElem_toArray, List.getElem_cons_zero, List.getElem_cons_succ, Act.put, List.setIfInBounds_toArray, List.set_cons_zero, List.set_cons_succ]
    refine wpT_take (i := 9) (oi := _) (v := ?_) rfl (by kernel_rfl) (by kernel_rfl) (by kernel_rfl) (by kernel_rfl) (fun _ _ _ h => h) (Or.inl ⟨by rfl, ?_⟩) (by assumption) ?_
    rotate_left; (intro wS hSw; (try dsimp only at hSw); go_simp <;> with_reducible rfl)
    try simp only [List.getElem_toArray, List.getElem_cons_zero, List.getElem_cons_succ, Act.put, List.setIfInBounds_toArray, List.set_cons_zero, List.set_cons_succ]
    refine wpT_one (i := 10) (by kernel_rfl) rfl (fun K hK => ?_)
    rw [show (if Region.wanted _ _ = true then _ else _ : Prop) = _ from if_pos rfl]
    refine wp_store_row 56 _ _ rfl (w.heap.size + 2) (tcs h c2) rfl rfl 56 _ HI7.out.d (dr_info hl.out) (tcs_sz hl.out hl.out) (tcs_one _ _) ?_
    refine hK.out _ _ ?_ (fun hHeld => ?_)
    · exact ⟨(cell_setRow_other _ _ _ _ (by simp)).trans HI7.out.g.1, (cell_setRow_other _ _ _ _ (by simp)).trans HI7.out.g.2.1, (cell_setRow_other _ _ _ _ (by simp)).trans HI7.out.g.2.2, (cell_setRow_other _ _ _ _ (by simp)).trans HI7.out.r.1, (cell_setRow_other _ _ _ _ (by simp)).trans HI7.out.r.2⟩
    clear hK K
    try simp only [List.getElem_toArray, List.getElem_cons_zero, List.getElem_cons_succ, Act.put, List.setIfInBounds_toArray, List.set_cons_zero, List.set_cons_succ]
    refine wpT_one (i := 11) (by kernel_rfl) rfl (fun K hK => ?_)
    go_simp
    refine hK.out _ _ ?_ (fun hHeld => ?_)
    · exact ⟨(cell_setRow_other _ _ _ _ (by simp)).trans HI7.out.g.1, (cell_setRow_other _ _ _ _ (by simp)).trans HI7.out.g.2.1, (cell_setRow_other _ _ _ _ (by simp)).trans HI7.out.g.2.2, (cell_setRow_other _ _ _ _ (by simp)).trans HI7.out.r.1, (cell_setRow_other _ _ _ _ (by simp)).trans HI7.out.r.2⟩
    clear hK K
    try simp only [List.getElem_toArray, List.getElem_cons_zero, List.getElem_cons_succ, Act.put, List.setIfInBounds_toArray, List.set_cons_zero, List.set_cons_succ]
    refine wpT_one (i := 12) (by kernel_rfl) rfl (fun K hK => ?_)
    go_simp
    refine hK.out _ _ ?_ (fun hHeld => ?_)
    · exact ⟨(cell_setRow_other _ _ _ _ (by simp)).trans HI7.out.g.1, (cell_setRow_other _ _ _ _ (by simp)).trans HI7.out.g.2.1, (cell_setRow_other _ _ _ _ (by simp)).trans HI7.out.g.2.2, (cell_setRow_other _ _ _ _ (by simp)).trans HI7.out.r.1, (cell_setRow_other _ _ _ _ (by simp)).trans HI7.out.r.2⟩
    clear hK K
    try simp only [List.getElem_toArray, List.getElem_cons_zero, List.getElem_cons_succ, Act.put, List.setIfInBounds_toArray, List.set_cons_zero, List.set_cons_succ]
    refine wpT_done (by kernel_rfl) ?_ _
    have HI8 : Hid (PvI w P Q G Y yn yc B bn bc h c2 (w7.setRow (w.heap.size + 2) (tcs h c2))) := Lib.hid (HI7.out.draw (h' := h) (c' := c2))
    have HKL : Hid (ks.length = nu) := Lib.hid (by rw [← HKS.out]; exact lstD_len _ _ _ _)
    have HKC : Hid (ks.all (scB Q) = true) := Lib.hid (by rw [← HKS.out]; exact lstD_sc (by omega) _)
    have HO8 : Hid (OwnL (w7.setRow (w.heap.size + 2) (tcs h c2)) w6.heap.size v7 ks) := Lib.hid (World.ownsRow.kept HO7.out (grown_setRow _ _ _) (Or.inr (fun e => by have := (World.ownsRow.lt HO7.out _ e).1; have := HZ6.out; omega)))
    obtain ⟨W8, hW8⟩ : ∃ u, w7.setRow (w.heap.size + 2) (tcs h c2) = u := ⟨_, rfl⟩
    rw [hW8] at HI8 HO8 ⊢
    obtain ⟨g7, cap7, hv7, hg7, hc7⟩ := OwnL.cells HO8.out (by rw [HKL.out]; omega)
    rw [HKL.out] at hv7
    subst hv7
    have HK8 : Hid (Sl W8 (some ⟨g7, 0, none⟩) ks) := Lib.hid (sl_of_cells hc7)
    have HG7 : Hid (g7 < W8.heap.size) := Lib.hid (World.block_lt_of_cell? _ _ (hc7 0 (by rw [HKL.out]; omega)))
    clear hW8 HI7 HBB7 HO7 HO8 hg7 hc7 HI6 HBB6
    obtain ⟨g0, g1, g2⟩ := HI8.out.g
    obtain ⟨r0, r1⟩ := HI8.out.r
    go_wp2_with fail
    refine (lproducts_any P Q G B rows bn bc (some ⟨g7, 0, none⟩) ks nu cap7 hbn HKL (by omega) (by omega) HRB HKC hp2 hp hQ _ (Lib.hid (hB.out.below HI8.out.b)) HK8).mono ?_
    intro e w9 hL9
    obtain ⟨v9, rfl, ho9, hb9⟩ := hL9
    obtain ⟨al, hal⟩ : ∃ al, (rows.map fun r => prodF P 1 r.xs ks) = al := ⟨_, rfl⟩
    have HALL : Hid (al.length = bn) := Lib.hid (by rw [← hal, List.length_map]; exact hbn.out)
    have HAOK : Hid (okL al) := Lib.hid (by
      refine ⟨by rw [HALL.out]; omega, fun x hx => ?_⟩
      rw [← hal] at hx
      obtain ⟨r, _, rfl⟩ := List.mem_map.1 hx
      have := prodF_in hp2 r.xs ks 1 (by omega) (by omega)
      omega)
    rw [hal] at ho9
    obtain ⟨g9, cap9, hv9, hg9, hc9⟩ := OwnL.cells ho9 (by rw [HALL.out]; exact hbp)
    rw [HALL.out] at hv9
    subst hv9
    have HAL := Lib.hid hal
    have HA9 : Hid (Sl w9 (some ⟨g9, 0, none⟩) al) := Lib.hid (sl_of_cells hc9)
    have HG9 : Hid (g9 < w9.heap.size) := Lib.hid (World.block_lt_of_cell? _ _ (hc9 0 (by rw [HALL.out]; exact hbp)))
    have HI9 := Lib.hid (HI8.out.below hb9)
    have HK9 := Lib.hid (HK8.out.below hb9)
    have HG79 : Hid (g7 < w9.heap.size) := Lib.hid (Nat.lt_of_lt_of_le HG7.out hb9.size)
    have HG9g : Hid (w.heap.size + 5 ≤ g9) := Lib.hid (by have := HI8.out.z; omega)
    clear hal ho9 hg9 hc9 hb9 g0 g1 g2 r0 r1 HI8 HK8 HG7
    go_upto_region 14 with (fail)
    have HQ10 : Hid (QBlk (w9.alloc (.cells #[.slice (some ⟨g9, 0, none⟩) bn cap9, .int .i64 0, .slice none 0 0] 28)) w9.heap.size (.slice (some ⟨g9, 0, none⟩) bn cap9) (.int .i64 0) (.slice none 0 0)) := Lib.hid (heap_alloc_new _ _)
    have HI10 := Lib.hid (HI9.out.below (below_box0 w9 (.cells #[.slice (some ⟨g9, 0, none⟩) bn cap9, .int .i64 0, .slice none 0 0] 28)))
    have HK10 := Lib.hid (HK9.out.below (below_box0 w9 (.cells #[.slice (some ⟨g9, 0, none⟩) bn cap9, .int .i64 0, .slice none 0 0] 28)))
    have HA10 := Lib.hid (HA9.out.below (below_box0 w9 (.cells #[.slice (some ⟨g9, 0, none⟩) bn cap9, .int .i64 0, .slice none 0 0] 28)))
    have HZb : Hid (w.heap.size + 5 ≤ w9.heap.size) := Lib.hid HI9.out.z
    obtain ⟨W10, hW10⟩ : ∃ u, w9.alloc (.cells #[.slice (some ⟨g9, 0, none⟩) bn cap9, .int .i64 0, .slice none 0 0] 28) = u := ⟨_, rfl⟩
    rw [hW10] at HQ10 HI10 HK10 HA10 ⊢
    obtain ⟨b, hbb⟩ : ∃ b, w9.heap.size = b := ⟨_, rfl⟩
    rw [hbb] at HQ10 HZb HG9 HG79 ⊢
    clear hW10 hbb HI9 HK9 HA9
    obtain ⟨g0, g1, g2⟩ := HI10.out.g
    obtain ⟨r0, r1⟩ := HI10.out.r
    obtain ⟨⟨p0, p1, p2⟩, -⟩ := HQ10.out.cells
    obtain ⟨okg, oky, okr⟩ := valid_ok HVR.out hB.out
    have HOKG := Lib.hid okg
    have HOKY := Lib.hid oky
    have HOKR := Lib.hid okr
    obtain ⟨V, hV⟩ : ∃ V, chalV P Q G (bys s) ys rows al = V := ⟨_, rfl⟩
    have hVlo : 0 ≤ V ∧ V < Q := by rw [← hV]; exact chalV_lo (by omega) _ _ _ _
    obtain ⟨hV0, hV1⟩ := hVlo
    have HVV : Kp (chalV P Q G (bys s) ys rows al = V) := ⟨hV⟩
    clear hV okg oky okr
    go_wp2_with fail
    refine (lchal_ok P Q G Y ys yn yc B rows bn bc (some ⟨g9, 0, none⟩) al bn cap9 s hs hr hyn hbn HALL (by omega) HOKG HOKY HAOK HOKR (by omega) (by omega) V HVV _ (Lib.hid (hd.out.below HI10.out.b)) (Lib.hid (hY.out.below HI10.out.b)) (Lib.hid (hB.out.below HI10.out.b)) HA10).mono ?_
    rintro e w11 ⟨rfl, hb11⟩
    have HI11 := Lib.hid (HI10.out.below hb11)
    have HQ11 := Lib.hid (HQ10.out.below hb11)
    have HK11 := Lib.hid (HK10.out.below hb11)
    have HA11 := Lib.hid (HA10.out.below hb11)
    clear hb11 g0 g1 g2 r0 r1 p0 p1 p2 HI10 HQ10 HK10 HA10
    obtain ⟨⟨p0, p1, p2⟩, pf0, pf1, pf2⟩ := HQ11.out.cells
    go_upto_region 15 with (fail)
    clear p0 p1 p2 pf0 pf1 pf2
    have HQ12 : Hid (QBlk (w11.setCell ⟨b, 1, none⟩ (.int .i64 V)) b (.slice (some ⟨g9, 0, none⟩) bn cap9) (.int .i64 V) (.slice none 0 0)) := Lib.hid HQ11.out.set1
    have HI12 := Lib.hid (HI11.out.belowB (((Below.refl _ _).setCell HZb.out _) : Below (w.heap.size + 5) w11 (w11.setCell ⟨b, 1, none⟩ (.int .i64 V))))
    have HK12 : Hid (Sl (w11.setCell ⟨b, 1, none⟩ (.int .i64 V)) (some ⟨g7, 0, none⟩) ks) := Lib.hid (sl_set HK11.out (by have := HG79.out; omega))
    have HA12 : Hid (Sl (w11.setCell ⟨b, 1, none⟩ (.int .i64 V)) (some ⟨g9, 0, none⟩) al) := Lib.hid (sl_set HA11.out (by have := HG9.out; omega))
    obtain ⟨W12, hW12⟩ : ∃ u, w11.setCell ⟨b, 1, none⟩ (.int .i64 V) = u := ⟨_, rfl⟩
    rw [hW12] at HQ12 HI12 HK12 HA12 ⊢
    clear hW12 HI11 HQ11 HK11 HA11
    obtain ⟨g0, g1, g2⟩ := HI12.out.g
    obtain ⟨⟨p0, p1, p2⟩, -⟩ := HQ12.out.cells
    have hxe : xn = nu := by rw [← hxn.out, HXN.out]
    go_wp2_with fail
    rw [hxe]
    refine (lrespond_ok P Q G (some ⟨g7, 0, none⟩) ks nu cap7 V X xs xc HVG HKL HXN hn1 hn12 HKC HXC hV0 hV1 hQ _ (Lib.hid (hv.out.below HI12.out.b)) HK12 (Lib.hid (hX.out.below HI12.out.b))).mono ?_
    intro e w13 hL13
    obtain ⟨v13, rfl, ho13, hb13⟩ := hL13
    obtain ⟨zl, hzl⟩ : ∃ zl, rspL Q V ks xs nu = zl := ⟨_, rfl⟩
    have HZL : Hid (zl.length = nu) := Lib.hid (by rw [← hzl]; exact rspL_length _ _ _ _ _)
    rw [hzl] at ho13
    obtain ⟨g13, cap13, hv13, hg13, hc13⟩ := OwnL.cells ho13 (by rw [HZL.out]; omega)
    rw [HZL.out] at hv13
    subst hv13
    have HZZ := Lib.hid hzl
    have HS13 : Hid (Sl w13 (some ⟨g13, 0, none⟩) zl) := Lib.hid (sl_of_cells hc13)
    have HG13 : Hid (b < g13) := Lib.hid (by have := HQ12.out.lt; omega)
    have HI13 := Lib.hid (HI12.out.below hb13)
    have HQ13 := Lib.hid (HQ12.out.below hb13)
    have HA13 := Lib.hid (HA12.out.below hb13)
    clear hzl ho13 hg13 hc13 hb13 g0 g1 g2 p0 p1 p2 HI12 HQ12 HK12 HA12 hxe
    obtain ⟨⟨p0, p1, p2⟩, pf0, pf1, pf2⟩ := HQ13.out.cells
    go_upto_region 18 with (fail)
    clear p0 p1 p2 pf0 pf1 pf2
    have HQ14 : Hid (QBlk (w13.setCell ⟨b, 2, none⟩ (.slice (some ⟨g13, 0, none⟩) nu cap13)) b (.slice (some ⟨g9, 0, none⟩) bn cap9) (.int .i64 V) (.slice (some ⟨g13, 0, none⟩) nu cap13)) := Lib.hid HQ13.out.set2
    have HI14 := Lib.hid (HI13.out.belowB (((Below.refl _ _).setCell HZb.out _) : Below (w.heap.size + 5) w13 (w13.setCell ⟨b, 2, none⟩ (.slice (some ⟨g13, 0, none⟩) nu cap13))))
    have HS14 : Hid (Sl (w13.setCell ⟨b, 2, none⟩ (.slice (some ⟨g13, 0, none⟩) nu cap13)) (some ⟨g13, 0, none⟩) zl) := Lib.hid (sl_set HS13.out (by have := HG13.out; omega))
    have HA14 : Hid (Sl (w13.setCell ⟨b, 2, none⟩ (.slice (some ⟨g13, 0, none⟩) nu cap13)) (some ⟨g9, 0, none⟩) al) := Lib.hid (sl_set HA13.out (by have := HG9.out; omega))
    obtain ⟨W14, hW14⟩ : ∃ u, w13.setCell ⟨b, 2, none⟩ (.slice (some ⟨g13, 0, none⟩) nu cap13) = u := ⟨_, rfl⟩
    rw [hW14] at HQ14 HI14 HS14 HA14 ⊢
    clear hW14 HI13 HQ13 HS13 HA13
    go_wp2_with fail
    have HId14 := Lib.hid (HI14.out.below (Below.refl _ _).drew)
    have HQd14 := Lib.hid (HQ14.out.below (Below.refl _ _).drew)
    obtain ⟨⟨q0, q1, q2⟩, -⟩ := HQd14.out.cells
    have HE15 : Hid (DBlk (W14.drew.setRow (w.heap.size + 3) #[.slice (some ⟨g9, 0, none⟩) bn cap9, .int .i64 V, .slice (some ⟨g13, 0, none⟩) nu cap13]) (w.heap.size + 4) (zer 32) 0) := Lib.hid ((setRow_other _ _ _ _ (by omega)).trans HId14.out.e)
    have HP15 : Hid (QBlk ((W14.drew.setRow (w.heap.size + 3) #[.slice (some ⟨g9, 0, none⟩) bn cap9, .int .i64 V, .slice (some ⟨g13, 0, none⟩) nu cap13]).setRow (w.heap.size + 4) (tcs h c2)) (w.heap.size + 3) (.slice (some ⟨g9, 0, none⟩) bn cap9) (.int .i64 V) (.slice (some ⟨g13, 0, none⟩) nu cap13)) := Lib.hid ((setRow_other _ _ _ _ (by omega)).trans HId14.out.p.setRow)
    have HD15 : Hid (DBlk ((W14.drew.setRow (w.heap.size + 3) #[.slice (some ⟨g9, 0, none⟩) bn cap9, .int .i64 V, .slice (some ⟨g13, 0, none⟩) nu cap13]).setRow (w.heap.size + 4) (tcs h c2)) (w.heap.size + 4) h c2) := Lib.hid HE15.out.setRow
    have HBF : Hid (Below w.heap.size w ((W14.drew.setRow (w.heap.size + 3) #[.slice (some ⟨g9, 0, none⟩) bn cap9, .int .i64 V, .slice (some ⟨g13, 0, none⟩) nu cap13]).setRow (w.heap.size + 4) (tcs h c2))) := Lib.hid (below_setRow' (below_setRow' HId14.out.b (by omega)) (by omega))
    have hzz := HZb.out
    have hgg := HG9.out
    have hgh := HG13.out
    have HAF : Hid (Sl ((W14.drew.setRow (w.heap.size + 3) #[.slice (some ⟨g9, 0, none⟩) bn cap9, .int .i64 V, .slice (some ⟨g13, 0, none⟩) nu cap13]).setRow (w.heap.size + 4) (tcs h c2)) (some ⟨g9, 0, none⟩) al) := Lib.hid (sl_far HA14.out (by have := HG9g.out; exact (setRow_other _ _ _ _ (by omega)).trans (setRow_other _ _ _ _ (by omega))))
    have HZF : Hid (Sl ((W14.drew.setRow (w.heap.size + 3) #[.slice (some ⟨g9, 0, none⟩) bn cap9, .int .i64 V, .slice (some ⟨g13, 0, none⟩) nu cap13]).setRow (w.heap.size + 4) (tcs h c2)) (some ⟨g13, 0, none⟩) zl) := Lib.hid (sl_far HS14.out ((setRow_other _ _ _ _ (by omega)).trans (setRow_other _ _ _ _ (by omega))))
    refine wp_region_T (S := fun w' => w'.cell? ⟨b, 0, none⟩ = some (.slice (some ⟨g9, 0, none⟩) bn cap9) ∧ w'.cell? ⟨b, 1, none⟩ = some (.int .i64 V) ∧ w'.cell? ⟨b, 2, none⟩ = some (.slice (some ⟨g13, 0, none⟩) nu cap13) ∧ w'.heap[w.heap.size + 2]? = some (.cells (tcs h c2) 56 (0, 0))) (E := [3, 4]) (by kernel_rfl) (⟨q0, q1, q2, HId14.out.d⟩) (fun hHeld => ?_)
    refine wpT_take (i := 0) (oi := _) (v := ?_) rfl (by kernel_rfl) (by kernel_rfl) (by kernel_rfl) (by kernel_rfl) (fun _ _ _ h => h) (Or.inl ⟨by rfl, ?_⟩) (by assumption) ?_
    rotate_left; (intro wS hSw; (try dsimp only at hSw); go_simp <;> with_reducible rfl)
    try simp only [List.getElem_toArray, List.getElem_cons_zero, List.getElem_cons_succ, Act.put, List.setIfInBounds_toArray, List.set_cons_zero, List.set_cons_succ]
    refine wpT_take (i := 1) (oi := _) (v := (.agg (tcs h c2))) rfl (by kernel_rfl) (by kernel_rfl) (by kernel_rfl) (by kernel_rfl) (fun _ _ _ h => h) (Or.inl ⟨by rfl, yields_row 56 _ rfl (w.heap.size + 2) rfl _ _ _ _ (fun _ h => h.2.2.2) Tryz.underlying56 rfl (dr_info hl.out)⟩) (by assumption) ?_
    try simp only [List.getElem_toArray, List.getElem_cons_zero, List.getElem_cons_succ, Act.put, List.setIfInBounds_toArray, List.set_cons_zero, List.set_cons_succ]
    refine wpT_one (i := 2) (by kernel_rfl) rfl (fun K hK => ?_)
    rw [show (if Region.wanted _ _ = true then _ else _ : Prop) = _ from if_pos rfl]
    refine wp_store_row 28 _ _ rfl (w.heap.size + 3) #[.slice (some ⟨g9, 0, none⟩) bn cap9, .int .i64 V, .slice (some ⟨g13, 0, none⟩) nu cap13] rfl rfl 28 _ HId14.out.p infoP rfl (by simp [Value.oneCell']) ?_
    refine hK.out _ _ ?_ (fun hHeld => ?_)
    · exact ⟨(cell_setRow_other _ _ _ _ (by show b ≠ _; omega)).trans q0, (cell_setRow_other _ _ _ _ (by show b ≠ _; omega)).trans q1, (cell_setRow_other _ _ _ _ (by show b ≠ _; omega)).trans q2, (setRow_other _ _ _ _ (by omega)).trans HId14.out.d⟩
    clear hK K
    try simp only [List.getElem_toArray, List.getElem_cons_zero, List.getElem_cons_succ, Act.put, List.setIfInBounds_toArray, List.set_cons_zero, List.set_cons_succ]
    refine wpT_pass (i := 3) (by kernel_rfl) (by simp) rfl (fun K hK => ?_)
    rw [show (if Region.wanted _ _ = true then _ else _ : Prop) = _ from if_pos rfl]
    refine wp_store_row 56 _ _ rfl (w.heap.size + 4) (tcs h c2) rfl rfl 56 _ HE15.out (dr_info hl.out) (tcs_sz rfl hl.out) (tcs_one _ _) ?_
    refine hK.out _ _ ?_
    clear hK K
    try simp only [List.getElem_toArray, List.getElem_cons_zero, List.getElem_cons_succ, Act.put, List.setIfInBounds_toArray, List.set_cons_zero, List.set_cons_succ]
    refine wpT_pass (i := 4) (by kernel_rfl) (by simp) rfl (fun K hK => ?_)
    go_simp
    refine hK.out _ _ ?_
    clear hK K
    try simp only [List.getElem_toArray, List.getElem_cons_zero, List.getElem_cons_succ, Act.put, List.setIfInBounds_toArray, List.set_cons_zero, List.set_cons_succ]
    refine wpT_done (by kernel_rfl) ?_ _
    have HVV2 : Kp (chalV P Q G (bys s) ys rows (rows.map fun r => prodF P 1 r.xs ks) = V) := ⟨by rw [HAL.out]; exact HVV.1⟩
    have HAF2 := HAF.out
    rw [← HAL.out] at HAF2
    have HZE : Hid (rspL Q V ks xs (rowN rows) = zl) := Lib.hid (by rw [HN.out]; exact HZZ.out)
    have HAFH := Lib.hid HAF2
    clear HAF2
    go_wp2
    exact bodyPost_ret (v := PrvE (prvL (some ⟨g9, 0, none⟩) bn cap9 V (some ⟨g13, 0, none⟩) nu cap13) h c2 0) (results_cell2_tmp (p := 10) (q := 11) (r := 12) (ty := 28) (ty2 := 56) rfl _ _ ⟨w.heap.size + 3, 0, none⟩ ⟨w.heap.size + 4, 0, none⟩ _ _ _ rfl rfl rfl (run_loadVar_row _ _ _ _ _ _ _ HP15.out Tryz.underlying28 rfl infoP) (run_loadVar_row _ _ _ _ _ _ _ HD15.out Tryz.underlying56 rfl (dr_info hl.out))) rfl ⟨g9, cap9, g13, cap13, V, HVV2, by rw [HN.out], by have := HG9g.out; omega, by have := HZb.out; have := HG13.out; omega, HAFH.out, by rw [HZE.out]; exact HZF.out, HBF.out⟩
  · skip
    go_simp
    refine (lunknowns_any Y yn yc B rows bn bc nu hbn hbp HN _ (Lib.hid (HBB.out.below HBBd.out))).mono ?_
    rintro e w6 ⟨rfl, hb6⟩
    have HI6 := Lib.hid (HId.out.below hb6)
    have HBB6 : Hid (Below W.heap.size W w6) := Lib.hid (below_ext HBBd.out hb6)
    clear hb6
    refine hK.out _ _ ?_ (fun hHeld => ?_)
    · exact ⟨HI6.out.g.1, HI6.out.g.2.1, HI6.out.g.2.2, HI6.out.r.1, HI6.out.r.2⟩
    clear hK K
    try simp only [List.getElem_toArray, List.getElem_cons_zero, List.getElem_cons_succ, Act.put, List.setIfInBounds_toArray, List.set_cons_zero, List.set_cons_succ]
    refine wpT_one (i := 0) (by kernel_rfl) rfl (fun K hK => ?_)
    rw [show (if Region.wanted _ _ = true then _ else _ : Prop) = _ from if_pos rfl]
    refine wp_load_row 56 _ rfl (w.heap.size + 2) rfl _ _ _ _ HI6.out.d Tryz.underlying56 rfl (dr_info hl.out) ?_
    refine hK.out _ _ ?_ (fun hHeld => ?_)
    · exact ⟨HI6.out.g.1, HI6.out.g.2.1, HI6.out.g.2.2, HI6.out.r.1, HI6.out.r.2⟩
    clear hK K
    try simp only [List.getElem_toArray, List.getElem_cons_zero, List.getElem_cons_succ, Act.put, List.setIfInBounds_toArray, List.set_cons_zero, List.set_cons_succ]
    refine wpT_one (i := 5) (by kernel_rfl) rfl (fun K hK => ?_)
    go_simp
    refine (dlist_any h hl hhb c hdr Q (by omega) (by omega) nu (by omega) _ (Lib.hid (HDV.out.below HBB6.out))).mono ?_
    intro e w7 hLO
    unfold LstOut at hLO
    rw [HST.out] at hLO
    rw [if_neg (by decide)] at hLO
    obtain ⟨v7, rfl, ho7, hb7⟩ := hLO
    have HI7 := Lib.hid (HI6.out.below hb7)
    have HBB7 : Hid (Below W.heap.size W w7) := Lib.hid (below_ext HBB6.out hb7)
    have HZ6 : Hid (w.heap.size + 5 ≤ w6.heap.size) := Lib.hid HI6.out.z
    rw [HKS.out] at ho7
    have HO7 := Lib.hid ho7
    rw [HC2.out]
    clear hb7 ho7
    refine hK.out _ _ ?_ (fun hHeld => ?_)
    · exact ⟨HI7.out.g.1, HI7.out.g.2.1, HI7.out.g.2.2, HI7.out.r.1, HI7.out.r.2⟩
    clear hK K
    try simp only [List.getElem_toArray, List.getElem_cons_zero, List.getElem_cons_succ, Act.put, List.setIfInBounds_toArray, List.set_cons_zero, List.set_cons_succ]
    refine wpT_one (i := 6) (by kernel_rfl) rfl (fun K hK => ?_)
    go_simp
    refine hK.out _ _ ?_ (fun hHeld => ?_)
    · exact ⟨HI7.out.g.1, HI7.out.g.2.1, HI7.out.g.2.2, HI7.out.r.1, HI7.out.r.2⟩
    clear hK K
    try simp only [List.getElem_toArray, List.getElem_cons_zero, List.getElem_cons_succ, Act.put, List.setIfInBounds_toArray, List.set_cons_zero, List.set_cons_succ]
    refine wpT_take (i := 7) (oi := _) (v := ?_) rfl (by kernel_rfl) (by kernel_rfl) (by kernel_rfl) (by kernel_rfl) (fun _ _ _ h => h) (Or.inl ⟨by rfl, ?_⟩) (by assumption) ?_
    rotate_left; (intro wS hSw; (try dsimp only at hSw); go_simp <;> with_reducible rfl)
    try simp only [List.getElem_toArray, List.getElem_cons_zero, List.getElem_cons_succ, Act.put, List.setIfInBounds_toArray, List.set_cons_zero, List.set_cons_succ]
    refine wpT_take (i := 8) (oi := _) (v := ?_) rfl (by kernel_rfl) (by kernel_rfl) (by kernel_rfl) (by kernel_rfl) (fun _ _ _ h => h) (Or.inl ⟨by rfl, ?_⟩) (by assumption) ?_
    rotate_left; (intro wS hSw; (try dsimp only at hSw); go_simp <;> with_reducible rfl)
    try simp only [List.getElem_toArray, List.getElem_cons_zero, List.getElem_cons_succ, Act.put, List.setIfInBounds_toArray, List.set_cons_zero, List.set_cons_succ]
    refine wpT_take (i := 9) (oi := _) (v := ?_) rfl (by kernel_rfl) (by kernel_rfl) (by kernel_rfl) (by kernel_rfl) (fun _ _ _ h => h) (Or.inl ⟨by rfl, ?_⟩) (by assumption) ?_
    rotate_left; (intro wS hSw; (try dsimp only at hSw); go_simp <;> with_reducible rfl)
    try simp only [List.getElem_toArray, List.getElem_cons_zero, List.getElem_cons_succ, Act.put, List.setIfInBounds_toArray, List.set_cons_zero, List.set_cons_succ]
    refine wpT_one (i := 10) (by kernel_rfl) rfl (fun K hK => ?_)
    rw [show (if Region.wanted _ _ = true then _ else _ : Prop) = _ from if_pos rfl]
    refine wp_store_row 56 _ _ rfl (w.heap.size + 2) (tcs h c2) rfl rfl 56 _ HI7.out.d (dr_info hl.out) (tcs_sz hl.out hl.out) (tcs_one _ _) ?_
    refine hK.out _ _ ?_ (fun hHeld => ?_)
    · exact ⟨(cell_setRow_other _ _ _ _ (by simp)).trans HI7.out.g.1, (cell_setRow_other _ _ _ _ (by simp)).trans HI7.out.g.2.1, (cell_setRow_other _ _ _ _ (by simp)).trans HI7.out.g.2.2, (cell_setRow_other _ _ _ _ (by simp)).trans HI7.out.r.1, (cell_setRow_other _ _ _ _ (by simp)).trans HI7.out.r.2⟩
    clear hK K
    try simp only [List.getElem_toArray, List.getElem_cons_zero, List.getElem_cons_succ, Act.put, List.setIfInBounds_toArray, List.set_cons_zero, List.set_cons_succ]
    refine wpT_one (i := 11) (by kernel_rfl) rfl (fun K hK => ?_)
    go_simp
    refine hK.out _ _ ?_ (fun hHeld => ?_)
    · exact ⟨(cell_setRow_other _ _ _ _ (by simp)).trans HI7.out.g.1, (cell_setRow_other _ _ _ _ (by simp)).trans HI7.out.g.2.1, (cell_setRow_other _ _ _ _ (by simp)).trans HI7.out.g.2.2, (cell_setRow_other _ _ _ _ (by simp)).trans HI7.out.r.1, (cell_setRow_other _ _ _ _ (by simp)).trans HI7.out.r.2⟩
    clear hK K
    try simp only [List.getElem_toArray, List.getElem_cons_zero, List.getElem_cons_succ, Act.put, List.setIfInBounds_toArray, List.set_cons_zero, List.set_cons_succ]
    refine wpT_one (i := 12) (by kernel_rfl) rfl (fun K hK => ?_)
    go_simp
    refine hK.out _ _ ?_ (fun hHeld => ?_)
    · exact ⟨(cell_setRow_other _ _ _ _ (by simp)).trans HI7.out.g.1, (cell_setRow_other _ _ _ _ (by simp)).trans HI7.out.g.2.1, (cell_setRow_other _ _ _ _ (by simp)).trans HI7.out.g.2.2, (cell_setRow_other _ _ _ _ (by simp)).trans HI7.out.r.1, (cell_setRow_other _ _ _ _ (by simp)).trans HI7.out.r.2⟩
    clear hK K
    try simp only [List.getElem_toArray, List.getElem_cons_zero, List.getElem_cons_succ, Act.put, List.setIfInBounds_toArray, List.set_cons_zero, List.set_cons_succ]
    refine wpT_done (by kernel_rfl) ?_ _
    have HI8 : Hid (PvI w P Q G Y yn yc B bn bc h c2 (w7.setRow (w.heap.size + 2) (tcs h c2))) := Lib.hid (HI7.out.draw (h' := h) (c' := c2))
    have HKL : Hid (ks.length = nu) := Lib.hid (by rw [← HKS.out]; exact lstD_len _ _ _ _)
    have HKC : Hid (ks.all (scB Q) = true) := Lib.hid (by rw [← HKS.out]; exact lstD_sc (by omega) _)
    have HO8 : Hid (OwnL (w7.setRow (w.heap.size + 2) (tcs h c2)) w6.heap.size v7 ks) := Lib.hid (World.ownsRow.kept HO7.out (grown_setRow _ _ _) (Or.inr (fun e => by have := (World.ownsRow.lt HO7.out _ e).1; have := HZ6.out; omega)))
    obtain ⟨W8, hW8⟩ : ∃ u, w7.setRow (w.heap.size + 2) (tcs h c2) = u := ⟨_, rfl⟩
    rw [hW8] at HI8 HO8 ⊢
    obtain ⟨g7, cap7, hv7, hg7, hc7⟩ := OwnL.cells HO8.out (by rw [HKL.out]; omega)
    rw [HKL.out] at hv7
    subst hv7
    have HK8 : Hid (Sl W8 (some ⟨g7, 0, none⟩) ks) := Lib.hid (sl_of_cells hc7)
    have HG7 : Hid (g7 < W8.heap.size) := Lib.hid (World.block_lt_of_cell? _ _ (hc7 0 (by rw [HKL.out]; omega)))
    clear hW8 HI7 HBB7 HO7 HO8 hg7 hc7 HI6 HBB6
    obtain ⟨g0, g1, g2⟩ := HI8.out.g
    obtain ⟨r0, r1⟩ := HI8.out.r
    go_wp2_with fail
    refine (lproducts_any P Q G B rows bn bc (some ⟨g7, 0, none⟩) ks nu cap7 hbn HKL (by omega) (by omega) HRB HKC hp2 hp hQ _ (Lib.hid (hB.out.below HI8.out.b)) HK8).mono ?_
    intro e w9 hL9
    obtain ⟨v9, rfl, ho9, hb9⟩ := hL9
    obtain ⟨al, hal⟩ : ∃ al, (rows.map fun r => prodF P 1 r.xs ks) = al := ⟨_, rfl⟩
    have HALL : Hid (al.length = bn) := Lib.hid (by rw [← hal, List.length_map]; exact hbn.out)
    have HAOK : Hid (okL al) := Lib.hid (by
      refine ⟨by rw [HALL.out]; omega, fun x hx => ?_⟩
      rw [← hal] at hx
      obtain ⟨r, _, rfl⟩ := List.mem_map.1 hx
      have := prodF_in hp2 r.xs ks 1 (by omega) (by omega)
      omega)
    rw [hal] at ho9
    obtain ⟨g9, cap9, hv9, hg9, hc9⟩ := OwnL.cells ho9 (by rw [HALL.out]; exact hbp)
    rw [HALL.out] at hv9
    subst hv9
    have HAL := Lib.hid hal
    have HA9 : Hid (Sl w9 (some ⟨g9, 0, none⟩) al) := Lib.hid (sl_of_cells hc9)
    have HG9 : Hid (g9 < w9.heap.size) := Lib.hid (World.block_lt_of_cell? _ _ (hc9 0 (by rw [HALL.out]; exact hbp)))
    have HI9 := Lib.hid (HI8.out.below hb9)
    have HK9 := Lib.hid (HK8.out.below hb9)
    have HG79 : Hid (g7 < w9.heap.size) := Lib.hid (Nat.lt_of_lt_of_le HG7.out hb9.size)
    have HG9g : Hid (w.heap.size + 5 ≤ g9) := Lib.hid (by have := HI8.out.z; omega)
    clear hal ho9 hg9 hc9 hb9 g0 g1 g2 r0 r1 HI8 HK8 HG7
    go_upto_region 14 with (fail)
    have HQ10 : Hid (QBlk (w9.alloc (.cells #[.slice (some ⟨g9, 0, none⟩) bn cap9, .int .i64 0, .slice none 0 0] 28)) w9.heap.size (.slice (some ⟨g9, 0, none⟩) bn cap9) (.int .i64 0) (.slice none 0 0)) := Lib.hid (heap_alloc_new _ _)
    have HI10 := Lib.hid (HI9.out.below (below_box0 w9 (.cells #[.slice (some ⟨g9, 0, none⟩) bn cap9, .int .i64 0, .slice none 0 0] 28)))
    have HK10 := Lib.hid (HK9.out.below (below_box0 w9 (.cells #[.slice (some ⟨g9, 0, none⟩) bn cap9, .int .i64 0, .slice none 0 0] 28)))
    have HA10 := Lib.hid (HA9.out.below (below_box0 w9 (.cells #[.slice (some ⟨g9, 0, none⟩) bn cap9, .int .i64 0, .slice none 0 0] 28)))
    have HZb : Hid (w.heap.size + 5 ≤ w9.heap.size) := Lib.hid HI9.out.z
    obtain ⟨W10, hW10⟩ : ∃ u, w9.alloc (.cells #[.slice (some ⟨g9, 0, none⟩) bn cap9, .int .i64 0, .slice none 0 0] 28) = u := ⟨_, rfl⟩
    rw [hW10] at HQ10 HI10 HK10 HA10 ⊢
    obtain ⟨b, hbb⟩ : ∃ b, w9.heap.size = b := ⟨_, rfl⟩
    rw [hbb] at HQ10 HZb HG9 HG79 ⊢
    clear hW10 hbb HI9 HK9 HA9
    obtain ⟨g0, g1, g2⟩ := HI10.out.g
    obtain ⟨r0, r1⟩ := HI10.out.r
    obtain ⟨⟨p0, p1, p2⟩, -⟩ := HQ10.out.cells
    obtain ⟨okg, oky, okr⟩ := valid_ok HVR.out hB.out
    have HOKG := Lib.hid okg
    have HOKY := Lib.hid oky
    have HOKR := Lib.hid okr
    obtain ⟨V, hV⟩ : ∃ V, chalV P Q G (bys s) ys rows al = V := ⟨_, rfl⟩
    have hVlo : 0 ≤ V ∧ V < Q := by rw [← hV]; exact chalV_lo (by omega) _ _ _ _
    obtain ⟨hV0, hV1⟩ := hVlo
    have HVV : Kp (chalV P Q G (bys s) ys rows al = V) := ⟨hV⟩
    clear hV okg oky okr
    go_wp2_with fail
    refine (lchal_ok P Q G Y ys yn yc B rows bn bc (some ⟨g9, 0, none⟩) al bn cap9 s hs hr hyn hbn HALL (by omega) HOKG HOKY HAOK HOKR (by omega) (by omega) V HVV _ (Lib.hid (hd.out.below HI10.out.b)) (Lib.hid (hY.out.below HI10.out.b)) (Lib.hid (hB.out.below HI10.out.b)) HA10).mono ?_
    rintro e w11 ⟨rfl, hb11⟩
    have HI11 := Lib.hid (HI10.out.below hb11)
    have HQ11 := Lib.hid (HQ10.out.below hb11)
    have HK11 := Lib.hid (HK10.out.below hb11)
    have HA11 := Lib.hid (HA10.out.below hb11)
    clear hb11 g0 g1 g2 r0 r1 p0 p1 p2 HI10 HQ10 HK10 HA10
    obtain ⟨⟨p0, p1, p2⟩, pf0, pf1, pf2⟩ := HQ11.out.cells
    go_upto_region 15 with (fail)
    clear p0 p1 p2 pf0 pf1 pf2
    have HQ12 : Hid (QBlk (w11.setCell ⟨b, 1, none⟩ (.int .i64 V)) b (.slice (some ⟨g9, 0, none⟩) bn cap9) (.int .i64 V) (.slice none 0 0)) := Lib.hid HQ11.out.set1
    have HI12 := Lib.hid (HI11.out.belowB (((Below.refl _ _).setCell HZb.out _) : Below (w.heap.size + 5) w11 (w11.setCell ⟨b, 1, none⟩ (.int .i64 V))))
    have HK12 : Hid (Sl (w11.setCell ⟨b, 1, none⟩ (.int .i64 V)) (some ⟨g7, 0, none⟩) ks) := Lib.hid (sl_set HK11.out (by have := HG79.out; omega))
    have HA12 : Hid (Sl (w11.setCell ⟨b, 1, none⟩ (.int .i64 V)) (some ⟨g9, 0, none⟩) al) := Lib.hid (sl_set HA11.out (by have := HG9.out; omega))
    obtain ⟨W12, hW12⟩ : ∃ u, w11.setCell ⟨b, 1, none⟩ (.int .i64 V) = u := ⟨_, rfl⟩
    rw [hW12] at HQ12 HI12 HK12 HA12 ⊢
    clear hW12 HI11 HQ11 HK11 HA11
    obtain ⟨g0, g1, g2⟩ := HI12.out.g
    obtain ⟨⟨p0, p1, p2⟩, -⟩ := HQ12.out.cells
    have hxe : xn = nu := by rw [← hxn.out, HXN.out]
    go_wp2_with fail
    rw [hxe]
    refine (lrespond_ok P Q G (some ⟨g7, 0, none⟩) ks nu cap7 V X xs xc HVG HKL HXN hn1 hn12 HKC HXC hV0 hV1 hQ _ (Lib.hid (hv.out.below HI12.out.b)) HK12 (Lib.hid (hX.out.below HI12.out.b))).mono ?_
    intro e w13 hL13
    obtain ⟨v13, rfl, ho13, hb13⟩ := hL13
    obtain ⟨zl, hzl⟩ : ∃ zl, rspL Q V ks xs nu = zl := ⟨_, rfl⟩
    have HZL : Hid (zl.length = nu) := Lib.hid (by rw [← hzl]; exact rspL_length _ _ _ _ _)
    rw [hzl] at ho13
    obtain ⟨g13, cap13, hv13, hg13, hc13⟩ := OwnL.cells ho13 (by rw [HZL.out]; omega)
    rw [HZL.out] at hv13
    subst hv13
    have HZZ := Lib.hid hzl
    have HS13 : Hid (Sl w13 (some ⟨g13, 0, none⟩) zl) := Lib.hid (sl_of_cells hc13)
    have HG13 : Hid (b < g13) := Lib.hid (by have := HQ12.out.lt; omega)
    have HI13 := Lib.hid (HI12.out.below hb13)
    have HQ13 := Lib.hid (HQ12.out.below hb13)
    have HA13 := Lib.hid (HA12.out.below hb13)
    clear hzl ho13 hg13 hc13 hb13 g0 g1 g2 p0 p1 p2 HI12 HQ12 HK12 HA12 hxe
    obtain ⟨⟨p0, p1, p2⟩, pf0, pf1, pf2⟩ := HQ13.out.cells
    go_upto_region 18 with (fail)
    clear p0 p1 p2 pf0 pf1 pf2
    have HQ14 : Hid (QBlk (w13.setCell ⟨b, 2, none⟩ (.slice (some ⟨g13, 0, none⟩) nu cap13)) b (.slice (some ⟨g9, 0, none⟩) bn cap9) (.int .i64 V) (.slice (some ⟨g13, 0, none⟩) nu cap13)) := Lib.hid HQ13.out.set2
    have HI14 := Lib.hid (HI13.out.belowB (((Below.refl _ _).setCell HZb.out _) : Below (w.heap.size + 5) w13 (w13.setCell ⟨b, 2, none⟩ (.slice (some ⟨g13, 0, none⟩) nu cap13))))
    have HS14 : Hid (Sl (w13.setCell ⟨b, 2, none⟩ (.slice (some ⟨g13, 0, none⟩) nu cap13)) (some ⟨g13, 0, none⟩) zl) := Lib.hid (sl_set HS13.out (by have := HG13.out; omega))
    have HA14 : Hid (Sl (w13.setCell ⟨b, 2, none⟩ (.slice (some ⟨g13, 0, none⟩) nu cap13)) (some ⟨g9, 0, none⟩) al) := Lib.hid (sl_set HA13.out (by have := HG9.out; omega))
    obtain ⟨W14, hW14⟩ : ∃ u, w13.setCell ⟨b, 2, none⟩ (.slice (some ⟨g13, 0, none⟩) nu cap13) = u := ⟨_, rfl⟩
    rw [hW14] at HQ14 HI14 HS14 HA14 ⊢
    clear hW14 HI13 HQ13 HS13 HA13
    go_wp2_with fail
    have HId14 := Lib.hid (HI14.out.below (Below.refl _ _).drew)
    have HQd14 := Lib.hid (HQ14.out.below (Below.refl _ _).drew)
    obtain ⟨⟨q0, q1, q2⟩, -⟩ := HQd14.out.cells
    have HE15 : Hid (DBlk (W14.drew.setRow (w.heap.size + 3) #[.slice (some ⟨g9, 0, none⟩) bn cap9, .int .i64 V, .slice (some ⟨g13, 0, none⟩) nu cap13]) (w.heap.size + 4) (zer 32) 0) := Lib.hid ((setRow_other _ _ _ _ (by omega)).trans HId14.out.e)
    have HP15 : Hid (QBlk ((W14.drew.setRow (w.heap.size + 3) #[.slice (some ⟨g9, 0, none⟩) bn cap9, .int .i64 V, .slice (some ⟨g13, 0, none⟩) nu cap13]).setRow (w.heap.size + 4) (tcs h c2)) (w.heap.size + 3) (.slice (some ⟨g9, 0, none⟩) bn cap9) (.int .i64 V) (.slice (some ⟨g13, 0, none⟩) nu cap13)) := Lib.hid ((setRow_other _ _ _ _ (by omega)).trans HId14.out.p.setRow)
    have HD15 : Hid (DBlk ((W14.drew.setRow (w.heap.size + 3) #[.slice (some ⟨g9, 0, none⟩) bn cap9, .int .i64 V, .slice (some ⟨g13, 0, none⟩) nu cap13]).setRow (w.heap.size + 4) (tcs h c2)) (w.heap.size + 4) h c2) := Lib.hid HE15.out.setRow
    have HBF : Hid (Below w.heap.size w ((W14.drew.setRow (w.heap.size + 3) #[.slice (some ⟨g9, 0, none⟩) bn cap9, .int .i64 V, .slice (some ⟨g13, 0, none⟩) nu cap13]).setRow (w.heap.size + 4) (tcs h c2))) := Lib.hid (below_setRow' (below_setRow' HId14.out.b (by omega)) (by omega))
    have hzz := HZb.out
    have hgg := HG9.out
    have hgh := HG13.out
    have HAF : Hid (Sl ((W14.drew.setRow (w.heap.size + 3) #[.slice (some ⟨g9, 0, none⟩) bn cap9, .int .i64 V, .slice (some ⟨g13, 0, none⟩) nu cap13]).setRow (w.heap.size + 4) (tcs h c2)) (some ⟨g9, 0, none⟩) al) := Lib.hid (sl_far HA14.out (by have := HG9g.out; exact (setRow_other _ _ _ _ (by omega)).trans (setRow_other _ _ _ _ (by omega))))
    have HZF : Hid (Sl ((W14.drew.setRow (w.heap.size + 3) #[.slice (some ⟨g9, 0, none⟩) bn cap9, .int .i64 V, .slice (some ⟨g13, 0, none⟩) nu cap13]).setRow (w.heap.size + 4) (tcs h c2)) (some ⟨g13, 0, none⟩) zl) := Lib.hid (sl_far HS14.out ((setRow_other _ _ _ _ (by omega)).trans (setRow_other _ _ _ _ (by omega))))
    refine wp_region_T (S := fun w' => w'.cell? ⟨b, 0, none⟩ = some (.slice (some ⟨g9, 0, none⟩) bn cap9) ∧ w'.cell? ⟨b, 1, none⟩ = some (.int .i64 V) ∧ w'.cell? ⟨b, 2, none⟩ = some (.slice (some ⟨g13, 0, none⟩) nu cap13) ∧ w'.heap[w.heap.size + 2]? = some (.cells (tcs h c2) 56 (0, 0))) (E := [3, 4]) (by kernel_rfl) (⟨q0, q1, q2, HId14.out.d⟩) (fun hHeld => ?_)
    refine wpT_take (i := 0) (oi := _) (v := ?_) rfl (by kernel_rfl) (by kernel_rfl) (by kernel_rfl) (by kernel_rfl) (fun _ _ _ h => h) (Or.inl ⟨by rfl, ?_⟩) (by assumption) ?_
    rotate_left; (intro wS hSw; (try dsimp only at hSw); go_simp <;> with_reducible rfl)
    try simp only [List.getElem_toArray, List.getElem_cons_zero, List.getElem_cons_succ, Act.put, List.setIfInBounds_toArray, List.set_cons_zero, List.set_cons_succ]
    refine wpT_take (i := 1) (oi := _) (v := (.agg (tcs h c2))) rfl (by kernel_rfl) (by kernel_rfl) (by kernel_rfl) (by kernel_rfl) (fun _ _ _ h => h) (Or.inl ⟨by rfl, yields_row 56 _ rfl (w.heap.size + 2) rfl _ _ _ _ (fun _ h => h.2.2.2) Tryz.underlying56 rfl (dr_info hl.out)⟩) (by assumption) ?_
    try simp only [List.getElem_toArray, List.getElem_cons_zero, List.getElem_cons_succ, Act.put, List.setIfInBounds_toArray, List.set_cons_zero, List.set_cons_succ]
    refine wpT_one (i := 2) (by kernel_rfl) rfl (fun K hK => ?_)
    rw [show (if Region.wanted _ _ = true then _ else _ : Prop) = _ from if_pos rfl]
    refine wp_store_row 28 _ _ rfl (w.heap.size + 3) #[.slice (some ⟨g9, 0, none⟩) bn cap9, .int .i64 V, .slice (some ⟨g13, 0, none⟩) nu cap13] rfl rfl 28 _ HId14.out.p infoP rfl (by simp [Value.oneCell']) ?_
    refine hK.out _ _ ?_ (fun hHeld => ?_)
    · exact ⟨(cell_setRow_other _ _ _ _ (by show b ≠ _; omega)).trans q0, (cell_setRow_other _ _ _ _ (by show b ≠ _; omega)).trans q1, (cell_setRow_other _ _ _ _ (by show b ≠ _; omega)).trans q2, (setRow_other _ _ _ _ (by omega)).trans HId14.out.d⟩
    clear hK K
    try simp only [List.getElem_toArray, List.getElem_cons_zero, List.getElem_cons_succ, Act.put, List.setIfInBounds_toArray, List.set_cons_zero, List.set_cons_succ]
    refine wpT_pass (i := 3) (by kernel_rfl) (by simp) rfl (fun K hK => ?_)
    rw [show (if Region.wanted _ _ = true then _ else _ : Prop) = _ from if_pos rfl]
    refine wp_store_row 56 _ _ rfl (w.heap.size + 4) (tcs h c2) rfl rfl 56 _ HE15.out (dr_info hl.out) (tcs_sz rfl hl.out) (tcs_one _ _) ?_
    refine hK.out _ _ ?_
    clear hK K
    try simp only [List.getElem_toArray, List.getElem_cons_zero, List.getElem_cons_succ, Act.put, List.setIfInBounds_toArray, List.set_cons_zero, List.set_cons_succ]
    refine wpT_pass (i := 4) (by kernel_rfl) (by simp) rfl (fun K hK => ?_)
    go_simp
    refine hK.out _ _ ?_
    clear hK K
    try simp only [List.getElem_toArray, List.getElem_cons_zero, List.getElem_cons_succ, Act.put, List.setIfInBounds_toArray, List.set_cons_zero, List.set_cons_succ]
    refine wpT_done (by kernel_rfl) ?_ _
    have HVV2 : Kp (chalV P Q G (bys s) ys rows (rows.map fun r => prodF P 1 r.xs ks) = V) := ⟨by rw [HAL.out]; exact HVV.1⟩
    have HAF2 := HAF.out
    rw [← HAL.out] at HAF2
    have HZE : Hid (rspL Q V ks xs (rowN rows) = zl) := Lib.hid (by rw [HN.out]; exact HZZ.out)
    have HAFH := Lib.hid HAF2
    clear HAF2
    go_wp2
    exact bodyPost_ret (v := PrvE (prvL (some ⟨g9, 0, none⟩) bn cap9 V (some ⟨g13, 0, none⟩) nu cap13) h c2 0) (results_cell2_tmp (p := 10) (q := 11) (r := 12) (ty := 28) (ty2 := 56) rfl _ _ ⟨w.heap.size + 3, 0, none⟩ ⟨w.heap.size + 4, 0, none⟩ _ _ _ rfl rfl rfl (run_loadVar_row _ _ _ _ _ _ _ HP15.out Tryz.underlying28 rfl infoP) (run_loadVar_row _ _ _ _ _ _ _ HD15.out Tryz.underlying56 rfl (dr_info hl.out))) rfl ⟨g9, cap9, g13, cap13, V, HVV2, by rw [HN.out], by have := HG9g.out; omega, by have := HZb.out; have := HG13.out; omega, HAFH.out, by rw [HZE.out]; exact HZF.out, HBF.out⟩
end Go.Proofs.YtdlhodbiaoafiaaGreatDoor
