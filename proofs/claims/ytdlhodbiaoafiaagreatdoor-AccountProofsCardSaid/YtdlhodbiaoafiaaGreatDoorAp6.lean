/- Contracts and lemmas: KcV, JoinA, Msg, Acc, Acp. -/
import Derived.Deep.RegionHeld3
import Derived.Test.YtdlhodbiaoafiaaGreatDoorAp5
namespace Go.Proofs.YtdlhodbiaoafiaaGreatDoor
open Go.RowKit SpM
set_option linter.unusedVariables false
set_option linter.unusedSimpArgs false
set_option maxRecDepth 100000
theorem one_of_sl {w : World} {A : Option Addr} {al : List Int} {na : Nat} (h : Sl w A al) (hn : al.length = na) : One w A na (al.getD 0 0) := fun e => by
  obtain ⟨b, o, e1, h1⟩ := h 0 (by omega)
  exact ⟨b, o, e1, by simpa using h1⟩
/-- which proofs are verified. -/
def verK (P Q G b y C : Int) (lb al zs : List Int) : Bool :=
  chkB P Q G b y al.length (al.getD 0 0) C zs.length (zs.getD 0 0) && (labB lb && (chalK P Q G b y (al.getD 0 0) lb == C))
set_option maxHeartbeats 6400000 in
theorem kchal_bad (P Q G b y a0 : Int) (s : ByteArray) (hs : s.size ≤ 1000) (hr : Hid (labB (bys s) = false)) (w : World) :
    Calls Tryz.prog 68 #[gv P Q G, .int .i64 b, .int .i64 y, .int .i64 a0, .string s] w fun e w' =>  e = .returned (.tuple #[.int .i64 0, .int .i64 1]) ∧ Below w.heap.size w w' := by
  obtain ⟨W, hW⟩ : ∃ W, w.alloc (gObj P Q G) = W := ⟨_, rfl⟩
  have HBX : Hid (Below w.heap.size w W) := Lib.hid (by rw [← hW]; exact below_box0 _ _)
  have HW := Lib.hid hW
  clear hW
  go_enter Tryz.func68, Tryz.ntmps68
  go_upto_region 1 with (fail)
  rw [HW.out]
  clear HW
  go_wp2_with fail
  refine (tnew_bad s hs hr _).mono ?_
  rintro e w1 ⟨rfl, hb1⟩
  have HB1 := Lib.hid (below_ext HBX.out hb1)
  clear hb1
  rw [show TrE (zer 32) 0 1 = .tuple #[.agg (tcs (zer 32) 0), .int .i64 1] from rfl]
  go_upto_region 2 with ((with_reducible show wpList _ _ _ (⟨none, _, _, _, _, _⟩ :: _) _ _); refine wpList_store_row rfl 85 _ _ rfl w1.heap.size (tcs (zer 32) 0) rfl rfl _ _ (heap_alloc_new _ _) (tr_info rfl) (tcs_sz (h := zer 32) (c := 0) rfl rfl) (tcs_one _ _) ?_)
  rw [World.setRow_alloc_new]
  try simp only [Act.put]
  have hBF := below_ext HB1.out (below_box0 w1 (.cells (tcs (zer 32) 0) 85))
  go_wp2
  go_ret2
  exact ⟨rfl, hBF⟩
set_option maxHeartbeats 6400000 in
theorem kver_f (P Q G b y : Int) (A : Option Addr) (al : List Int) (na ca : Nat) (C : Int) (Z : Option Addr) (zs : List Int) (nz cz : Nat) (han : Hid (al.length = na)) (hzn : Hid (zs.length = nz)) (hQ : Q < 9223372036854775808) (s : ByteArray) (hs : s.size ≤ 1000) (HC : Hid (chkB P Q G b y na (al.getD 0 0) C nz (zs.getD 0 0) = false)) (w : World) (hv : Hid (Vars w)) (hd : Hid (VarsD w)) (hA : Hid (Sl w A al)) (hZ : Hid (Sl w Z zs)) :
    Calls Tryz.prog 36 #[gv P Q G, .int .i64 b, .int .i64 y, .string s, prvL A na ca C Z nz cz] w fun e' w' => e' = .returned (.bool false) ∧ Below w.heap.size w w' := by
  obtain ⟨w0, hW⟩ : ∃ W, ((w.alloc (gObj P Q G)).alloc (prObjL A na ca C Z nz cz)) = W := ⟨_, rfl⟩
  have HBw : Hid (Below w.heap.size w w0) := Lib.hid (by rw [← hW]; exact below_two (Below.refl _ _))
  have hc : w0.cell? ⟨w.heap.size, 0, none⟩ = some (.int .i64 P) ∧ w0.cell? ⟨w.heap.size, 1, none⟩ = some (.int .i64 Q) ∧ w0.cell? ⟨w.heap.size, 2, none⟩ = some (.int .i64 G) ∧ w0.cell? ⟨w.heap.size + 1, 0, none⟩ = some (.slice A na ca) ∧ w0.cell? ⟨w.heap.size + 1, 1, none⟩ = some (.int .i64 C) ∧ w0.cell? ⟨w.heap.size + 1, 2, none⟩ = some (.slice Z nz cz) := by rw [← hW]; exact ⟨cell_below (allocs_cell (by simp) (by rfl)) (below_box0 _ _), cell_below (allocs_cell (by simp) (by rfl)) (below_box0 _ _), cell_below (allocs_cell (by simp) (by rfl)) (below_box0 _ _), allocs_cell (by simp) (by rfl), allocs_cell (by simp) (by rfl), allocs_cell (by simp) (by rfl)⟩
  have kC := Lib.hid (show ∀ u : World, Hid (Below w0.heap.size w0 u) → u.cell? ⟨w.heap.size, 0, none⟩ = some (.int .i64 P) ∧ u.cell? ⟨w.heap.size, 1, none⟩ = some (.int .i64 Q) ∧ u.cell? ⟨w.heap.size, 2, none⟩ = some (.int .i64 G) ∧ u.cell? ⟨w.heap.size + 1, 0, none⟩ = some (.slice A na ca) ∧ u.cell? ⟨w.heap.size + 1, 1, none⟩ = some (.int .i64 C) ∧ u.cell? ⟨w.heap.size + 1, 2, none⟩ = some (.slice Z nz cz) from fun u h => ⟨cell_below hc.1 h.out, cell_below hc.2.1 h.out, cell_below hc.2.2.1 h.out, cell_below hc.2.2.2.1 h.out, cell_below hc.2.2.2.2.1 h.out, cell_below hc.2.2.2.2.2 h.out⟩)
  have kV := Lib.hid (show ∀ u : World, Hid (Below w0.heap.size w0 u) → Hid (Vars u) from fun u h => Lib.hid ((hv.out.below) (below_ext HBw.out h.out)))
  have kO := Lib.hid (show ∀ u : World, Hid (Below w0.heap.size w0 u) → Hid (One u A na (al.getD 0 0)) from fun u h => Lib.hid (((fun hb => one_of_sl (hA.out.below hb) han.out)) (below_ext HBw.out h.out)))
  have kP := Lib.hid (show ∀ u : World, Hid (Below w0.heap.size w0 u) → Hid (One u Z nz (zs.getD 0 0)) from fun u h => Lib.hid (((fun hb => one_of_sl (hZ.out.below hb) hzn.out)) (below_ext HBw.out h.out)))
  have HB_0 : Hid (Below w0.heap.size w0 w0) := Lib.hid (Below.refl _ _)
  have HW := Lib.hid hW
  clear hW hc hv hA hZ
  go_enter Tryz.func36, Tryz.ntmps36
  go_wp2_with fail
  rw [HW.out]
  obtain ⟨zc0, zc1, zc2, zc3, zc4, zc5⟩ := kC.out _ HB_0
  go_wp2_with fail
  refine (check_any16 P Q G b y A na ca (al.getD 0 0) C Z nz cz (zs.getD 0 0) false HC hQ _ (kV.out _ HB_0) (kO.out _ HB_0) (kP.out _ HB_0)).mono ?_
  rintro e w1 ⟨rfl, hb0⟩
  have HB_1 := Lib.hid (below_ext HB_0.out hb0)
  clear zc0 zc1 zc2 zc3 zc4 zc5
  clear hb0
  obtain ⟨zc0, zc1, zc2, zc3, zc4, zc5⟩ := kC.out _ HB_1
  have hbF := below_ext HBw.out HB_1.out
  go_wp2
  go_ret
  exact ⟨rfl, hbF⟩
set_option maxHeartbeats 6400000 in
theorem kver_l (P Q G b y : Int) (A : Option Addr) (al : List Int) (na ca : Nat) (C : Int) (Z : Option Addr) (zs : List Int) (nz cz : Nat) (han : Hid (al.length = na)) (hzn : Hid (zs.length = nz)) (hQ : Q < 9223372036854775808) (s : ByteArray) (hs : s.size ≤ 1000) (h1a : na = 1) (HC : Hid (chkB P Q G b y na (al.getD 0 0) C nz (zs.getD 0 0) = true)) (hr : Hid (labB (bys s) = false)) (w : World) (hv : Hid (Vars w)) (hd : Hid (VarsD w)) (hA : Hid (Sl w A al)) (hZ : Hid (Sl w Z zs)) :
    Calls Tryz.prog 36 #[gv P Q G, .int .i64 b, .int .i64 y, .string s, prvL A na ca C Z nz cz] w fun e' w' => e' = .returned (.bool false) ∧ Below w.heap.size w w' := by
  obtain ⟨ba, oa, hAe, hA0⟩ := hA.out 0 (by rw [han.out]; omega)
  rw [Nat.add_zero] at hA0
  obtain ⟨a0, ha0⟩ : ∃ x, al.getD 0 0 = x := ⟨_, rfl⟩
  subst hAe
  rw [ha0] at hA0 HC 
  have HA0 := Lib.hid hA0
  have HO : Hid (One w (some ⟨ba, oa, none⟩) 1 a0) := Lib.hid (by rw [← ha0, ← h1a]; exact one_of_sl hA.out han.out)
  clear hA0 ha0
  subst h1a
  obtain ⟨w0, hW⟩ : ∃ W, ((w.alloc (gObj P Q G)).alloc (prObjL (some ⟨ba, oa, none⟩) 1 ca C Z nz cz)) = W := ⟨_, rfl⟩
  have HBw : Hid (Below w.heap.size w w0) := Lib.hid (by rw [← hW]; exact below_two (Below.refl _ _))
  have hc : w0.cell? ⟨w.heap.size, 0, none⟩ = some (.int .i64 P) ∧ w0.cell? ⟨w.heap.size, 1, none⟩ = some (.int .i64 Q) ∧ w0.cell? ⟨w.heap.size, 2, none⟩ = some (.int .i64 G) ∧ w0.cell? ⟨w.heap.size + 1, 0, none⟩ = some (.slice (some ⟨ba, oa, none⟩) 1 ca) ∧ w0.cell? ⟨w.heap.size + 1, 1, none⟩ = some (.int .i64 C) ∧ w0.cell? ⟨w.heap.size + 1, 2, none⟩ = some (.slice Z nz cz) := by rw [← hW]; exact ⟨cell_below (allocs_cell (by simp) (by rfl)) (below_box0 _ _), cell_below (allocs_cell (by simp) (by rfl)) (below_box0 _ _), cell_below (allocs_cell (by simp) (by rfl)) (below_box0 _ _), allocs_cell (by simp) (by rfl), allocs_cell (by simp) (by rfl), allocs_cell (by simp) (by rfl)⟩
  have kC := Lib.hid (show ∀ u : World, Hid (Below w0.heap.size w0 u) → u.cell? ⟨w.heap.size, 0, none⟩ = some (.int .i64 P) ∧ u.cell? ⟨w.heap.size, 1, none⟩ = some (.int .i64 Q) ∧ u.cell? ⟨w.heap.size, 2, none⟩ = some (.int .i64 G) ∧ u.cell? ⟨w.heap.size + 1, 0, none⟩ = some (.slice (some ⟨ba, oa, none⟩) 1 ca) ∧ u.cell? ⟨w.heap.size + 1, 1, none⟩ = some (.int .i64 C) ∧ u.cell? ⟨w.heap.size + 1, 2, none⟩ = some (.slice Z nz cz) from fun u h => ⟨cell_below hc.1 h.out, cell_below hc.2.1 h.out, cell_below hc.2.2.1 h.out, cell_below hc.2.2.2.1 h.out, cell_below hc.2.2.2.2.1 h.out, cell_below hc.2.2.2.2.2 h.out⟩)
  have kV := Lib.hid (show ∀ u : World, Hid (Below w0.heap.size w0 u) → Hid (Vars u) from fun u h => Lib.hid ((hv.out.below) (below_ext HBw.out h.out)))
  have kD := Lib.hid (show ∀ u : World, Hid (Below w0.heap.size w0 u) → Hid (VarsD u) from fun u h => Lib.hid ((hd.out.below) (below_ext HBw.out h.out)))
  have kO := Lib.hid (show ∀ u : World, Hid (Below w0.heap.size w0 u) → Hid (One u (some ⟨ba, oa, none⟩) 1 a0) from fun u h => Lib.hid ((HO.out.below) (below_ext HBw.out h.out)))
  have kP := Lib.hid (show ∀ u : World, Hid (Below w0.heap.size w0 u) → Hid (One u Z nz (zs.getD 0 0)) from fun u h => Lib.hid (((fun hb => one_of_sl (hZ.out.below hb) hzn.out)) (below_ext HBw.out h.out)))
  have k0x := Lib.hid (show ∀ u : World, Hid (Below w0.heap.size w0 u) → Hid (u.cell? ⟨ba, oa, none⟩ = some (.int .i64 a0)) from fun u h => Lib.hid ((cell_below HA0.out) (below_ext HBw.out h.out)))
  have HB_0 : Hid (Below w0.heap.size w0 w0) := Lib.hid (Below.refl _ _)
  have HW := Lib.hid hW
  clear hW hc hv hd hA hZ HA0 HO
  have k0 := Lib.hid (show ∀ u : World, Hid (Below w0.heap.size w0 u) → u.cell? ⟨ba, oa, none⟩ = some (.int .i64 a0) from fun u h => (k0x.out _ h).out)
  go_enter Tryz.func36, Tryz.ntmps36
  go_wp2_with fail
  rw [HW.out]
  obtain ⟨zc0, zc1, zc2, zc3, zc4, zc5⟩ := kC.out _ HB_0
  go_wp2_with fail
  refine (check_any16 P Q G b y (some ⟨ba, oa, none⟩) 1 ca a0 C Z nz cz (zs.getD 0 0) true HC hQ _ (kV.out _ HB_0) (kO.out _ HB_0) (kP.out _ HB_0)).mono ?_
  rintro e w1 ⟨rfl, hb0⟩
  have HB_1 := Lib.hid (below_ext HB_0.out hb0)
  clear zc0 zc1 zc2 zc3 zc4 zc5
  clear hb0
  obtain ⟨zc0, zc1, zc2, zc3, zc4, zc5⟩ := kC.out _ HB_1
  go_wp2_with fail
  clear zc0 zc1 zc2 zc3 zc4 zc5
  have hS := Lib.hid (show ∀ u1 u2 : World, Hid (Below w0.heap.size w0 u1) → Below u1.heap.size u1 u2 → (u2.cell? ⟨w.heap.size, 0, none⟩ = some (.int .i64 P) ∧ u2.cell? ⟨w.heap.size, 1, none⟩ = some (.int .i64 Q) ∧ u2.cell? ⟨w.heap.size, 2, none⟩ = some (.int .i64 G) ∧ u2.cell? ⟨w.heap.size + 1, 0, none⟩ = some (.slice (some ⟨ba, oa, none⟩) 1 ca) ∧ u2.cell? ⟨w.heap.size + 1, 1, none⟩ = some (.int .i64 C) ∧ u2.cell? ⟨w.heap.size + 1, 2, none⟩ = some (.slice Z nz cz) ∧ u2.cell? ⟨ba, oa, none⟩ = some (.int .i64 a0) ∧ Hid (Below w0.heap.size w0 u2)) from fun u1 u2 h1 h2 => by
    have h3 := Lib.hid (below_ext h1.out h2)
    obtain ⟨y0, y1, y2, y3, y4, y5⟩ := kC.out _ h3
    exact ⟨y0, y1, y2, y3, y4, y5, k0.out _ h3, h3⟩)
  refine wp_region_T (S := fun w' => w'.cell? ⟨w.heap.size, 0, none⟩ = some (.int .i64 P) ∧ w'.cell? ⟨w.heap.size, 1, none⟩ = some (.int .i64 Q) ∧ w'.cell? ⟨w.heap.size, 2, none⟩ = some (.int .i64 G) ∧ w'.cell? ⟨w.heap.size + 1, 0, none⟩ = some (.slice (some ⟨ba, oa, none⟩) 1 ca) ∧ w'.cell? ⟨w.heap.size + 1, 1, none⟩ = some (.int .i64 C) ∧ w'.cell? ⟨w.heap.size + 1, 2, none⟩ = some (.slice Z nz cz) ∧ w'.cell? ⟨ba, oa, none⟩ = some (.int .i64 a0) ∧ Hid (Below w0.heap.size w0 w')) (E := []) (by kernel_rfl) (hS.out _ _ HB_1 ((Below.refl _ _).drew)) (fun hHeld => ?_)
  refine wpT_take (i := 0) (oi := _) (v := ?_) rfl (by kernel_rfl) (by kernel_rfl) (by kernel_rfl) (by kernel_rfl) (fun _ _ _ h => h) (Or.inl ⟨by rfl, ?_⟩) (by assumption) ?_
  rotate_left; (intro wS hSw; (try dsimp only at hSw); go_simp <;> with_reducible rfl)
  try simp only [List.getElem_toArray, List.getElem_cons_zero, List.getElem_cons_succ, Act.put, List.setIfInBounds_toArray, List.set_cons_zero, List.set_cons_succ]
  refine wpT_take (i := 1) (oi := _) (v := ?_) rfl (by kernel_rfl) (by kernel_rfl) (by kernel_rfl) (by kernel_rfl) (fun _ _ _ h => h) (Or.inl ⟨by rfl, ?_⟩) (by assumption) ?_
  rotate_left; (intro wS hSw; (try dsimp only at hSw); go_simp <;> with_reducible rfl)
  try simp only [List.getElem_toArray, List.getElem_cons_zero, List.getElem_cons_succ, Act.put, List.setIfInBounds_toArray, List.set_cons_zero, List.set_cons_succ]
  refine wpT_take (i := 2) (oi := _) (v := ?_) rfl (by kernel_rfl) (by kernel_rfl) (by kernel_rfl) (by kernel_rfl) (fun _ _ _ h => h) (Or.inl ⟨by rfl, ?_⟩) (by assumption) ?_
  rotate_left; (intro wS hSw; (try dsimp only at hSw); go_simp <;> with_reducible rfl)
  try simp only [List.getElem_toArray, List.getElem_cons_zero, List.getElem_cons_succ, Act.put, List.setIfInBounds_toArray, List.set_cons_zero, List.set_cons_succ]
  refine wpT_take (i := 3) (oi := _) (v := ?_) rfl (by kernel_rfl) (by kernel_rfl) (by kernel_rfl) (by kernel_rfl) (fun _ _ _ h => h) (Or.inl ⟨by rfl, ?_⟩) (by assumption) ?_
  rotate_left; (intro wS hSw; (try dsimp only at hSw); go_simp <;> with_reducible rfl)
  try simp only [List.getElem_toArray, List.getElem_cons_zero, List.getElem_cons_succ, Act.put, List.setIfInBounds_toArray, List.set_cons_zero, List.set_cons_succ]
  refine wpT_take (i := 4) (oi := _) (v := ?_) rfl (by kernel_rfl) (by kernel_rfl) (by kernel_rfl) (by kernel_rfl) (fun _ _ _ h => h) (Or.inl ⟨by rfl, ?_⟩) (by assumption) ?_
  rotate_left; (intro wS hSw; (try dsimp only at hSw); go_simp <;> with_reducible rfl)
  try simp only [List.getElem_toArray, List.getElem_cons_zero, List.getElem_cons_succ, Act.put, List.setIfInBounds_toArray, List.set_cons_zero, List.set_cons_succ]
  refine wpT_take (i := 5) (oi := _) (v := ?_) rfl (by kernel_rfl) (by kernel_rfl) (by kernel_rfl) (by kernel_rfl) (fun _ _ _ h => h) (Or.inl ⟨by rfl, ?_⟩) (by assumption) ?_
  rotate_left; (intro wS hSw; (try dsimp only at hSw); go_simp <;> with_reducible rfl)
  try simp only [List.getElem_toArray, List.getElem_cons_zero, List.getElem_cons_succ, Act.put, List.setIfInBounds_toArray, List.set_cons_zero, List.set_cons_succ]
  refine wpT_take (i := 6) (oi := _) (v := ?_) rfl (by kernel_rfl) (by kernel_rfl) (by kernel_rfl) (by kernel_rfl) (fun _ _ _ h => h) (Or.inl ⟨by rfl, ?_⟩) (by assumption) ?_
  rotate_left; (intro wS hSw; (try dsimp only at hSw); go_simp <;> with_reducible rfl)
  try simp only [List.getElem_toArray, List.getElem_cons_zero, List.getElem_cons_succ, Act.put, List.setIfInBounds_toArray, List.set_cons_zero, List.set_cons_succ]
  refine wpT_take (i := 7) (oi := _) (v := ?_) rfl (by kernel_rfl) (by kernel_rfl) (by kernel_rfl) (by kernel_rfl) (fun _ _ _ h => h) (Or.inl ⟨by rfl, ?_⟩) (by assumption) ?_
  rotate_left; (intro wS hSw; (try dsimp only at hSw); go_simp <;> with_reducible rfl)
  try simp only [List.getElem_toArray, List.getElem_cons_zero, List.getElem_cons_succ, Act.put, List.setIfInBounds_toArray, List.set_cons_zero, List.set_cons_succ]
  refine wpT_one (i := 8) (by kernel_rfl) rfl (fun K hK => ?_)
  go_simp
  (with_reducible refine (kchal_bad P Q G b y a0 s hs hr _).mono ?_); rintro e wA ⟨rfl, hbA⟩
  refine hK.out _ _ ?_ (fun hHeld => ?_)
  · (go_split_ands; exact hS.out _ _ (by assumption) hbA)
  clear hK K
  try simp only [List.getElem_toArray, List.getElem_cons_zero, List.getElem_cons_succ, Act.put, List.setIfInBounds_toArray, List.set_cons_zero, List.set_cons_succ]
  refine wpT_take (i := 9) (oi := _) (v := ?_) rfl (by kernel_rfl) (by kernel_rfl) (by kernel_rfl) (by kernel_rfl) (fun _ _ _ h => h) (Or.inl ⟨by rfl, ?_⟩) (by assumption) ?_
  rotate_left; (intro wS hSw; (try dsimp only at hSw); go_simp <;> with_reducible rfl)
  try simp only [List.getElem_toArray, List.getElem_cons_zero, List.getElem_cons_succ, Act.put, List.setIfInBounds_toArray, List.set_cons_zero, List.set_cons_succ]
  refine wpT_take (i := 10) (oi := _) (v := ?_) rfl (by kernel_rfl) (by kernel_rfl) (by kernel_rfl) (by kernel_rfl) (fun _ _ _ h => h) (Or.inl ⟨by rfl, ?_⟩) (by assumption) ?_
  rotate_left; (intro wS hSw; (try dsimp only at hSw); go_simp <;> with_reducible rfl)
  try simp only [List.getElem_toArray, List.getElem_cons_zero, List.getElem_cons_succ, Act.put, List.setIfInBounds_toArray, List.set_cons_zero, List.set_cons_succ]
  refine wpT_take (i := 11) (oi := _) (v := ?_) rfl (by kernel_rfl) (by kernel_rfl) (by kernel_rfl) (by kernel_rfl) (fun _ _ _ h => h) (Or.inl ⟨by rfl, ?_⟩) (by assumption) ?_
  rotate_left; (intro wS hSw; (try dsimp only at hSw); go_simp <;> with_reducible rfl)
  try simp only [List.getElem_toArray, List.getElem_cons_zero, List.getElem_cons_succ, Act.put, List.setIfInBounds_toArray, List.set_cons_zero, List.set_cons_succ]
  refine wpT_take (i := 12) (oi := _) (v := ?_) rfl (by kernel_rfl) (by kernel_rfl) (by kernel_rfl) (by kernel_rfl) (fun _ _ _ h => h) (Or.inl ⟨by rfl, ?_⟩) (by assumption) ?_
  rotate_left; (intro wS hSw; (try dsimp only at hSw); go_simp <;> with_reducible rfl)
  try simp only [List.getElem_toArray, List.getElem_cons_zero, List.getElem_cons_succ, Act.put, List.setIfInBounds_toArray, List.set_cons_zero, List.set_cons_succ]
  refine wpT_take (i := 13) (oi := _) (v := ?_) rfl (by kernel_rfl) (by kernel_rfl) (by kernel_rfl) (by kernel_rfl) (fun _ _ _ h => h) (Or.inl ⟨by rfl, ?_⟩) (by assumption) ?_
  rotate_left; (intro wS hSw; (try dsimp only at hSw); go_simp <;> with_reducible rfl)
  try simp only [List.getElem_toArray, List.getElem_cons_zero, List.getElem_cons_succ, Act.put, List.setIfInBounds_toArray, List.set_cons_zero, List.set_cons_succ]
  refine wpT_done (by kernel_rfl) ?_ _
  obtain ⟨x0, x1, x2, x3, x4, x5, xa, HBF⟩ := hHeld
  have hbF := below_ext HBw.out HBF.out
  go_wp2
  go_ret
  exact ⟨rfl, hbF⟩
set_option maxHeartbeats 6400000 in
theorem kver_o (P Q G b y : Int) (A : Option Addr) (al : List Int) (na ca : Nat) (C : Int) (Z : Option Addr) (zs : List Int) (nz cz : Nat) (han : Hid (al.length = na)) (hzn : Hid (zs.length = nz)) (hQ : Q < 9223372036854775808) (s : ByteArray) (hs : s.size ≤ 1000) (h1a : na = 1) (HC : Hid (chkB P Q G b y na (al.getD 0 0) C nz (zs.getD 0 0) = true)) (hr : Hid (labB (bys s) = true)) (okg : Hid (okL [P, Q, G])) (okb : Hid (okL [b, y])) (oka : Hid (okL [al.getD 0 0])) (hQ1 : 2 ≤ Q) (hQ2 : Q < 2305843009213693952) (V : Int) (HV : Kp (chalK P Q G b y (al.getD 0 0) (bys s) = V)) (w : World) (hv : Hid (Vars w)) (hd : Hid (VarsD w)) (hA : Hid (Sl w A al)) (hZ : Hid (Sl w Z zs)) :
    Calls Tryz.prog 36 #[gv P Q G, .int .i64 b, .int .i64 y, .string s, prvL A na ca C Z nz cz] w fun e' w' => e' = .returned (.bool (V == C)) ∧ Below w.heap.size w w' := by
  obtain ⟨ba, oa, hAe, hA0⟩ := hA.out 0 (by rw [han.out]; omega)
  rw [Nat.add_zero] at hA0
  obtain ⟨a0, ha0⟩ : ∃ x, al.getD 0 0 = x := ⟨_, rfl⟩
  subst hAe
  rw [ha0] at hA0 HC oka HV
  have HA0 := Lib.hid hA0
  have HO : Hid (One w (some ⟨ba, oa, none⟩) 1 a0) := Lib.hid (by rw [← ha0, ← h1a]; exact one_of_sl hA.out han.out)
  clear hA0 ha0
  subst h1a
  obtain ⟨w0, hW⟩ : ∃ W, ((w.alloc (gObj P Q G)).alloc (prObjL (some ⟨ba, oa, none⟩) 1 ca C Z nz cz)) = W := ⟨_, rfl⟩
  have HBw : Hid (Below w.heap.size w w0) := Lib.hid (by rw [← hW]; exact below_two (Below.refl _ _))
  have hc : w0.cell? ⟨w.heap.size, 0, none⟩ = some (.int .i64 P) ∧ w0.cell? ⟨w.heap.size, 1, none⟩ = some (.int .i64 Q) ∧ w0.cell? ⟨w.heap.size, 2, none⟩ = some (.int .i64 G) ∧ w0.cell? ⟨w.heap.size + 1, 0, none⟩ = some (.slice (some ⟨ba, oa, none⟩) 1 ca) ∧ w0.cell? ⟨w.heap.size + 1, 1, none⟩ = some (.int .i64 C) ∧ w0.cell? ⟨w.heap.size + 1, 2, none⟩ = some (.slice Z nz cz) := by rw [← hW]; exact ⟨cell_below (allocs_cell (by simp) (by rfl)) (below_box0 _ _), cell_below (allocs_cell (by simp) (by rfl)) (below_box0 _ _), cell_below (allocs_cell (by simp) (by rfl)) (below_box0 _ _), allocs_cell (by simp) (by rfl), allocs_cell (by simp) (by rfl), allocs_cell (by simp) (by rfl)⟩
  have kC := Lib.hid (show ∀ u : World, Hid (Below w0.heap.size w0 u) → u.cell? ⟨w.heap.size, 0, none⟩ = some (.int .i64 P) ∧ u.cell? ⟨w.heap.size, 1, none⟩ = some (.int .i64 Q) ∧ u.cell? ⟨w.heap.size, 2, none⟩ = some (.int .i64 G) ∧ u.cell? ⟨w.heap.size + 1, 0, none⟩ = some (.slice (some ⟨ba, oa, none⟩) 1 ca) ∧ u.cell? ⟨w.heap.size + 1, 1, none⟩ = some (.int .i64 C) ∧ u.cell? ⟨w.heap.size + 1, 2, none⟩ = some (.slice Z nz cz) from fun u h => ⟨cell_below hc.1 h.out, cell_below hc.2.1 h.out, cell_below hc.2.2.1 h.out, cell_below hc.2.2.2.1 h.out, cell_below hc.2.2.2.2.1 h.out, cell_below hc.2.2.2.2.2 h.out⟩)
  have kV := Lib.hid (show ∀ u : World, Hid (Below w0.heap.size w0 u) → Hid (Vars u) from fun u h => Lib.hid ((hv.out.below) (below_ext HBw.out h.out)))
  have kD := Lib.hid (show ∀ u : World, Hid (Below w0.heap.size w0 u) → Hid (VarsD u) from fun u h => Lib.hid ((hd.out.below) (below_ext HBw.out h.out)))
  have kO := Lib.hid (show ∀ u : World, Hid (Below w0.heap.size w0 u) → Hid (One u (some ⟨ba, oa, none⟩) 1 a0) from fun u h => Lib.hid ((HO.out.below) (below_ext HBw.out h.out)))
  have kP := Lib.hid (show ∀ u : World, Hid (Below w0.heap.size w0 u) → Hid (One u Z nz (zs.getD 0 0)) from fun u h => Lib.hid (((fun hb => one_of_sl (hZ.out.below hb) hzn.out)) (below_ext HBw.out h.out)))
  have k0x := Lib.hid (show ∀ u : World, Hid (Below w0.heap.size w0 u) → Hid (u.cell? ⟨ba, oa, none⟩ = some (.int .i64 a0)) from fun u h => Lib.hid ((cell_below HA0.out) (below_ext HBw.out h.out)))
  have HB_0 : Hid (Below w0.heap.size w0 w0) := Lib.hid (Below.refl _ _)
  have HW := Lib.hid hW
  clear hW hc hv hd hA hZ HA0 HO
  have k0 := Lib.hid (show ∀ u : World, Hid (Below w0.heap.size w0 u) → u.cell? ⟨ba, oa, none⟩ = some (.int .i64 a0) from fun u h => (k0x.out _ h).out)
  go_enter Tryz.func36, Tryz.ntmps36
  go_wp2_with fail
  rw [HW.out]
  obtain ⟨zc0, zc1, zc2, zc3, zc4, zc5⟩ := kC.out _ HB_0
  go_wp2_with fail
  refine (check_any16 P Q G b y (some ⟨ba, oa, none⟩) 1 ca a0 C Z nz cz (zs.getD 0 0) true HC hQ _ (kV.out _ HB_0) (kO.out _ HB_0) (kP.out _ HB_0)).mono ?_
  rintro e w1 ⟨rfl, hb0⟩
  have HB_1 := Lib.hid (below_ext HB_0.out hb0)
  clear zc0 zc1 zc2 zc3 zc4 zc5
  clear hb0
  obtain ⟨zc0, zc1, zc2, zc3, zc4, zc5⟩ := kC.out _ HB_1
  go_wp2_with fail
  clear zc0 zc1 zc2 zc3 zc4 zc5
  have hS := Lib.hid (show ∀ u1 u2 : World, Hid (Below w0.heap.size w0 u1) → Below u1.heap.size u1 u2 → (u2.cell? ⟨w.heap.size, 0, none⟩ = some (.int .i64 P) ∧ u2.cell? ⟨w.heap.size, 1, none⟩ = some (.int .i64 Q) ∧ u2.cell? ⟨w.heap.size, 2, none⟩ = some (.int .i64 G) ∧ u2.cell? ⟨w.heap.size + 1, 0, none⟩ = some (.slice (some ⟨ba, oa, none⟩) 1 ca) ∧ u2.cell? ⟨w.heap.size + 1, 1, none⟩ = some (.int .i64 C) ∧ u2.cell? ⟨w.heap.size + 1, 2, none⟩ = some (.slice Z nz cz) ∧ u2.cell? ⟨ba, oa, none⟩ = some (.int .i64 a0) ∧ Hid (Below w0.heap.size w0 u2)) from fun u1 u2 h1 h2 => by
    have h3 := Lib.hid (below_ext h1.out h2)
    obtain ⟨y0, y1, y2, y3, y4, y5⟩ := kC.out _ h3
    exact ⟨y0, y1, y2, y3, y4, y5, k0.out _ h3, h3⟩)
  refine wp_region_T (S := fun w' => w'.cell? ⟨w.heap.size, 0, none⟩ = some (.int .i64 P) ∧ w'.cell? ⟨w.heap.size, 1, none⟩ = some (.int .i64 Q) ∧ w'.cell? ⟨w.heap.size, 2, none⟩ = some (.int .i64 G) ∧ w'.cell? ⟨w.heap.size + 1, 0, none⟩ = some (.slice (some ⟨ba, oa, none⟩) 1 ca) ∧ w'.cell? ⟨w.heap.size + 1, 1, none⟩ = some (.int .i64 C) ∧ w'.cell? ⟨w.heap.size + 1, 2, none⟩ = some (.slice Z nz cz) ∧ w'.cell? ⟨ba, oa, none⟩ = some (.int .i64 a0) ∧ Hid (Below w0.heap.size w0 w')) (E := []) (by kernel_rfl) (hS.out _ _ HB_1 ((Below.refl _ _).drew)) (fun hHeld => ?_)
  refine wpT_take (i := 0) (oi := _) (v := ?_) rfl (by kernel_rfl) (by kernel_rfl) (by kernel_rfl) (by kernel_rfl) (fun _ _ _ h => h) (Or.inl ⟨by rfl, ?_⟩) (by assumption) ?_
  rotate_left; (intro wS hSw; (try dsimp only at hSw); go_simp <;> with_reducible rfl)
  try simp only [List.getElem_toArray, List.getElem_cons_zero, List.getElem_cons_succ, Act.put, List.setIfInBounds_toArray, List.set_cons_zero, List.set_cons_succ]
  refine wpT_take (i := 1) (oi := _) (v := ?_) rfl (by kernel_rfl) (by kernel_rfl) (by kernel_rfl) (by kernel_rfl) (fun _ _ _ h => h) (Or.inl ⟨by rfl, ?_⟩) (by assumption) ?_
  rotate_left; (intro wS hSw; (try dsimp only at hSw); go_simp <;> with_reducible rfl)
  try simp only [List.getElem_toArray, List.getElem_cons_zero, List.getElem_cons_succ, Act.put, List.setIfInBounds_toArray, List.set_cons_zero, List.set_cons_succ]
  refine wpT_take (i := 2) (oi := _) (v := ?_) rfl (by kernel_rfl) (by kernel_rfl) (by kernel_rfl) (by kernel_rfl) (fun _ _ _ h => h) (Or.inl ⟨by rfl, ?_⟩) (by assumption) ?_
  rotate_left; (intro wS hSw; (try dsimp only at hSw); go_simp <;> with_reducible rfl)
  try simp only [List.getElem_toArray, List.getElem_cons_zero, List.getElem_cons_succ, Act.put, List.setIfInBounds_toArray, List.set_cons_zero, List.set_cons_succ]
  refine wpT_take (i := 3) (oi := _) (v := ?_) rfl (by kernel_rfl) (by kernel_rfl) (by kernel_rfl) (by kernel_rfl) (fun _ _ _ h => h) (Or.inl ⟨by rfl, ?_⟩) (by assumption) ?_
  rotate_left; (intro wS hSw; (try dsimp only at hSw); go_simp <;> with_reducible rfl)
  try simp only [List.getElem_toArray, List.getElem_cons_zero, List.getElem_cons_succ, Act.put, List.setIfInBounds_toArray, List.set_cons_zero, List.set_cons_succ]
  refine wpT_take (i := 4) (oi := _) (v := ?_) rfl (by kernel_rfl) (by kernel_rfl) (by kernel_rfl) (by kernel_rfl) (fun _ _ _ h => h) (Or.inl ⟨by rfl, ?_⟩) (by assumption) ?_
  rotate_left; (intro wS hSw; (try dsimp only at hSw); go_simp <;> with_reducible rfl)
  try simp only [List.getElem_toArray, List.getElem_cons_zero, List.getElem_cons_succ, Act.put, List.setIfInBounds_toArray, List.set_cons_zero, List.set_cons_succ]
  refine wpT_take (i := 5) (oi := _) (v := ?_) rfl (by kernel_rfl) (by kernel_rfl) (by kernel_rfl) (by kernel_rfl) (fun _ _ _ h => h) (Or.inl ⟨by rfl, ?_⟩) (by assumption) ?_
  rotate_left; (intro wS hSw; (try dsimp only at hSw); go_simp <;> with_reducible rfl)
  try simp only [List.getElem_toArray, List.getElem_cons_zero, List.getElem_cons_succ, Act.put, List.setIfInBounds_toArray, List.set_cons_zero, List.set_cons_succ]
  refine wpT_take (i := 6) (oi := _) (v := ?_) rfl (by kernel_rfl) (by kernel_rfl) (by kernel_rfl) (by kernel_rfl) (fun _ _ _ h => h) (Or.inl ⟨by rfl, ?_⟩) (by assumption) ?_
  rotate_left; (intro wS hSw; (try dsimp only at hSw); go_simp <;> with_reducible rfl)
  try simp only [List.getElem_toArray, List.getElem_cons_zero, List.getElem_cons_succ, Act.put, List.setIfInBounds_toArray, List.set_cons_zero, List.set_cons_succ]
  refine wpT_take (i := 7) (oi := _) (v := ?_) rfl (by kernel_rfl) (by kernel_rfl) (by kernel_rfl) (by kernel_rfl) (fun _ _ _ h => h) (Or.inl ⟨by rfl, ?_⟩) (by assumption) ?_
  rotate_left; (intro wS hSw; (try dsimp only at hSw); go_simp <;> with_reducible rfl)
  try simp only [List.getElem_toArray, List.getElem_cons_zero, List.getElem_cons_succ, Act.put, List.setIfInBounds_toArray, List.set_cons_zero, List.set_cons_succ]
  refine wpT_one (i := 8) (by kernel_rfl) rfl (fun K hK => ?_)
  go_simp
  (with_reducible refine (kchal_ok P Q G b y a0 s hs hr okg okb oka hQ1 hQ2 V HV _ ?_).mono ?_); (go_split_ands; exact kD.out _ (by assumption)); rintro e wA ⟨rfl, hbA⟩
  refine hK.out _ _ ?_ (fun hHeld => ?_)
  · (go_split_ands; exact hS.out _ _ (by assumption) hbA)
  clear hK K
  try simp only [List.getElem_toArray, List.getElem_cons_zero, List.getElem_cons_succ, Act.put, List.setIfInBounds_toArray, List.set_cons_zero, List.set_cons_succ]
  refine wpT_take (i := 9) (oi := _) (v := ?_) rfl (by kernel_rfl) (by kernel_rfl) (by kernel_rfl) (by kernel_rfl) (fun _ _ _ h => h) (Or.inl ⟨by rfl, ?_⟩) (by assumption) ?_
  rotate_left; (intro wS hSw; (try dsimp only at hSw); go_simp <;> with_reducible rfl)
  try simp only [List.getElem_toArray, List.getElem_cons_zero, List.getElem_cons_succ, Act.put, List.setIfInBounds_toArray, List.set_cons_zero, List.set_cons_succ]
  refine wpT_take (i := 10) (oi := _) (v := ?_) rfl (by kernel_rfl) (by kernel_rfl) (by kernel_rfl) (by kernel_rfl) (fun _ _ _ h => h) (Or.inl ⟨by rfl, ?_⟩) (by assumption) ?_
  rotate_left; (intro wS hSw; (try dsimp only at hSw); go_simp <;> with_reducible rfl)
  try simp only [List.getElem_toArray, List.getElem_cons_zero, List.getElem_cons_succ, Act.put, List.setIfInBounds_toArray, List.set_cons_zero, List.set_cons_succ]
  refine wpT_take (i := 11) (oi := _) (v := ?_) rfl (by kernel_rfl) (by kernel_rfl) (by kernel_rfl) (by kernel_rfl) (fun _ _ _ h => h) (Or.inl ⟨by rfl, ?_⟩) (by assumption) ?_
  rotate_left; (intro wS hSw; (try dsimp only at hSw); go_simp <;> with_reducible rfl)
  try simp only [List.getElem_toArray, List.getElem_cons_zero, List.getElem_cons_succ, Act.put, List.setIfInBounds_toArray, List.set_cons_zero, List.set_cons_succ]
  refine wpT_take (i := 12) (oi := _) (v := ?_) rfl (by kernel_rfl) (by kernel_rfl) (by kernel_rfl) (by kernel_rfl) (fun _ _ _ h => h) (Or.inl ⟨by rfl, ?_⟩) (by assumption) ?_
  rotate_left; (intro wS hSw; (try dsimp only at hSw); go_simp <;> with_reducible rfl)
  try simp only [List.getElem_toArray, List.getElem_cons_zero, List.getElem_cons_succ, Act.put, List.setIfInBounds_toArray, List.set_cons_zero, List.set_cons_succ]
  refine wpT_take (i := 13) (oi := _) (v := ?_) rfl (by kernel_rfl) (by kernel_rfl) (by kernel_rfl) (by kernel_rfl) (fun _ _ _ h => h) (Or.inl ⟨by rfl, ?_⟩) (by assumption) ?_
  rotate_left; (intro wS hSw; (try dsimp only at hSw); go_simp <;> with_reducible rfl)
  try simp only [List.getElem_toArray, List.getElem_cons_zero, List.getElem_cons_succ, Act.put, List.setIfInBounds_toArray, List.set_cons_zero, List.set_cons_succ]
  refine wpT_done (by kernel_rfl) ?_ _
  obtain ⟨x0, x1, x2, x3, x4, x5, xa, HBF⟩ := hHeld
  have hbF := below_ext HBw.out HBF.out
  go_wp2
  go_ret
  exact ⟨rfl, hbF⟩
theorem chkB_parts {P Q G b y : Int} {na : Nat} {a0 C : Int} {nz : Nat} {z0 : Int} (h : chkB P Q G b y na a0 C nz z0 = true) :
    validG P Q G = true ∧ okB P Q b = true ∧ memG P Q y = true ∧ na = 1 ∧ nz = 1 ∧ memG P Q a0 = true ∧ expB Q C = true ∧ expB Q z0 = true := by
  unfold chkB at h
  simp only [Bool.and_eq_true] at h
  obtain ⟨h1, h2, h3, h4, h5⟩ := h
  obtain ⟨f1, f2, f3, f4, f5⟩ := formB_parts h4
  exact ⟨h1, h2, h3, f1, f2, f3, f4, f5⟩
theorem chkB_ok {P Q G b y : Int} {na : Nat} {a0 C : Int} {nz : Nat} {z0 : Int} (h : chkB P Q G b y na a0 C nz z0 = true) : okL [P, Q, G] ∧ okL [b, y] ∧ okL [a0] ∧ 2 ≤ Q ∧ Q < 2305843009213693952 := by
  obtain ⟨v1, v2, v3, v4, v5, v6, _⟩ := chkB_parts h
  obtain ⟨p1, p2, p3, p4⟩ := validG_P v1
  have m1 := okB_mem v2
  exact ⟨valid_okg v1, mem_okL (Q := Q) p2 (by simp [m1, v3]) (by simp), mem_okL (Q := Q) p2 (by simp [v6]) (by simp), by omega, by omega⟩
/-- knowledge.Verify. -/
theorem kver_any (P Q G b y : Int) (A : Option Addr) (al : List Int) (na ca : Nat) (C : Int) (Z : Option Addr) (zs : List Int) (nz cz : Nat) (han : Hid (al.length = na)) (hzn : Hid (zs.length = nz)) (hQ : Q < 9223372036854775808) (s : ByteArray) (hs : s.size ≤ 1000) (r : Bool) (hr : Kp (verK P Q G b y C (bys s) al zs = r)) (w : World) (hv : Hid (Vars w)) (hd : Hid (VarsD w)) (hA : Hid (Sl w A al)) (hZ : Hid (Sl w Z zs)) :
    Calls Tryz.prog 36 #[gv P Q G, .int .i64 b, .int .i64 y, .string s, prvL A na ca C Z nz cz] w fun e' w' => e' = .returned (.bool r) ∧ Below w.heap.size w w' := by
  have hr1 := hr.1
  unfold verK at hr1
  rw [han.out, hzn.out] at hr1
  cases hc : chkB P Q G b y na (al.getD 0 0) C nz (zs.getD 0 0) with
  | false =>
    obtain rfl : r = false := by rw [← hr1, hc]; rfl
    exact kver_f P Q G b y A al na ca C Z zs nz cz han hzn hQ s hs (Lib.hid hc) w hv hd hA hZ
  | true =>
    obtain ⟨okg, okb, oka, q1, q2⟩ := chkB_ok hc
    have h1 := (chkB_parts hc).2.2.2.1
    cases hlb : labB (bys s) with
    | false =>
      obtain rfl : r = false := by rw [← hr1, hlb, Bool.false_and, Bool.and_false]
      exact kver_l P Q G b y A al na ca C Z zs nz cz han hzn hQ s hs h1 (Lib.hid hc) (Lib.hid hlb) w hv hd hA hZ
    | true =>
      obtain ⟨V, hV⟩ : ∃ V, chalK P Q G b y (al.getD 0 0) (bys s) = V := ⟨_, rfl⟩
      obtain rfl : (V == C) = r := by rw [← hr1, hc, hlb, hV]; rfl
      exact kver_o P Q G b y A al na ca C Z zs nz cz han hzn hQ s hs h1 (Lib.hid hc) (Lib.hid hlb) (Lib.hid okg) (Lib.hid okb) (Lib.hid oka) q1 q2 V ⟨hV⟩ w hv hd hA hZ
set_option maxHeartbeats 6400000 in
theorem rkver_l (P Q G b y : Int) (A : Option Addr) (al : List Int) (na ca : Nat) (C : Int) (Z : Option Addr) (zs : List Int) (nz cz : Nat) (han : Hid (al.length = na)) (hzn : Hid (zs.length = nz)) (hQ : Q < 9223372036854775808) (s : ByteArray) (hs : s.size ≤ 1000) (hr : Hid (labB (bys s) = false)) (w : World) (hA : Hid (Sl w A al)) (hZ : Hid (Sl w Z zs)) :
    Calls Tryz.prog 39 #[gv P Q G, .int .i64 b, .int .i64 y, .string s, prvL A na ca C Z nz cz] w fun e' w' => e' = .returned (.bool false) ∧ Below w.heap.size w w' := by
  obtain ⟨w0, hW⟩ : ∃ W, ((w.alloc (gObj P Q G)).alloc (prObjL A na ca C Z nz cz)) = W := ⟨_, rfl⟩
  have HBw : Hid (Below w.heap.size w w0) := Lib.hid (by rw [← hW]; exact below_two (Below.refl _ _))
  have hc : w0.cell? ⟨w.heap.size, 0, none⟩ = some (.int .i64 P) ∧ w0.cell? ⟨w.heap.size, 1, none⟩ = some (.int .i64 Q) ∧ w0.cell? ⟨w.heap.size, 2, none⟩ = some (.int .i64 G) ∧ w0.cell? ⟨w.heap.size + 1, 0, none⟩ = some (.slice A na ca) ∧ w0.cell? ⟨w.heap.size + 1, 1, none⟩ = some (.int .i64 C) ∧ w0.cell? ⟨w.heap.size + 1, 2, none⟩ = some (.slice Z nz cz) := by rw [← hW]; exact ⟨cell_below (allocs_cell (by simp) (by rfl)) (below_box0 _ _), cell_below (allocs_cell (by simp) (by rfl)) (below_box0 _ _), cell_below (allocs_cell (by simp) (by rfl)) (below_box0 _ _), allocs_cell (by simp) (by rfl), allocs_cell (by simp) (by rfl), allocs_cell (by simp) (by rfl)⟩
  have kC := Lib.hid (show ∀ u : World, Hid (Below w0.heap.size w0 u) → u.cell? ⟨w.heap.size, 0, none⟩ = some (.int .i64 P) ∧ u.cell? ⟨w.heap.size, 1, none⟩ = some (.int .i64 Q) ∧ u.cell? ⟨w.heap.size, 2, none⟩ = some (.int .i64 G) ∧ u.cell? ⟨w.heap.size + 1, 0, none⟩ = some (.slice A na ca) ∧ u.cell? ⟨w.heap.size + 1, 1, none⟩ = some (.int .i64 C) ∧ u.cell? ⟨w.heap.size + 1, 2, none⟩ = some (.slice Z nz cz) from fun u h => ⟨cell_below hc.1 h.out, cell_below hc.2.1 h.out, cell_below hc.2.2.1 h.out, cell_below hc.2.2.2.1 h.out, cell_below hc.2.2.2.2.1 h.out, cell_below hc.2.2.2.2.2 h.out⟩)
  have kA := Lib.hid (show ∀ u : World, Hid (Below w0.heap.size w0 u) → Hid (Sl u A al) from fun u h => Lib.hid ((hA.out.below) (below_ext HBw.out h.out)))
  have kO := Lib.hid (show ∀ u : World, Hid (Below w0.heap.size w0 u) → Hid (One u A na (al.getD 0 0)) from fun u h => Lib.hid (((fun hb => one_of_sl (hA.out.below hb) han.out)) (below_ext HBw.out h.out)))
  have kP := Lib.hid (show ∀ u : World, Hid (Below w0.heap.size w0 u) → Hid (One u Z nz (zs.getD 0 0)) from fun u h => Lib.hid (((fun hb => one_of_sl (hZ.out.below hb) hzn.out)) (below_ext HBw.out h.out)))
  have HB_0 : Hid (Below w0.heap.size w0 w0) := Lib.hid (Below.refl _ _)
  have HW := Lib.hid hW
  clear hW hc hA hZ
  go_enter Tryz.func39, Tryz.ntmps39
  go_wp2_with fail
  rw [HW.out]
  obtain ⟨zc0, zc1, zc2, zc3, zc4, zc5⟩ := kC.out _ HB_0
  clear zc0 zc1 zc2 zc3 zc4 zc5
  have hS := Lib.hid (show ∀ u1 u2 : World, Hid (Below w0.heap.size w0 u1) → Below u1.heap.size u1 u2 → (u2.cell? ⟨w.heap.size, 0, none⟩ = some (.int .i64 P) ∧ u2.cell? ⟨w.heap.size, 1, none⟩ = some (.int .i64 Q) ∧ u2.cell? ⟨w.heap.size, 2, none⟩ = some (.int .i64 G) ∧ u2.cell? ⟨w.heap.size + 1, 0, none⟩ = some (.slice A na ca) ∧ u2.cell? ⟨w.heap.size + 1, 1, none⟩ = some (.int .i64 C) ∧ u2.cell? ⟨w.heap.size + 1, 2, none⟩ = some (.slice Z nz cz) ∧ Hid (Below w0.heap.size w0 u2)) from fun u1 u2 h1 h2 => by
    have h3 := Lib.hid (below_ext h1.out h2)
    obtain ⟨y0, y1, y2, y3, y4, y5⟩ := kC.out _ h3
    exact ⟨y0, y1, y2, y3, y4, y5, h3⟩)
  refine wp_region_T (S := fun w' => w'.cell? ⟨w.heap.size, 0, none⟩ = some (.int .i64 P) ∧ w'.cell? ⟨w.heap.size, 1, none⟩ = some (.int .i64 Q) ∧ w'.cell? ⟨w.heap.size, 2, none⟩ = some (.int .i64 G) ∧ w'.cell? ⟨w.heap.size + 1, 0, none⟩ = some (.slice A na ca) ∧ w'.cell? ⟨w.heap.size + 1, 1, none⟩ = some (.int .i64 C) ∧ w'.cell? ⟨w.heap.size + 1, 2, none⟩ = some (.slice Z nz cz) ∧ Hid (Below w0.heap.size w0 w')) (E := []) (by kernel_rfl) (hS.out _ _ HB_0 ((Below.refl _ _).drew)) (fun hHeld => ?_)
  refine wpT_take (i := 0) (oi := _) (v := ?_) rfl (by kernel_rfl) (by kernel_rfl) (by kernel_rfl) (by kernel_rfl) (fun _ _ _ h => h) (Or.inl ⟨by rfl, ?_⟩) (by assumption) ?_
  rotate_left; (intro wS hSw; (try dsimp only at hSw); go_simp <;> with_reducible rfl)
  try simp only [List.getElem_toArray, List.getElem_cons_zero, List.getElem_cons_succ, Act.put, List.setIfInBounds_toArray, List.set_cons_zero, List.set_cons_succ]
  refine wpT_one (i := 1) (by kernel_rfl) rfl (fun K hK => ?_)
  go_simp
  (with_reducible refine (rlabel_any s hs false hr _).mono ?_); rintro e wB ⟨rfl, rfl⟩
  refine hK.out _ _ ?_ (fun hHeld => ?_)
  · (go_split_ands; exact ⟨by assumption, by assumption, by assumption, by assumption, by assumption, by assumption, by assumption⟩)
  clear hK K
  try simp only [List.getElem_toArray, List.getElem_cons_zero, List.getElem_cons_succ, Act.put, List.setIfInBounds_toArray, List.set_cons_zero, List.set_cons_succ]
  refine wpT_take (i := 2) (oi := _) (v := ?_) rfl (by kernel_rfl) (by kernel_rfl) (by kernel_rfl) (by kernel_rfl) (fun _ _ _ h => h) (Or.inl ⟨by rfl, ?_⟩) (by assumption) ?_
  rotate_left; (intro wS hSw; (try dsimp only at hSw); go_simp <;> with_reducible rfl)
  try simp only [List.getElem_toArray, List.getElem_cons_zero, List.getElem_cons_succ, Act.put, List.setIfInBounds_toArray, List.set_cons_zero, List.set_cons_succ]
  refine wpT_take (i := 3) (oi := _) (v := undef) rfl (by kernel_rfl) (by kernel_rfl) (by kernel_rfl) (by kernel_rfl) (fun _ _ _ h => h) (Or.inr ⟨by rfl, rfl⟩) (by assumption) ?_
  try simp only [List.getElem_toArray, List.getElem_cons_zero, List.getElem_cons_succ, Act.put, List.setIfInBounds_toArray, List.set_cons_zero, List.set_cons_succ]
  refine wpT_take (i := 4) (oi := _) (v := undef) rfl (by kernel_rfl) (by kernel_rfl) (by kernel_rfl) (by kernel_rfl) (fun _ _ _ h => h) (Or.inr ⟨by rfl, rfl⟩) (by assumption) ?_
  try simp only [List.getElem_toArray, List.getElem_cons_zero, List.getElem_cons_succ, Act.put, List.setIfInBounds_toArray, List.set_cons_zero, List.set_cons_succ]
  refine wpT_take (i := 5) (oi := _) (v := undef) rfl (by kernel_rfl) (by kernel_rfl) (by kernel_rfl) (by kernel_rfl) (fun _ _ _ h => h) (Or.inr ⟨by rfl, rfl⟩) (by assumption) ?_
  try simp only [List.getElem_toArray, List.getElem_cons_zero, List.getElem_cons_succ, Act.put, List.setIfInBounds_toArray, List.set_cons_zero, List.set_cons_succ]
  refine wpT_take (i := 6) (oi := _) (v := undef) rfl (by kernel_rfl) (by kernel_rfl) (by kernel_rfl) (by kernel_rfl) (fun _ _ _ h => h) (Or.inr ⟨by rfl, rfl⟩) (by assumption) ?_
  try simp only [List.getElem_toArray, List.getElem_cons_zero, List.getElem_cons_succ, Act.put, List.setIfInBounds_toArray, List.set_cons_zero, List.set_cons_succ]
  refine wpT_take (i := 7) (oi := _) (v := undef) rfl (by kernel_rfl) (by kernel_rfl) (by kernel_rfl) (by kernel_rfl) (fun _ _ _ h => h) (Or.inr ⟨by rfl, rfl⟩) (by assumption) ?_
  try simp only [List.getElem_toArray, List.getElem_cons_zero, List.getElem_cons_succ, Act.put, List.setIfInBounds_toArray, List.set_cons_zero, List.set_cons_succ]
  refine wpT_take (i := 8) (oi := _) (v := ?_) rfl (by kernel_rfl) (by kernel_rfl) (by kernel_rfl) (by kernel_rfl) (fun _ _ _ h => h) (Or.inl ⟨by rfl, ?_⟩) (by assumption) ?_
  rotate_left; (intro wS hSw; (try dsimp only at hSw); go_simp <;> with_reducible rfl)
  try simp only [List.getElem_toArray, List.getElem_cons_zero, List.getElem_cons_succ, Act.put, List.setIfInBounds_toArray, List.set_cons_zero, List.set_cons_succ]
  refine wpT_take (i := 9) (oi := _) (v := ?_) rfl (by kernel_rfl) (by kernel_rfl) (by kernel_rfl) (by kernel_rfl) (fun _ _ _ h => h) (Or.inl ⟨by rfl, ?_⟩) (by assumption) ?_
  rotate_left; (intro wS hSw; (try dsimp only at hSw); go_simp <;> with_reducible rfl)
  try simp only [List.getElem_toArray, List.getElem_cons_zero, List.getElem_cons_succ, Act.put, List.setIfInBounds_toArray, List.set_cons_zero, List.set_cons_succ]
  refine wpT_take (i := 10) (oi := _) (v := undef) rfl (by kernel_rfl) (by kernel_rfl) (by kernel_rfl) (by kernel_rfl) (fun _ _ _ h => h) (Or.inr ⟨by rfl, rfl⟩) (by assumption) ?_
  try simp only [List.getElem_toArray, List.getElem_cons_zero, List.getElem_cons_succ, Act.put, List.setIfInBounds_toArray, List.set_cons_zero, List.set_cons_succ]
  refine wpT_take (i := 11) (oi := _) (v := undef) rfl (by kernel_rfl) (by kernel_rfl) (by kernel_rfl) (by kernel_rfl) (fun _ _ _ h => h) (Or.inr ⟨by rfl, rfl⟩) (by assumption) ?_
  try simp only [List.getElem_toArray, List.getElem_cons_zero, List.getElem_cons_succ, Act.put, List.setIfInBounds_toArray, List.set_cons_zero, List.set_cons_succ]
  refine wpT_take (i := 12) (oi := _) (v := undef) rfl (by kernel_rfl) (by kernel_rfl) (by kernel_rfl) (by kernel_rfl) (fun _ _ _ h => h) (Or.inr ⟨by rfl, rfl⟩) (by assumption) ?_
  try simp only [List.getElem_toArray, List.getElem_cons_zero, List.getElem_cons_succ, Act.put, List.setIfInBounds_toArray, List.set_cons_zero, List.set_cons_succ]
  refine wpT_take (i := 13) (oi := _) (v := undef) rfl (by kernel_rfl) (by kernel_rfl) (by kernel_rfl) (by kernel_rfl) (fun _ _ _ h => h) (Or.inr ⟨by rfl, rfl⟩) (by assumption) ?_
  try simp only [List.getElem_toArray, List.getElem_cons_zero, List.getElem_cons_succ, Act.put, List.setIfInBounds_toArray, List.set_cons_zero, List.set_cons_succ]
  refine wpT_take (i := 14) (oi := _) (v := undef) rfl (by kernel_rfl) (by kernel_rfl) (by kernel_rfl) (by kernel_rfl) (fun _ _ _ h => h) (Or.inr ⟨by rfl, rfl⟩) (by assumption) ?_
  try simp only [List.getElem_toArray, List.getElem_cons_zero, List.getElem_cons_succ, Act.put, List.setIfInBounds_toArray, List.set_cons_zero, List.set_cons_succ]
  refine wpT_take (i := 15) (oi := _) (v := undef) rfl (by kernel_rfl) (by kernel_rfl) (by kernel_rfl) (by kernel_rfl) (fun _ _ _ h => h) (Or.inr ⟨by rfl, rfl⟩) (by assumption) ?_
  try simp only [List.getElem_toArray, List.getElem_cons_zero, List.getElem_cons_succ, Act.put, List.setIfInBounds_toArray, List.set_cons_zero, List.set_cons_succ]
  refine wpT_take (i := 16) (oi := _) (v := undef) rfl (by kernel_rfl) (by kernel_rfl) (by kernel_rfl) (by kernel_rfl) (fun _ _ _ h => h) (Or.inr ⟨by rfl, rfl⟩) (by assumption) ?_
  try simp only [List.getElem_toArray, List.getElem_cons_zero, List.getElem_cons_succ, Act.put, List.setIfInBounds_toArray, List.set_cons_zero, List.set_cons_succ]
  refine wpT_take (i := 17) (oi := _) (v := undef) rfl (by kernel_rfl) (by kernel_rfl) (by kernel_rfl) (by kernel_rfl) (fun _ _ _ h => h) (Or.inr ⟨by rfl, rfl⟩) (by assumption) ?_
  try simp only [List.getElem_toArray, List.getElem_cons_zero, List.getElem_cons_succ, Act.put, List.setIfInBounds_toArray, List.set_cons_zero, List.set_cons_succ]
  refine wpT_take (i := 18) (oi := _) (v := undef) rfl (by kernel_rfl) (by kernel_rfl) (by kernel_rfl) (by kernel_rfl) (fun _ _ _ h => h) (Or.inr ⟨by rfl, rfl⟩) (by assumption) ?_
  try simp only [List.getElem_toArray, List.getElem_cons_zero, List.getElem_cons_succ, Act.put, List.setIfInBounds_toArray, List.set_cons_zero, List.set_cons_succ]
  refine wpT_take (i := 19) (oi := _) (v := undef) rfl (by kernel_rfl) (by kernel_rfl) (by kernel_rfl) (by kernel_rfl) (fun _ _ _ h => h) (Or.inr ⟨by rfl, rfl⟩) (by assumption) ?_
  try simp only [List.getElem_toArray, List.getElem_cons_zero, List.getElem_cons_succ, Act.put, List.setIfInBounds_toArray, List.set_cons_zero, List.set_cons_succ]
  refine wpT_take (i := 20) (oi := _) (v := ?_) rfl (by kernel_rfl) (by kernel_rfl) (by kernel_rfl) (by kernel_rfl) (fun _ _ _ h => h) (Or.inl ⟨by rfl, ?_⟩) (by assumption) ?_
  rotate_left; (intro wS hSw; (try dsimp only at hSw); go_simp <;> with_reducible rfl)
  try simp only [List.getElem_toArray, List.getElem_cons_zero, List.getElem_cons_succ, Act.put, List.setIfInBounds_toArray, List.set_cons_zero, List.set_cons_succ]
  refine wpT_take (i := 21) (oi := _) (v := ?_) rfl (by kernel_rfl) (by kernel_rfl) (by kernel_rfl) (by kernel_rfl) (fun _ _ _ h => h) (Or.inl ⟨by rfl, ?_⟩) (by assumption) ?_
  rotate_left; (intro wS hSw; (try dsimp only at hSw); go_simp <;> with_reducible rfl)
  try simp only [List.getElem_toArray, List.getElem_cons_zero, List.getElem_cons_succ, Act.put, List.setIfInBounds_toArray, List.set_cons_zero, List.set_cons_succ]
  refine wpT_done (by kernel_rfl) ?_ _
  obtain ⟨x0, x1, x2, x3, x4, x5, HBF⟩ := hHeld
  have hbF := below_ext HBw.out HBF.out
  go_wp2
  go_ret
  exact ⟨rfl, hbF⟩
set_option maxHeartbeats 6400000 in
theorem rkver_f (P Q G b y : Int) (A : Option Addr) (al : List Int) (na ca : Nat) (C : Int) (Z : Option Addr) (zs : List Int) (nz cz : Nat) (han : Hid (al.length = na)) (hzn : Hid (zs.length = nz)) (hQ : Q < 9223372036854775808) (s : ByteArray) (hs : s.size ≤ 1000) (hr : Hid (labB (bys s) = true)) (HC : Hid (chkB P Q G b y na (al.getD 0 0) C nz (zs.getD 0 0) = false)) (w : World) (hA : Hid (Sl w A al)) (hZ : Hid (Sl w Z zs)) :
    Calls Tryz.prog 39 #[gv P Q G, .int .i64 b, .int .i64 y, .string s, prvL A na ca C Z nz cz] w fun e' w' => e' = .returned (.bool false) ∧ Below w.heap.size w w' := by
  obtain ⟨w0, hW⟩ : ∃ W, ((w.alloc (gObj P Q G)).alloc (prObjL A na ca C Z nz cz)) = W := ⟨_, rfl⟩
  have HBw : Hid (Below w.heap.size w w0) := Lib.hid (by rw [← hW]; exact below_two (Below.refl _ _))
  have hc : w0.cell? ⟨w.heap.size, 0, none⟩ = some (.int .i64 P) ∧ w0.cell? ⟨w.heap.size, 1, none⟩ = some (.int .i64 Q) ∧ w0.cell? ⟨w.heap.size, 2, none⟩ = some (.int .i64 G) ∧ w0.cell? ⟨w.heap.size + 1, 0, none⟩ = some (.slice A na ca) ∧ w0.cell? ⟨w.heap.size + 1, 1, none⟩ = some (.int .i64 C) ∧ w0.cell? ⟨w.heap.size + 1, 2, none⟩ = some (.slice Z nz cz) := by rw [← hW]; exact ⟨cell_below (allocs_cell (by simp) (by rfl)) (below_box0 _ _), cell_below (allocs_cell (by simp) (by rfl)) (below_box0 _ _), cell_below (allocs_cell (by simp) (by rfl)) (below_box0 _ _), allocs_cell (by simp) (by rfl), allocs_cell (by simp) (by rfl), allocs_cell (by simp) (by rfl)⟩
  have kC := Lib.hid (show ∀ u : World, Hid (Below w0.heap.size w0 u) → u.cell? ⟨w.heap.size, 0, none⟩ = some (.int .i64 P) ∧ u.cell? ⟨w.heap.size, 1, none⟩ = some (.int .i64 Q) ∧ u.cell? ⟨w.heap.size, 2, none⟩ = some (.int .i64 G) ∧ u.cell? ⟨w.heap.size + 1, 0, none⟩ = some (.slice A na ca) ∧ u.cell? ⟨w.heap.size + 1, 1, none⟩ = some (.int .i64 C) ∧ u.cell? ⟨w.heap.size + 1, 2, none⟩ = some (.slice Z nz cz) from fun u h => ⟨cell_below hc.1 h.out, cell_below hc.2.1 h.out, cell_below hc.2.2.1 h.out, cell_below hc.2.2.2.1 h.out, cell_below hc.2.2.2.2.1 h.out, cell_below hc.2.2.2.2.2 h.out⟩)
  have kA := Lib.hid (show ∀ u : World, Hid (Below w0.heap.size w0 u) → Hid (Sl u A al) from fun u h => Lib.hid ((hA.out.below) (below_ext HBw.out h.out)))
  have kO := Lib.hid (show ∀ u : World, Hid (Below w0.heap.size w0 u) → Hid (One u A na (al.getD 0 0)) from fun u h => Lib.hid (((fun hb => one_of_sl (hA.out.below hb) han.out)) (below_ext HBw.out h.out)))
  have kP := Lib.hid (show ∀ u : World, Hid (Below w0.heap.size w0 u) → Hid (One u Z nz (zs.getD 0 0)) from fun u h => Lib.hid (((fun hb => one_of_sl (hZ.out.below hb) hzn.out)) (below_ext HBw.out h.out)))
  have HB_0 : Hid (Below w0.heap.size w0 w0) := Lib.hid (Below.refl _ _)
  have HW := Lib.hid hW
  clear hW hc hA hZ
  go_enter Tryz.func39, Tryz.ntmps39
  go_wp2_with fail
  rw [HW.out]
  obtain ⟨zc0, zc1, zc2, zc3, zc4, zc5⟩ := kC.out _ HB_0
  clear zc0 zc1 zc2 zc3 zc4 zc5
  have hS := Lib.hid (show ∀ u1 u2 : World, Hid (Below w0.heap.size w0 u1) → Below u1.heap.size u1 u2 → (u2.cell? ⟨w.heap.size, 0, none⟩ = some (.int .i64 P) ∧ u2.cell? ⟨w.heap.size, 1, none⟩ = some (.int .i64 Q) ∧ u2.cell? ⟨w.heap.size, 2, none⟩ = some (.int .i64 G) ∧ u2.cell? ⟨w.heap.size + 1, 0, none⟩ = some (.slice A na ca) ∧ u2.cell? ⟨w.heap.size + 1, 1, none⟩ = some (.int .i64 C) ∧ u2.cell? ⟨w.heap.size + 1, 2, none⟩ = some (.slice Z nz cz) ∧ Hid (Below w0.heap.size w0 u2)) from fun u1 u2 h1 h2 => by
    have h3 := Lib.hid (below_ext h1.out h2)
    obtain ⟨y0, y1, y2, y3, y4, y5⟩ := kC.out _ h3
    exact ⟨y0, y1, y2, y3, y4, y5, h3⟩)
  refine wp_region_T (S := fun w' => w'.cell? ⟨w.heap.size, 0, none⟩ = some (.int .i64 P) ∧ w'.cell? ⟨w.heap.size, 1, none⟩ = some (.int .i64 Q) ∧ w'.cell? ⟨w.heap.size, 2, none⟩ = some (.int .i64 G) ∧ w'.cell? ⟨w.heap.size + 1, 0, none⟩ = some (.slice A na ca) ∧ w'.cell? ⟨w.heap.size + 1, 1, none⟩ = some (.int .i64 C) ∧ w'.cell? ⟨w.heap.size + 1, 2, none⟩ = some (.slice Z nz cz) ∧ Hid (Below w0.heap.size w0 w')) (E := []) (by kernel_rfl) (hS.out _ _ HB_0 ((Below.refl _ _).drew)) (fun hHeld => ?_)
  refine wpT_take (i := 0) (oi := _) (v := ?_) rfl (by kernel_rfl) (by kernel_rfl) (by kernel_rfl) (by kernel_rfl) (fun _ _ _ h => h) (Or.inl ⟨by rfl, ?_⟩) (by assumption) ?_
  rotate_left; (intro wS hSw; (try dsimp only at hSw); go_simp <;> with_reducible rfl)
  try simp only [List.getElem_toArray, List.getElem_cons_zero, List.getElem_cons_succ, Act.put, List.setIfInBounds_toArray, List.set_cons_zero, List.set_cons_succ]
  refine wpT_one (i := 1) (by kernel_rfl) rfl (fun K hK => ?_)
  go_simp
  (with_reducible refine (rlabel_any s hs true hr _).mono ?_); rintro e wB ⟨rfl, rfl⟩
  refine hK.out _ _ ?_ (fun hHeld => ?_)
  · (go_split_ands; exact ⟨by assumption, by assumption, by assumption, by assumption, by assumption, by assumption, by assumption⟩)
  clear hK K
  try simp only [List.getElem_toArray, List.getElem_cons_zero, List.getElem_cons_succ, Act.put, List.setIfInBounds_toArray, List.set_cons_zero, List.set_cons_succ]
  refine wpT_take (i := 2) (oi := _) (v := ?_) rfl (by kernel_rfl) (by kernel_rfl) (by kernel_rfl) (by kernel_rfl) (fun _ _ _ h => h) (Or.inl ⟨by rfl, ?_⟩) (by assumption) ?_
  rotate_left; (intro wS hSw; (try dsimp only at hSw); go_simp <;> with_reducible rfl)
  try simp only [List.getElem_toArray, List.getElem_cons_zero, List.getElem_cons_succ, Act.put, List.setIfInBounds_toArray, List.set_cons_zero, List.set_cons_succ]
  refine wpT_take (i := 3) (oi := _) (v := ?_) rfl (by kernel_rfl) (by kernel_rfl) (by kernel_rfl) (by kernel_rfl) (fun _ _ _ h => h) (Or.inl ⟨by rfl, ?_⟩) (by assumption) ?_
  rotate_left; (intro wS hSw; (try dsimp only at hSw); go_simp <;> with_reducible rfl)
  try simp only [List.getElem_toArray, List.getElem_cons_zero, List.getElem_cons_succ, Act.put, List.setIfInBounds_toArray, List.set_cons_zero, List.set_cons_succ]
  refine wpT_take (i := 4) (oi := _) (v := ?_) rfl (by kernel_rfl) (by kernel_rfl) (by kernel_rfl) (by kernel_rfl) (fun _ _ _ h => h) (Or.inl ⟨by rfl, ?_⟩) (by assumption) ?_
  rotate_left; (intro wS hSw; (try dsimp only at hSw); go_simp <;> with_reducible rfl)
  try simp only [List.getElem_toArray, List.getElem_cons_zero, List.getElem_cons_succ, Act.put, List.setIfInBounds_toArray, List.set_cons_zero, List.set_cons_succ]
  refine wpT_take (i := 5) (oi := _) (v := ?_) rfl (by kernel_rfl) (by kernel_rfl) (by kernel_rfl) (by kernel_rfl) (fun _ _ _ h => h) (Or.inl ⟨by rfl, ?_⟩) (by assumption) ?_
  rotate_left; (intro wS hSw; (try dsimp only at hSw); go_simp <;> with_reducible rfl)
  try simp only [List.getElem_toArray, List.getElem_cons_zero, List.getElem_cons_succ, Act.put, List.setIfInBounds_toArray, List.set_cons_zero, List.set_cons_succ]
  refine wpT_take (i := 6) (oi := _) (v := ?_) rfl (by kernel_rfl) (by kernel_rfl) (by kernel_rfl) (by kernel_rfl) (fun _ _ _ h => h) (Or.inl ⟨by rfl, ?_⟩) (by assumption) ?_
  rotate_left; (intro wS hSw; (try dsimp only at hSw); go_simp <;> with_reducible rfl)
  try simp only [List.getElem_toArray, List.getElem_cons_zero, List.getElem_cons_succ, Act.put, List.setIfInBounds_toArray, List.set_cons_zero, List.set_cons_succ]
  refine wpT_one (i := 7) (by kernel_rfl) rfl (fun K hK => ?_)
  go_simp
  (with_reducible refine (rcheck_any16 P Q G b y A na ca (al.getD 0 0) C Z nz cz (zs.getD 0 0) false HC hQ _ ?_ ?_).mono ?_); (go_split_ands; exact kO.out _ (by assumption)); (go_split_ands; exact kP.out _ (by assumption)); rintro e wA ⟨rfl, hbA⟩
  refine hK.out _ _ ?_ (fun hHeld => ?_)
  · (go_split_ands; exact hS.out _ _ (by assumption) hbA)
  clear hK K
  try simp only [List.getElem_toArray, List.getElem_cons_zero, List.getElem_cons_succ, Act.put, List.setIfInBounds_toArray, List.set_cons_zero, List.set_cons_succ]
  refine wpT_take (i := 8) (oi := _) (v := ?_) rfl (by kernel_rfl) (by kernel_rfl) (by kernel_rfl) (by kernel_rfl) (fun _ _ _ h => h) (Or.inl ⟨by rfl, ?_⟩) (by assumption) ?_
  rotate_left; (intro wS hSw; (try dsimp only at hSw); go_simp <;> with_reducible rfl)
  try simp only [List.getElem_toArray, List.getElem_cons_zero, List.getElem_cons_succ, Act.put, List.setIfInBounds_toArray, List.set_cons_zero, List.set_cons_succ]
  refine wpT_take (i := 9) (oi := _) (v := ?_) rfl (by kernel_rfl) (by kernel_rfl) (by kernel_rfl) (by kernel_rfl) (fun _ _ _ h => h) (Or.inl ⟨by rfl, ?_⟩) (by assumption) ?_
  rotate_left; (intro wS hSw; (try dsimp only at hSw); go_simp <;> with_reducible rfl)
  try simp only [List.getElem_toArray, List.getElem_cons_zero, List.getElem_cons_succ, Act.put, List.setIfInBounds_toArray, List.set_cons_zero, List.set_cons_succ]
  refine wpT_take (i := 10) (oi := _) (v := undef) rfl (by kernel_rfl) (by kernel_rfl) (by kernel_rfl) (by kernel_rfl) (fun _ _ _ h => h) (Or.inr ⟨by rfl, rfl⟩) (by assumption) ?_
  try simp only [List.getElem_toArray, List.getElem_cons_zero, List.getElem_cons_succ, Act.put, List.setIfInBounds_toArray, List.set_cons_zero, List.set_cons_succ]
  refine wpT_take (i := 11) (oi := _) (v := undef) rfl (by kernel_rfl) (by kernel_rfl) (by kernel_rfl) (by kernel_rfl) (fun _ _ _ h => h) (Or.inr ⟨by rfl, rfl⟩) (by assumption) ?_
  try simp only [List.getElem_toArray, List.getElem_cons_zero, List.getElem_cons_succ, Act.put, List.setIfInBounds_toArray, List.set_cons_zero, List.set_cons_succ]
  refine wpT_take (i := 12) (oi := _) (v := undef) rfl (by kernel_rfl) (by kernel_rfl) (by kernel_rfl) (by kernel_rfl) (fun _ _ _ h => h) (Or.inr ⟨by rfl, rfl⟩) (by assumption) ?_
  try simp only [List.getElem_toArray, List.getElem_cons_zero, List.getElem_cons_succ, Act.put, List.setIfInBounds_toArray, List.set_cons_zero, List.set_cons_succ]
  refine wpT_take (i := 13) (oi := _) (v := undef) rfl (by kernel_rfl) (by kernel_rfl) (by kernel_rfl) (by kernel_rfl) (fun _ _ _ h => h) (Or.inr ⟨by rfl, rfl⟩) (by assumption) ?_
  try simp only [List.getElem_toArray, List.getElem_cons_zero, List.getElem_cons_succ, Act.put, List.setIfInBounds_toArray, List.set_cons_zero, List.set_cons_succ]
  refine wpT_take (i := 14) (oi := _) (v := undef) rfl (by kernel_rfl) (by kernel_rfl) (by kernel_rfl) (by kernel_rfl) (fun _ _ _ h => h) (Or.inr ⟨by rfl, rfl⟩) (by assumption) ?_
  try simp only [List.getElem_toArray, List.getElem_cons_zero, List.getElem_cons_succ, Act.put, List.setIfInBounds_toArray, List.set_cons_zero, List.set_cons_succ]
  refine wpT_take (i := 15) (oi := _) (v := undef) rfl (by kernel_rfl) (by kernel_rfl) (by kernel_rfl) (by kernel_rfl) (fun _ _ _ h => h) (Or.inr ⟨by rfl, rfl⟩) (by assumption) ?_
  try simp only [List.getElem_toArray, List.getElem_cons_zero, List.getElem_cons_succ, Act.put, List.setIfInBounds_toArray, List.set_cons_zero, List.set_cons_succ]
  refine wpT_take (i := 16) (oi := _) (v := undef) rfl (by kernel_rfl) (by kernel_rfl) (by kernel_rfl) (by kernel_rfl) (fun _ _ _ h => h) (Or.inr ⟨by rfl, rfl⟩) (by assumption) ?_
  try simp only [List.getElem_toArray, List.getElem_cons_zero, List.getElem_cons_succ, Act.put, List.setIfInBounds_toArray, List.set_cons_zero, List.set_cons_succ]
  refine wpT_take (i := 17) (oi := _) (v := undef) rfl (by kernel_rfl) (by kernel_rfl) (by kernel_rfl) (by kernel_rfl) (fun _ _ _ h => h) (Or.inr ⟨by rfl, rfl⟩) (by assumption) ?_
  try simp only [List.getElem_toArray, List.getElem_cons_zero, List.getElem_cons_succ, Act.put, List.setIfInBounds_toArray, List.set_cons_zero, List.set_cons_succ]
  refine wpT_take (i := 18) (oi := _) (v := undef) rfl (by kernel_rfl) (by kernel_rfl) (by kernel_rfl) (by kernel_rfl) (fun _ _ _ h => h) (Or.inr ⟨by rfl, rfl⟩) (by assumption) ?_
  try simp only [List.getElem_toArray, List.getElem_cons_zero, List.getElem_cons_succ, Act.put, List.setIfInBounds_toArray, List.set_cons_zero, List.set_cons_succ]
  refine wpT_take (i := 19) (oi := _) (v := undef) rfl (by kernel_rfl) (by kernel_rfl) (by kernel_rfl) (by kernel_rfl) (fun _ _ _ h => h) (Or.inr ⟨by rfl, rfl⟩) (by assumption) ?_
  try simp only [List.getElem_toArray, List.getElem_cons_zero, List.getElem_cons_succ, Act.put, List.setIfInBounds_toArray, List.set_cons_zero, List.set_cons_succ]
  refine wpT_take (i := 20) (oi := _) (v := ?_) rfl (by kernel_rfl) (by kernel_rfl) (by kernel_rfl) (by kernel_rfl) (fun _ _ _ h => h) (Or.inl ⟨by rfl, ?_⟩) (by assumption) ?_
  rotate_left; (intro wS hSw; (try dsimp only at hSw); go_simp <;> with_reducible rfl)
  try simp only [List.getElem_toArray, List.getElem_cons_zero, List.getElem_cons_succ, Act.put, List.setIfInBounds_toArray, List.set_cons_zero, List.set_cons_succ]
  refine wpT_take (i := 21) (oi := _) (v := ?_) rfl (by kernel_rfl) (by kernel_rfl) (by kernel_rfl) (by kernel_rfl) (fun _ _ _ h => h) (Or.inl ⟨by rfl, ?_⟩) (by assumption) ?_
  rotate_left; (intro wS hSw; (try dsimp only at hSw); go_simp <;> with_reducible rfl)
  try simp only [List.getElem_toArray, List.getElem_cons_zero, List.getElem_cons_succ, Act.put, List.setIfInBounds_toArray, List.set_cons_zero, List.set_cons_succ]
  refine wpT_done (by kernel_rfl) ?_ _
  obtain ⟨x0, x1, x2, x3, x4, x5, HBF⟩ := hHeld
  have hbF := below_ext HBw.out HBF.out
  go_wp2
  go_ret
  exact ⟨rfl, hbF⟩
set_option maxHeartbeats 6400000 in
theorem rkver_o (P Q G b y : Int) (A : Option Addr) (al : List Int) (na ca : Nat) (C : Int) (Z : Option Addr) (zs : List Int) (nz cz : Nat) (han : Hid (al.length = na)) (hzn : Hid (zs.length = nz)) (hQ : Q < 9223372036854775808) (s : ByteArray) (hs : s.size ≤ 1000) (hr : Hid (labB (bys s) = true)) (HC : Hid (chkB P Q G b y na (al.getD 0 0) C nz (zs.getD 0 0) = true)) (okg : Hid (okL [P, Q, G])) (okb : Hid (okL [b, y])) (oka : Hid (okL al)) (hQ1 : 2 ≤ Q) (hQ2 : Q < 2305843009213693952) (V : Int) (HV : Kp (chN Q (absL (absL (absL (newL (bys s)) (bys lbGroup) [P, Q, G]) (bys lbState) [b, y]) (bys lbComm) al) (bys lbCh) = V)) (w : World) (hA : Hid (Sl w A al)) (hZ : Hid (Sl w Z zs)) :
    Calls Tryz.prog 39 #[gv P Q G, .int .i64 b, .int .i64 y, .string s, prvL A na ca C Z nz cz] w fun e' w' => e' = .returned (.bool (C == V)) ∧ Below w.heap.size w w' := by
  obtain ⟨w0, hW⟩ : ∃ W, ((w.alloc (gObj P Q G)).alloc (prObjL A na ca C Z nz cz)) = W := ⟨_, rfl⟩
  have HBw : Hid (Below w.heap.size w w0) := Lib.hid (by rw [← hW]; exact below_two (Below.refl _ _))
  have hc : w0.cell? ⟨w.heap.size, 0, none⟩ = some (.int .i64 P) ∧ w0.cell? ⟨w.heap.size, 1, none⟩ = some (.int .i64 Q) ∧ w0.cell? ⟨w.heap.size, 2, none⟩ = some (.int .i64 G) ∧ w0.cell? ⟨w.heap.size + 1, 0, none⟩ = some (.slice A na ca) ∧ w0.cell? ⟨w.heap.size + 1, 1, none⟩ = some (.int .i64 C) ∧ w0.cell? ⟨w.heap.size + 1, 2, none⟩ = some (.slice Z nz cz) := by rw [← hW]; exact ⟨cell_below (allocs_cell (by simp) (by rfl)) (below_box0 _ _), cell_below (allocs_cell (by simp) (by rfl)) (below_box0 _ _), cell_below (allocs_cell (by simp) (by rfl)) (below_box0 _ _), allocs_cell (by simp) (by rfl), allocs_cell (by simp) (by rfl), allocs_cell (by simp) (by rfl)⟩
  have kC := Lib.hid (show ∀ u : World, Hid (Below w0.heap.size w0 u) → u.cell? ⟨w.heap.size, 0, none⟩ = some (.int .i64 P) ∧ u.cell? ⟨w.heap.size, 1, none⟩ = some (.int .i64 Q) ∧ u.cell? ⟨w.heap.size, 2, none⟩ = some (.int .i64 G) ∧ u.cell? ⟨w.heap.size + 1, 0, none⟩ = some (.slice A na ca) ∧ u.cell? ⟨w.heap.size + 1, 1, none⟩ = some (.int .i64 C) ∧ u.cell? ⟨w.heap.size + 1, 2, none⟩ = some (.slice Z nz cz) from fun u h => ⟨cell_below hc.1 h.out, cell_below hc.2.1 h.out, cell_below hc.2.2.1 h.out, cell_below hc.2.2.2.1 h.out, cell_below hc.2.2.2.2.1 h.out, cell_below hc.2.2.2.2.2 h.out⟩)
  have kA := Lib.hid (show ∀ u : World, Hid (Below w0.heap.size w0 u) → Hid (Sl u A al) from fun u h => Lib.hid ((hA.out.below) (below_ext HBw.out h.out)))
  have kO := Lib.hid (show ∀ u : World, Hid (Below w0.heap.size w0 u) → Hid (One u A na (al.getD 0 0)) from fun u h => Lib.hid (((fun hb => one_of_sl (hA.out.below hb) han.out)) (below_ext HBw.out h.out)))
  have kP := Lib.hid (show ∀ u : World, Hid (Below w0.heap.size w0 u) → Hid (One u Z nz (zs.getD 0 0)) from fun u h => Lib.hid (((fun hb => one_of_sl (hZ.out.below hb) hzn.out)) (below_ext HBw.out h.out)))
  have HB_0 : Hid (Below w0.heap.size w0 w0) := Lib.hid (Below.refl _ _)
  have HW := Lib.hid hW
  clear hW hc hA hZ
  go_enter Tryz.func39, Tryz.ntmps39
  go_wp2_with fail
  rw [HW.out]
  obtain ⟨zc0, zc1, zc2, zc3, zc4, zc5⟩ := kC.out _ HB_0
  clear zc0 zc1 zc2 zc3 zc4 zc5
  have hS := Lib.hid (show ∀ u1 u2 : World, Hid (Below w0.heap.size w0 u1) → Below u1.heap.size u1 u2 → (u2.cell? ⟨w.heap.size, 0, none⟩ = some (.int .i64 P) ∧ u2.cell? ⟨w.heap.size, 1, none⟩ = some (.int .i64 Q) ∧ u2.cell? ⟨w.heap.size, 2, none⟩ = some (.int .i64 G) ∧ u2.cell? ⟨w.heap.size + 1, 0, none⟩ = some (.slice A na ca) ∧ u2.cell? ⟨w.heap.size + 1, 1, none⟩ = some (.int .i64 C) ∧ u2.cell? ⟨w.heap.size + 1, 2, none⟩ = some (.slice Z nz cz) ∧ Hid (Below w0.heap.size w0 u2)) from fun u1 u2 h1 h2 => by
    have h3 := Lib.hid (below_ext h1.out h2)
    obtain ⟨y0, y1, y2, y3, y4, y5⟩ := kC.out _ h3
    exact ⟨y0, y1, y2, y3, y4, y5, h3⟩)
  refine wp_region_T (S := fun w' => w'.cell? ⟨w.heap.size, 0, none⟩ = some (.int .i64 P) ∧ w'.cell? ⟨w.heap.size, 1, none⟩ = some (.int .i64 Q) ∧ w'.cell? ⟨w.heap.size, 2, none⟩ = some (.int .i64 G) ∧ w'.cell? ⟨w.heap.size + 1, 0, none⟩ = some (.slice A na ca) ∧ w'.cell? ⟨w.heap.size + 1, 1, none⟩ = some (.int .i64 C) ∧ w'.cell? ⟨w.heap.size + 1, 2, none⟩ = some (.slice Z nz cz) ∧ Hid (Below w0.heap.size w0 w')) (E := []) (by kernel_rfl) (hS.out _ _ HB_0 ((Below.refl _ _).drew)) (fun hHeld => ?_)
  refine wpT_take (i := 0) (oi := _) (v := ?_) rfl (by kernel_rfl) (by kernel_rfl) (by kernel_rfl) (by kernel_rfl) (fun _ _ _ h => h) (Or.inl ⟨by rfl, ?_⟩) (by assumption) ?_
  rotate_left; (intro wS hSw; (try dsimp only at hSw); go_simp <;> with_reducible rfl)
  try simp only [List.getElem_toArray, List.getElem_cons_zero, List.getElem_cons_succ, Act.put, List.setIfInBounds_toArray, List.set_cons_zero, List.set_cons_succ]
  refine wpT_one (i := 1) (by kernel_rfl) rfl (fun K hK => ?_)
  go_simp
  (with_reducible refine (rlabel_any s hs true hr _).mono ?_); rintro e wB ⟨rfl, rfl⟩
  refine hK.out _ _ ?_ (fun hHeld => ?_)
  · (go_split_ands; exact ⟨by assumption, by assumption, by assumption, by assumption, by assumption, by assumption, by assumption⟩)
  clear hK K
  try simp only [List.getElem_toArray, List.getElem_cons_zero, List.getElem_cons_succ, Act.put, List.setIfInBounds_toArray, List.set_cons_zero, List.set_cons_succ]
  refine wpT_take (i := 2) (oi := _) (v := ?_) rfl (by kernel_rfl) (by kernel_rfl) (by kernel_rfl) (by kernel_rfl) (fun _ _ _ h => h) (Or.inl ⟨by rfl, ?_⟩) (by assumption) ?_
  rotate_left; (intro wS hSw; (try dsimp only at hSw); go_simp <;> with_reducible rfl)
  try simp only [List.getElem_toArray, List.getElem_cons_zero, List.getElem_cons_succ, Act.put, List.setIfInBounds_toArray, List.set_cons_zero, List.set_cons_succ]
  refine wpT_take (i := 3) (oi := _) (v := ?_) rfl (by kernel_rfl) (by kernel_rfl) (by kernel_rfl) (by kernel_rfl) (fun _ _ _ h => h) (Or.inl ⟨by rfl, ?_⟩) (by assumption) ?_
  rotate_left; (intro wS hSw; (try dsimp only at hSw); go_simp <;> with_reducible rfl)
  try simp only [List.getElem_toArray, List.getElem_cons_zero, List.getElem_cons_succ, Act.put, List.setIfInBounds_toArray, List.set_cons_zero, List.set_cons_succ]
  refine wpT_take (i := 4) (oi := _) (v := ?_) rfl (by kernel_rfl) (by kernel_rfl) (by kernel_rfl) (by kernel_rfl) (fun _ _ _ h => h) (Or.inl ⟨by rfl, ?_⟩) (by assumption) ?_
  rotate_left; (intro wS hSw; (try dsimp only at hSw); go_simp <;> with_reducible rfl)
  try simp only [List.getElem_toArray, List.getElem_cons_zero, List.getElem_cons_succ, Act.put, List.setIfInBounds_toArray, List.set_cons_zero, List.set_cons_succ]
  refine wpT_take (i := 5) (oi := _) (v := ?_) rfl (by kernel_rfl) (by kernel_rfl) (by kernel_rfl) (by kernel_rfl) (fun _ _ _ h => h) (Or.inl ⟨by rfl, ?_⟩) (by assumption) ?_
  rotate_left; (intro wS hSw; (try dsimp only at hSw); go_simp <;> with_reducible rfl)
  try simp only [List.getElem_toArray, List.getElem_cons_zero, List.getElem_cons_succ, Act.put, List.setIfInBounds_toArray, List.set_cons_zero, List.set_cons_succ]
  refine wpT_take (i := 6) (oi := _) (v := ?_) rfl (by kernel_rfl) (by kernel_rfl) (by kernel_rfl) (by kernel_rfl) (fun _ _ _ h => h) (Or.inl ⟨by rfl, ?_⟩) (by assumption) ?_
  rotate_left; (intro wS hSw; (try dsimp only at hSw); go_simp <;> with_reducible rfl)
  try simp only [List.getElem_toArray, List.getElem_cons_zero, List.getElem_cons_succ, Act.put, List.setIfInBounds_toArray, List.set_cons_zero, List.set_cons_succ]
  refine wpT_one (i := 7) (by kernel_rfl) rfl (fun K hK => ?_)
  go_simp
  (with_reducible refine (rcheck_any16 P Q G b y A na ca (al.getD 0 0) C Z nz cz (zs.getD 0 0) true HC hQ _ ?_ ?_).mono ?_); (go_split_ands; exact kO.out _ (by assumption)); (go_split_ands; exact kP.out _ (by assumption)); rintro e wA ⟨rfl, hbA⟩
  refine hK.out _ _ ?_ (fun hHeld => ?_)
  · (go_split_ands; exact hS.out _ _ (by assumption) hbA)
  clear hK K
  try simp only [List.getElem_toArray, List.getElem_cons_zero, List.getElem_cons_succ, Act.put, List.setIfInBounds_toArray, List.set_cons_zero, List.set_cons_succ]
  refine wpT_take (i := 8) (oi := _) (v := ?_) rfl (by kernel_rfl) (by kernel_rfl) (by kernel_rfl) (by kernel_rfl) (fun _ _ _ h => h) (Or.inl ⟨by rfl, ?_⟩) (by assumption) ?_
  rotate_left; (intro wS hSw; (try dsimp only at hSw); go_simp <;> with_reducible rfl)
  try simp only [List.getElem_toArray, List.getElem_cons_zero, List.getElem_cons_succ, Act.put, List.setIfInBounds_toArray, List.set_cons_zero, List.set_cons_succ]
  refine wpT_take (i := 9) (oi := _) (v := ?_) rfl (by kernel_rfl) (by kernel_rfl) (by kernel_rfl) (by kernel_rfl) (fun _ _ _ h => h) (Or.inl ⟨by rfl, ?_⟩) (by assumption) ?_
  rotate_left; (intro wS hSw; (try dsimp only at hSw); go_simp <;> with_reducible rfl)
  try simp only [List.getElem_toArray, List.getElem_cons_zero, List.getElem_cons_succ, Act.put, List.setIfInBounds_toArray, List.set_cons_zero, List.set_cons_succ]
  refine wpT_take (i := 10) (oi := _) (v := ?_) rfl (by kernel_rfl) (by kernel_rfl) (by kernel_rfl) (by kernel_rfl) (fun _ _ _ h => h) (Or.inl ⟨by rfl, ?_⟩) (by assumption) ?_
  rotate_left; (intro wS hSw; (try dsimp only at hSw); go_simp <;> with_reducible rfl)
  try simp only [List.getElem_toArray, List.getElem_cons_zero, List.getElem_cons_succ, Act.put, List.setIfInBounds_toArray, List.set_cons_zero, List.set_cons_succ]
  refine wpT_take (i := 11) (oi := _) (v := ?_) rfl (by kernel_rfl) (by kernel_rfl) (by kernel_rfl) (by kernel_rfl) (fun _ _ _ h => h) (Or.inl ⟨by rfl, ?_⟩) (by assumption) ?_
  rotate_left; (intro wS hSw; (try dsimp only at hSw); go_simp <;> with_reducible rfl)
  try simp only [List.getElem_toArray, List.getElem_cons_zero, List.getElem_cons_succ, Act.put, List.setIfInBounds_toArray, List.set_cons_zero, List.set_cons_succ]
  refine wpT_take (i := 12) (oi := _) (v := ?_) rfl (by kernel_rfl) (by kernel_rfl) (by kernel_rfl) (by kernel_rfl) (fun _ _ _ h => h) (Or.inl ⟨by rfl, ?_⟩) (by assumption) ?_
  rotate_left; (intro wS hSw; (try dsimp only at hSw); go_simp <;> with_reducible rfl)
  try simp only [List.getElem_toArray, List.getElem_cons_zero, List.getElem_cons_succ, Act.put, List.setIfInBounds_toArray, List.set_cons_zero, List.set_cons_succ]
  refine wpT_take (i := 13) (oi := _) (v := ?_) rfl (by kernel_rfl) (by kernel_rfl) (by kernel_rfl) (by kernel_rfl) (fun _ _ _ h => h) (Or.inl ⟨by rfl, ?_⟩) (by assumption) ?_
  rotate_left; (intro wS hSw; (try dsimp only at hSw); go_simp <;> with_reducible rfl)
  try simp only [List.getElem_toArray, List.getElem_cons_zero, List.getElem_cons_succ, Act.put, List.setIfInBounds_toArray, List.set_cons_zero, List.set_cons_succ]
  refine wpT_take (i := 14) (oi := _) (v := ?_) rfl (by kernel_rfl) (by kernel_rfl) (by kernel_rfl) (by kernel_rfl) (fun _ _ _ h => h) (Or.inl ⟨by rfl, ?_⟩) (by assumption) ?_
  rotate_left; (intro wS hSw; (try dsimp only at hSw); go_simp <;> with_reducible rfl)
  try simp only [List.getElem_toArray, List.getElem_cons_zero, List.getElem_cons_succ, Act.put, List.setIfInBounds_toArray, List.set_cons_zero, List.set_cons_succ]
  refine wpT_take (i := 15) (oi := _) (v := ?_) rfl (by kernel_rfl) (by kernel_rfl) (by kernel_rfl) (by kernel_rfl) (fun _ _ _ h => h) (Or.inl ⟨by rfl, ?_⟩) (by assumption) ?_
  rotate_left; (intro wS hSw; (try dsimp only at hSw); go_simp <;> with_reducible rfl)
  try simp only [List.getElem_toArray, List.getElem_cons_zero, List.getElem_cons_succ, Act.put, List.setIfInBounds_toArray, List.set_cons_zero, List.set_cons_succ]
  refine wpT_take (i := 16) (oi := _) (v := ?_) rfl (by kernel_rfl) (by kernel_rfl) (by kernel_rfl) (by kernel_rfl) (fun _ _ _ h => h) (Or.inl ⟨by rfl, ?_⟩) (by assumption) ?_
  rotate_left; (intro wS hSw; (try dsimp only at hSw); go_simp <;> with_reducible rfl)
  try simp only [List.getElem_toArray, List.getElem_cons_zero, List.getElem_cons_succ, Act.put, List.setIfInBounds_toArray, List.set_cons_zero, List.set_cons_succ]
  refine wpT_take (i := 17) (oi := _) (v := ?_) rfl (by kernel_rfl) (by kernel_rfl) (by kernel_rfl) (by kernel_rfl) (fun _ _ _ h => h) (Or.inl ⟨by rfl, ?_⟩) (by assumption) ?_
  rotate_left; (intro wS hSw; (try dsimp only at hSw); go_simp <;> with_reducible rfl)
  try simp only [List.getElem_toArray, List.getElem_cons_zero, List.getElem_cons_succ, Act.put, List.setIfInBounds_toArray, List.set_cons_zero, List.set_cons_succ]
  refine wpT_one (i := 18) (by kernel_rfl) rfl (fun K hK => ?_)
  go_simp
  (with_reducible refine (rchal16_ok P Q G b y A al na ca s hs hr han okg okb oka hQ1 hQ2 V HV _ ?_).mono ?_); (go_split_ands; exact kA.out _ (by assumption)); rintro e wA ⟨rfl, hbA⟩
  refine hK.out _ _ ?_ (fun hHeld => ?_)
  · (go_split_ands; exact hS.out _ _ (by assumption) hbA)
  clear hK K
  try simp only [List.getElem_toArray, List.getElem_cons_zero, List.getElem_cons_succ, Act.put, List.setIfInBounds_toArray, List.set_cons_zero, List.set_cons_succ]
  refine wpT_take (i := 19) (oi := _) (v := ?_) rfl (by kernel_rfl) (by kernel_rfl) (by kernel_rfl) (by kernel_rfl) (fun _ _ _ h => h) (Or.inl ⟨by rfl, ?_⟩) (by assumption) ?_
  rotate_left; (intro wS hSw; (try dsimp only at hSw); go_simp <;> with_reducible rfl)
  try simp only [List.getElem_toArray, List.getElem_cons_zero, List.getElem_cons_succ, Act.put, List.setIfInBounds_toArray, List.set_cons_zero, List.set_cons_succ]
  refine wpT_take (i := 20) (oi := _) (v := ?_) rfl (by kernel_rfl) (by kernel_rfl) (by kernel_rfl) (by kernel_rfl) (fun _ _ _ h => h) (Or.inl ⟨by rfl, ?_⟩) (by assumption) ?_
  rotate_left; (intro wS hSw; (try dsimp only at hSw); go_simp <;> with_reducible rfl)
  try simp only [List.getElem_toArray, List.getElem_cons_zero, List.getElem_cons_succ, Act.put, List.setIfInBounds_toArray, List.set_cons_zero, List.set_cons_succ]
  refine wpT_take (i := 21) (oi := _) (v := ?_) rfl (by kernel_rfl) (by kernel_rfl) (by kernel_rfl) (by kernel_rfl) (fun _ _ _ h => h) (Or.inl ⟨by rfl, ?_⟩) (by assumption) ?_
  rotate_left; (intro wS hSw; (try dsimp only at hSw); go_simp <;> with_reducible rfl)
  try simp only [List.getElem_toArray, List.getElem_cons_zero, List.getElem_cons_succ, Act.put, List.setIfInBounds_toArray, List.set_cons_zero, List.set_cons_succ]
  refine wpT_done (by kernel_rfl) ?_ _
  obtain ⟨x0, x1, x2, x3, x4, x5, HBF⟩ := hHeld
  have hbF := below_ext HBw.out HBF.out
  go_wp2
  go_ret
  exact ⟨rfl, hbF⟩
/-- Verify of the reference. -/
theorem rkver_any (P Q G b y : Int) (A : Option Addr) (al : List Int) (na ca : Nat) (C : Int) (Z : Option Addr) (zs : List Int) (nz cz : Nat) (han : Hid (al.length = na)) (hzn : Hid (zs.length = nz)) (hQ : Q < 9223372036854775808) (s : ByteArray) (hs : s.size ≤ 1000) (r : Bool) (hr : Kp (verK P Q G b y C (bys s) al zs = r)) (w : World) (hA : Hid (Sl w A al)) (hZ : Hid (Sl w Z zs)) :
    Calls Tryz.prog 39 #[gv P Q G, .int .i64 b, .int .i64 y, .string s, prvL A na ca C Z nz cz] w fun e' w' => e' = .returned (.bool r) ∧ Below w.heap.size w w' := by
  have hr1 := hr.1
  unfold verK at hr1
  rw [han.out, hzn.out] at hr1
  cases hlb : labB (bys s) with
  | false =>
    obtain rfl : r = false := by rw [← hr1, hlb, Bool.false_and, Bool.and_false]
    exact rkver_l P Q G b y A al na ca C Z zs nz cz han hzn hQ s hs (Lib.hid hlb) w hA hZ
  | true =>
    cases hc : chkB P Q G b y na (al.getD 0 0) C nz (zs.getD 0 0) with
    | false =>
      obtain rfl : r = false := by rw [← hr1, hc]; rfl
      exact rkver_f P Q G b y A al na ca C Z zs nz cz han hzn hQ s hs (Lib.hid hlb) (Lib.hid hc) w hA hZ
    | true =>
      obtain ⟨okg, okb, oka, q1, q2⟩ := chkB_ok hc
      have h1 := (chkB_parts hc).2.2.2.1
      obtain ⟨V, hV⟩ : ∃ V, chalK P Q G b y (al.getD 0 0) (bys s) = V := ⟨_, rfl⟩
      obtain rfl : (V == C) = r := by rw [← hr1, hc, hlb, hV]; rfl
      have e1 : al = [al.getD 0 0] := by
        have hl := han.out
        rw [h1] at hl
        obtain ⟨x, rfl⟩ := List.length_eq_one_iff.1 hl
        rfl
      have hf := rkver_o P Q G b y A al na ca C Z zs nz cz han hzn hQ s hs (Lib.hid hlb) (Lib.hid hc) (Lib.hid okg) (Lib.hid okb) (Lib.hid (by rw [e1]; exact oka)) q1 q2 V ⟨by rw [← hV, chalK, ← e1]⟩ w hA hZ
      rwa [show (C == V) = (V == C) from BEq.comm] at hf
end Go.Proofs.YtdlhodbiaoafiaaGreatDoor
namespace Go.Proofs.YtdlhodbiaoafiaaGreatDoor
open Go.RowKit SpM
set_option linter.unusedVariables false
set_option linter.unusedSimpArgs false
set_option maxRecDepth 20000
set_option maxHeartbeats 3200000 in
theorem rbvalid_any (P Q G A B H : Int) (r : Bool) (hr : Hid (validB P Q G A B H = r)) (hQ : Q < 9223372036854775808) (w : World) :
    Calls Tryz.prog 37 #[bv P Q G A B H] w fun e' w' => e' = .returned (.bool r) ∧ Below w.heap.size w w' := by
  have HX0 := Lib.hid ((bbox_alloc w P Q G A B H).below (below_box0 _ (gObj P Q G)))
  have HG0 : Hid (GBox ((w.alloc (bObj P Q G A B H)).alloc (gObj P Q G)) (w.heap.size + 1) P Q G) := Lib.hid (by
    have e : (w.alloc (bObj P Q G A B H)).heap.size = w.heap.size + 1 := by simp
    rw [← e]; exact gbox_alloc _ _ _ _)
  cases hval : validG P Q G with
  | false =>
    obtain rfl : r = false := by rw [← hr.out, validB, hval, Bool.false_and]
    have HVL : Hid (validG P Q G = false) := hval
    clear hr hval
    go_enter Tryz.func37, Tryz.ntmps37
    go_wp2_with fail
    refine (rvalid_any P Q G false HVL hQ _).mono ?_
    rintro e w1 ⟨rfl, hb0⟩
    have hb1 := below_ext (below_two (Below.refl _ _)) hb0
    clear hb0
    go_wp2
    go_ret
    exact ⟨rfl, hb1⟩
  | true =>
    have HVL : Hid (validG P Q G = true) := hval
    obtain ⟨hp2, hp, hq3, hqp⟩ := validG_P hval
    cases nA : A == 1 with
    | true =>
      obtain rfl : r = false := by rw [← hr.out, validB]; simp at nA; simp [okB, nA]
      have nA2 : (A != 1) = false := by simpa using nA
      clear hr hval
      go_enter Tryz.func37, Tryz.ntmps37
      go_wp2_with fail
      refine (rvalid_any P Q G true HVL hQ _).mono ?_
      rintro e w1 ⟨rfl, hb0⟩
      have hb1 := below_ext (below_two (Below.refl _ _)) hb0
      have HX1 := Lib.hid (HX0.out.below hb0)
      have HG1 := Lib.hid (HG0.out.below hb0)
      clear hb0
      obtain ⟨⟨c0, c1, c2⟩, c3, c4, c5⟩ := HX1.out
      obtain ⟨d0, d1, d2⟩ := HG1.out
      go_wp2
      go_ret
      exact ⟨rfl, hb1⟩
    | false =>
      have nA2 : (A != 1) = true := by simp at nA ⊢; exact nA
      cases nB : B == 1 with
      | true =>
        obtain rfl : r = false := by rw [← hr.out, validB]; simp at nB; simp [okB, nB]
        have nB2 : (B != 1) = false := by simpa using nB
        clear hr hval
        go_enter Tryz.func37, Tryz.ntmps37
        go_wp2_with fail
        refine (rvalid_any P Q G true HVL hQ _).mono ?_
        rintro e w1 ⟨rfl, hb0⟩
        have hb1 := below_ext (below_two (Below.refl _ _)) hb0
        have HX1 := Lib.hid (HX0.out.below hb0)
        have HG1 := Lib.hid (HG0.out.below hb0)
        clear hb0
        obtain ⟨⟨c0, c1, c2⟩, c3, c4, c5⟩ := HX1.out
        obtain ⟨d0, d1, d2⟩ := HG1.out
        go_wp2
        go_ret
        exact ⟨rfl, hb1⟩
      | false =>
        have nB2 : (B != 1) = true := by simp at nB ⊢; exact nB
        cases nH : H == 1 with
        | true =>
          obtain rfl : r = false := by rw [← hr.out, validB]; simp at nH; simp [okB, nH]
          have nH2 : (H != 1) = false := by simpa using nH
          clear hr hval
          go_enter Tryz.func37, Tryz.ntmps37
          go_wp2_with fail
          refine (rvalid_any P Q G true HVL hQ _).mono ?_
          rintro e w1 ⟨rfl, hb0⟩
          have hb1 := below_ext (below_two (Below.refl _ _)) hb0
          have HX1 := Lib.hid (HX0.out.below hb0)
          have HG1 := Lib.hid (HG0.out.below hb0)
          clear hb0
          obtain ⟨⟨c0, c1, c2⟩, c3, c4, c5⟩ := HX1.out
          obtain ⟨d0, d1, d2⟩ := HG1.out
          go_wp2
          go_ret
          exact ⟨rfl, hb1⟩
        | false =>
          have nH2 : (H != 1) = true := by simp at nH ⊢; exact nH
          cases mA : memG P Q A with
          | false =>
            obtain rfl : r = false := by rw [← hr.out, validB]; simp [okB, mA]
            have HmA : Hid (memG P Q A = false) := mA
            clear hr hval mA
            go_enter Tryz.func37, Tryz.ntmps37
            go_wp2_with fail
            refine (rvalid_any P Q G true HVL hQ _).mono ?_
            rintro e w1 ⟨rfl, hb0⟩
            have hb1 := below_ext (below_two (Below.refl _ _)) hb0
            have HX1 := Lib.hid (HX0.out.below hb0)
            have HG1 := Lib.hid (HG0.out.below hb0)
            clear hb0
            obtain ⟨⟨c0, c1, c2⟩, c3, c4, c5⟩ := HX1.out
            obtain ⟨d0, d1, d2⟩ := HG1.out
            go_wp2_with fail
            refine (rmember_any P Q G A false HmA hp (by omega) hQ _).mono ?_
            rintro e w2 ⟨rfl, hb0⟩
            have hb2 := below_ext hb1 hb0
            clear hb0
            go_wp2
            go_ret
            exact ⟨rfl, hb2⟩
          | true =>
            have HmA : Hid (memG P Q A = true) := mA
            cases mB : memG P Q B with
            | false =>
              obtain rfl : r = false := by rw [← hr.out, validB]; simp [okB, mB]
              have HmB : Hid (memG P Q B = false) := mB
              clear hr hval mA mB
              go_enter Tryz.func37, Tryz.ntmps37
              go_wp2_with fail
              refine (rvalid_any P Q G true HVL hQ _).mono ?_
              rintro e w1 ⟨rfl, hb0⟩
              have hb1 := below_ext (below_two (Below.refl _ _)) hb0
              have HX1 := Lib.hid (HX0.out.below hb0)
              have HG1 := Lib.hid (HG0.out.below hb0)
              clear hb0
              obtain ⟨⟨c0, c1, c2⟩, c3, c4, c5⟩ := HX1.out
              obtain ⟨d0, d1, d2⟩ := HG1.out
              go_wp2_with fail
              refine (rmember_any P Q G A true HmA hp (by omega) hQ _).mono ?_
              rintro e w2 ⟨rfl, hb0⟩
              have hb2 := below_ext hb1 hb0
              have HX2 := Lib.hid (HX1.out.below hb0)
              have HG2 := Lib.hid (HG1.out.below hb0)
              clear c0 c1 c2 c3 c4 c5 d0 d1 d2 hb0
              obtain ⟨⟨c0, c1, c2⟩, c3, c4, c5⟩ := HX2.out
              obtain ⟨d0, d1, d2⟩ := HG2.out
              go_wp2_with fail
              refine (rmember_any P Q G B false HmB hp (by omega) hQ _).mono ?_
              rintro e w3 ⟨rfl, hb0⟩
              have hb3 := below_ext hb2 hb0
              clear hb0
              go_wp2
              go_ret
              exact ⟨rfl, hb3⟩
            | true =>
              have HmB : Hid (memG P Q B = true) := mB
              cases mH : memG P Q H with
              | false =>
                obtain rfl : r = false := by rw [← hr.out, validB]; simp [okB, mH]
                have HmH : Hid (memG P Q H = false) := mH
                clear hr hval mA mB mH
                go_enter Tryz.func37, Tryz.ntmps37
                go_wp2_with fail
                refine (rvalid_any P Q G true HVL hQ _).mono ?_
                rintro e w1 ⟨rfl, hb0⟩
                have hb1 := below_ext (below_two (Below.refl _ _)) hb0
                have HX1 := Lib.hid (HX0.out.below hb0)
                have HG1 := Lib.hid (HG0.out.below hb0)
                clear hb0
                obtain ⟨⟨c0, c1, c2⟩, c3, c4, c5⟩ := HX1.out
                obtain ⟨d0, d1, d2⟩ := HG1.out
                go_wp2_with fail
                refine (rmember_any P Q G A true HmA hp (by omega) hQ _).mono ?_
                rintro e w2 ⟨rfl, hb0⟩
                have hb2 := below_ext hb1 hb0
                have HX2 := Lib.hid (HX1.out.below hb0)
                have HG2 := Lib.hid (HG1.out.below hb0)
                clear c0 c1 c2 c3 c4 c5 d0 d1 d2 hb0
                obtain ⟨⟨c0, c1, c2⟩, c3, c4, c5⟩ := HX2.out
                obtain ⟨d0, d1, d2⟩ := HG2.out
                go_wp2_with fail
                refine (rmember_any P Q G B true HmB hp (by omega) hQ _).mono ?_
                rintro e w3 ⟨rfl, hb0⟩
                have hb3 := below_ext hb2 hb0
                have HX3 := Lib.hid (HX2.out.below hb0)
                have HG3 := Lib.hid (HG2.out.below hb0)
                clear c0 c1 c2 c3 c4 c5 d0 d1 d2 hb0
                obtain ⟨⟨c0, c1, c2⟩, c3, c4, c5⟩ := HX3.out
                obtain ⟨d0, d1, d2⟩ := HG3.out
                go_wp2_with fail
                refine (rmember_any P Q G H false HmH hp (by omega) hQ _).mono ?_
                rintro e w4 ⟨rfl, hb0⟩
                have hb4 := below_ext hb3 hb0
                clear hb0
                go_wp2
                go_ret
                exact ⟨rfl, hb4⟩
              | true =>
                have HmH : Hid (memG P Q H = true) := mH
                obtain rfl : r = true := by rw [← hr.out, validB, hval]; simp at nA nB nH; simp [okB, nA, nB, nH, mA, mB, mH]
                clear hr hval mA mB mH
                go_enter Tryz.func37, Tryz.ntmps37
                go_wp2_with fail
                refine (rvalid_any P Q G true HVL hQ _).mono ?_
                rintro e w1 ⟨rfl, hb0⟩
                have hb1 := below_ext (below_two (Below.refl _ _)) hb0
                have HX1 := Lib.hid (HX0.out.below hb0)
                have HG1 := Lib.hid (HG0.out.below hb0)
                clear hb0
                obtain ⟨⟨c0, c1, c2⟩, c3, c4, c5⟩ := HX1.out
                obtain ⟨d0, d1, d2⟩ := HG1.out
                go_wp2_with fail
                refine (rmember_any P Q G A true HmA hp (by omega) hQ _).mono ?_
                rintro e w2 ⟨rfl, hb0⟩
                have hb2 := below_ext hb1 hb0
                have HX2 := Lib.hid (HX1.out.below hb0)
                have HG2 := Lib.hid (HG1.out.below hb0)
                clear c0 c1 c2 c3 c4 c5 d0 d1 d2 hb0
                obtain ⟨⟨c0, c1, c2⟩, c3, c4, c5⟩ := HX2.out
                obtain ⟨d0, d1, d2⟩ := HG2.out
                go_wp2_with fail
                refine (rmember_any P Q G B true HmB hp (by omega) hQ _).mono ?_
                rintro e w3 ⟨rfl, hb0⟩
                have hb3 := below_ext hb2 hb0
                have HX3 := Lib.hid (HX2.out.below hb0)
                have HG3 := Lib.hid (HG2.out.below hb0)
                clear c0 c1 c2 c3 c4 c5 d0 d1 d2 hb0
                obtain ⟨⟨c0, c1, c2⟩, c3, c4, c5⟩ := HX3.out
                obtain ⟨d0, d1, d2⟩ := HG3.out
                go_wp2_with fail
                refine (rmember_any P Q G H true HmH hp (by omega) hQ _).mono ?_
                rintro e w4 ⟨rfl, hb0⟩
                have hb4 := below_ext hb3 hb0
                clear hb0
                go_wp2
                go_ret
                exact ⟨rfl, hb4⟩
end Go.Proofs.YtdlhodbiaoafiaaGreatDoor
namespace Go.Proofs.YtdlhodbiaoafiaaGreatDoor
open Go.RowKit SpM
set_option linter.unusedVariables false
/-- the error of account.Message, and its message. -/
def msgE (P Q G A B H key : Int) : Int := if validB P Q G A B H = true then (if okB P Q key = true then (if key * B % P = 1 then 10 else 0) else 2) else 1
def msgV (P Q G A B H key : Int) : Int := if msgE P Q G A B H key = 0 then key * B % P else 0
theorem below_bbox {w w1 : World} {o : Obj} (h : Below (w.alloc o).heap.size (w.alloc o) w1) : Below w.heap.size w w1 := below_ext (below_box0 _ _) h
set_option maxHeartbeats 1600000 in
theorem message_any (P Q G A B H key v r : Int) (hv0 : Hid (msgV P Q G A B H key = v)) (hr0 : Hid (msgE P Q G A B H key = r)) (hQ : Q < 9223372036854775808) (w : World) (hv : Hid (Vars w)) :
    Calls Tryz.prog 35 #[bv P Q G A B H, .int .i64 key] w fun e' w' => e' = .returned (.tuple #[.int .i64 v, .int .i64 r]) ∧ Below w.heap.size w w' := by
  have HV0 := Lib.hid (hv.out.below (below_box0 w (bObj P Q G A B H)))
  have HB0 := Lib.hid (bbox_alloc w P Q G A B H)
  cases hval : validB P Q G A B H with
  | false =>
    obtain rfl : r = 1 := by rw [← hr0.out, msgE, hval]; rfl
    obtain rfl : v = 0 := by rw [← hv0.out, msgV, hr0.out]; rfl
    have HV : Hid (validB P Q G A B H = false) := hval
    clear hval hv0 hr0
    go_enter Tryz.func35, Tryz.ntmps35
    go_wp2_with fail
    refine (bvalid_any P Q G A B H false HV hQ _ HV0).mono ?_
    rintro e w1 ⟨rfl, hb0⟩
    have hb1 := below_bbox hb0
    clear hb0
    go_wp2
    go_ret2
    exact ⟨rfl, hb1⟩
  | true =>
    obtain ⟨hg, hA, hB, hH, nA, nB, nH⟩ := validB_parts hval
    have HV : Hid (validB P Q G A B H = true) := hval
    cases h1 : key == 1 with
    | true =>
      have h1' : key = 1 := by simpa using h1
      obtain rfl : r = 2 := by rw [← hr0.out, msgE, if_pos hval, h1']; rfl
      obtain rfl : v = 0 := by rw [← hv0.out, msgV, hr0.out]; rfl
      clear h1' hval hv0 hr0 hg hA hB hH nA nB nH
      go_enter Tryz.func35, Tryz.ntmps35
      go_wp2_with fail
      refine (bvalid_any P Q G A B H true HV hQ _ HV0).mono ?_
      rintro e w1 ⟨rfl, hb0⟩
      have hb1 := below_bbox hb0
      obtain ⟨⟨c0, c1, c2⟩, c3, c4, c5⟩ := HB0.out.below hb0
      clear hb0
      go_wp2
      go_ret2
      exact ⟨rfl, hb1⟩
    | false =>
      have hko := Lib.hid (okB_con (G := G) hg h1)
      cases hk : okB P Q key with
      | false =>
        obtain rfl : r = 2 := by rw [← hr0.out, msgE, if_pos hval, hk]; rfl
        obtain rfl : v = 0 := by rw [← hv0.out, msgV, hr0.out]; rfl
        have HK : Hid (conG P Q G key = false) := Lib.hid (hko.out.trans hk)
        clear hk hval hv0 hr0 hg hA hB hH nA nB nH
        go_enter Tryz.func35, Tryz.ntmps35
        go_wp2_with fail
        refine (bvalid_any P Q G A B H true HV hQ _ HV0).mono ?_
        rintro e w1 ⟨rfl, hb0⟩
        have hb1 := below_bbox hb0
        have HV1 := Lib.hid (HV0.out.below hb0)
        obtain ⟨⟨c0, c1, c2⟩, c3, c4, c5⟩ := HB0.out.below hb0
        clear hb0
        go_wp2_with fail
        refine (contains_any P Q G key false HK hQ _ HV1).mono ?_
        rintro e w2 ⟨rfl, hb0⟩
        have hb2 := below_ext hb1 hb0
        clear hb0
        go_wp2
        go_ret2
        exact ⟨rfl, hb2⟩
      | true =>
        have HK : Hid (conG P Q G key = true) := Lib.hid (hko.out.trans hk)
        have hkm : memG P Q key = true := by simp [okB] at hk; exact hk.2
        have HCK : Hid (chkG P Q G [key, B] = 0) := Lib.hid (chkG_ok hg (by simp [hkm, hB]))
        obtain ⟨m, hm⟩ : ∃ m, key * B % P = m := ⟨_, rfl⟩
        have HM := Lib.hid hm
        cases h10 : m == 1 with
        | true =>
          have h10' : m = 1 := by simpa using h10
          obtain rfl : r = 10 := by rw [← hr0.out, msgE, if_pos hval, hk, hm, h10']; rfl
          obtain rfl : v = 0 := by rw [← hv0.out, msgV, hr0.out]; rfl
          clear hkm h10' hm hk hval hv0 hr0 hg hA hB hH nA nB nH
          go_enter Tryz.func35, Tryz.ntmps35
          go_wp2_with fail
          refine (bvalid_any P Q G A B H true HV hQ _ HV0).mono ?_
          rintro e w1 ⟨rfl, hb0⟩
          have hb1 := below_bbox hb0
          have HV1 := Lib.hid (HV0.out.below hb0)
          have HX1 := Lib.hid (HB0.out.below hb0)
          obtain ⟨⟨c0, c1, c2⟩, c3, c4, c5⟩ := HX1.out
          clear hb0
          go_wp2_with fail
          refine (contains_any P Q G key true HK hQ _ HV1).mono ?_
          rintro e w2 ⟨rfl, hb0⟩
          have hb2 := below_ext hb1 hb0
          have HV2 := Lib.hid (HV1.out.below hb0)
          clear c0 c1 c2 c3 c4 c5
          obtain ⟨⟨c0, c1, c2⟩, c3, c4, c5⟩ := HX1.out.below hb0
          clear hb0
          go_wp2_with fail
          refine (gmul_ok P Q G key B m HCK HM hQ _ HV2).mono ?_
          rintro e w3 ⟨rfl, hb0⟩
          have hb3 := below_ext hb2 hb0
          clear hb0
          go_wp2
          go_ret2
          exact ⟨rfl, hb3⟩
        | false =>
          have h10' : m ≠ 1 := by simpa using h10
          obtain rfl : r = 0 := by rw [← hr0.out, msgE, if_pos hval, hk, hm, if_pos rfl, if_neg h10']
          obtain rfl : v = m := by rw [← hv0.out, msgV, hr0.out, if_pos rfl, hm]
          clear hkm h10' hm hk hval hv0 hr0 hg hA hB hH nA nB nH
          go_enter Tryz.func35, Tryz.ntmps35
          go_wp2_with fail
          refine (bvalid_any P Q G A B H true HV hQ _ HV0).mono ?_
          rintro e w1 ⟨rfl, hb0⟩
          have hb1 := below_bbox hb0
          have HV1 := Lib.hid (HV0.out.below hb0)
          have HX1 := Lib.hid (HB0.out.below hb0)
          obtain ⟨⟨c0, c1, c2⟩, c3, c4, c5⟩ := HX1.out
          clear hb0
          go_wp2_with fail
          refine (contains_any P Q G key true HK hQ _ HV1).mono ?_
          rintro e w2 ⟨rfl, hb0⟩
          have hb2 := below_ext hb1 hb0
          have HV2 := Lib.hid (HV1.out.below hb0)
          clear c0 c1 c2 c3 c4 c5
          obtain ⟨⟨c0, c1, c2⟩, c3, c4, c5⟩ := HX1.out.below hb0
          clear hb0
          go_wp2_with fail
          refine (gmul_ok P Q G key B v HCK HM hQ _ HV2).mono ?_
          rintro e w3 ⟨rfl, hb0⟩
          have hb3 := below_ext hb2 hb0
          clear hb0
          go_wp2
          go_ret2
          exact ⟨rfl, hb3⟩
end Go.Proofs.YtdlhodbiaoafiaaGreatDoor
namespace Go.Proofs.YtdlhodbiaoafiaaGreatDoor
open Go.RowKit SpM
set_option linter.unusedVariables false
set_option maxHeartbeats 1600000 in
theorem key_ok (P Q G A B H u K mv : Int) (hval : Hid (validB P Q G A B H = true)) (hu0 : 1 ≤ u) (hu : u < Q) (hK : Hid (pw A (u % Q) P = K)) (hmv : Hid (msgV P Q G A B H K = mv)) (hr : Hid (msgE P Q G A B H K = 0)) (w : World) (hv : Hid (Vars w)) :
    Calls Tryz.prog 34 #[bv P Q G A B H, .int .i64 u] w fun e' w' => e' = .returned (.tuple #[.int .i64 K, .int .i64 0]) ∧ Below w.heap.size w w' := by
  have HV0 := Lib.hid (hv.out.below (below_box0 w (bObj P Q G A B H)))
  have HB0 := Lib.hid (bbox_alloc w P Q G A B H)
  obtain ⟨hg, hA, hB, hH, nA, nB, nH⟩ := validB_parts hval.out
  obtain ⟨hp2, hp, hq3, hqp⟩ := validG_P hg
  have HCK : Hid (chkG P Q G [A] = 0) := Lib.hid (chkG_ok hg (by simp [hA]))
  clear hg hA hB hH nA nB nH
  go_enter Tryz.func34, Tryz.ntmps34
  go_wp2_with fail
  refine (bvalid_any P Q G A B H true hval (by omega) _ HV0).mono ?_
  rintro e w1 ⟨rfl, hb0⟩
  have hb1 := below_bbox hb0
  have HV1 := Lib.hid (HV0.out.below hb0)
  have HX1 := Lib.hid (HB0.out.below hb0)
  obtain ⟨⟨c0, c1, c2⟩, c3, c4, c5⟩ := HX1.out
  clear hb0
  go_wp2_with fail
  refine (gpow_ok P Q G A u K HCK hK (by omega) (by omega) _ HV1).mono ?_
  rintro e w2 ⟨rfl, hb0⟩
  have hb2 := below_ext hb1 hb0
  have HV2 := Lib.hid (HV1.out.below hb0)
  clear c0 c1 c2 c3 c4 c5
  obtain ⟨⟨c0, c1, c2⟩, c3, c4, c5⟩ := HX1.out.below hb0
  clear hb0
  go_wp2_with fail
  refine (message_any P Q G A B H K mv 0 hmv hr (by omega) _ HV2).mono ?_
  rintro e w3 ⟨rfl, hb0⟩
  have hb3 := below_ext hb2 hb0
  clear hb0
  go_wp2
  go_ret2
  exact ⟨rfl, hb3⟩
set_option maxHeartbeats 1600000 in
theorem key_no (P Q G A B H u K mv r : Int) (hne : (r != 0) = true) (hval : Hid (validB P Q G A B H = true)) (hu0 : 1 ≤ u) (hu : u < Q) (hK : Hid (pw A (u % Q) P = K)) (hmv : Hid (msgV P Q G A B H K = mv)) (hr : Hid (msgE P Q G A B H K = r)) (w : World) (hv : Hid (Vars w)) :
    Calls Tryz.prog 34 #[bv P Q G A B H, .int .i64 u] w fun e' w' => e' = .returned (.tuple #[.int .i64 0, .int .i64 r]) ∧ Below w.heap.size w w' := by
  have HV0 := Lib.hid (hv.out.below (below_box0 w (bObj P Q G A B H)))
  have HB0 := Lib.hid (bbox_alloc w P Q G A B H)
  obtain ⟨hg, hA, hB, hH, nA, nB, nH⟩ := validB_parts hval.out
  obtain ⟨hp2, hp, hq3, hqp⟩ := validG_P hg
  have HCK : Hid (chkG P Q G [A] = 0) := Lib.hid (chkG_ok hg (by simp [hA]))
  clear hg hA hB hH nA nB nH
  go_enter Tryz.func34, Tryz.ntmps34
  go_wp2_with fail
  refine (bvalid_any P Q G A B H true hval (by omega) _ HV0).mono ?_
  rintro e w1 ⟨rfl, hb0⟩
  have hb1 := below_bbox hb0
  have HV1 := Lib.hid (HV0.out.below hb0)
  have HX1 := Lib.hid (HB0.out.below hb0)
  obtain ⟨⟨c0, c1, c2⟩, c3, c4, c5⟩ := HX1.out
  clear hb0
  go_wp2_with fail
  refine (gpow_ok P Q G A u K HCK hK (by omega) (by omega) _ HV1).mono ?_
  rintro e w2 ⟨rfl, hb0⟩
  have hb2 := below_ext hb1 hb0
  have HV2 := Lib.hid (HV1.out.below hb0)
  clear c0 c1 c2 c3 c4 c5
  obtain ⟨⟨c0, c1, c2⟩, c3, c4, c5⟩ := HX1.out.below hb0
  clear hb0
  go_wp2_with fail
  refine (message_any P Q G A B H K mv r hmv hr (by omega) _ HV2).mono ?_
  rintro e w3 ⟨rfl, hb0⟩
  have hb3 := below_ext hb2 hb0
  clear hb0
  go_wp2
  go_ret2
  exact ⟨rfl, hb3⟩
theorem ex_valid : Hid (validB 23 11 4 2 3 6 = true) := Lib.hid (by kernel_rfl)
theorem ex_pw5 : Hid (pw 2 (5 % 11) 23 = 9) := Lib.hid (by kernel_rfl)
theorem ex_pw3 : Hid (pw 2 (3 % 11) 23 = 8) := Lib.hid (by kernel_rfl)
theorem ex_e9 : Hid (msgE 23 11 4 2 3 6 9 = 0) := Lib.hid (by kernel_rfl)
theorem ex_v9 : Hid (msgV 23 11 4 2 3 6 9 = 4) := Lib.hid (by kernel_rfl)
theorem ex_e8 : Hid (msgE 23 11 4 2 3 6 8 = 10) := Lib.hid (by kernel_rfl)
theorem ex_v8 : Hid (msgV 23 11 4 2 3 6 8 = 0) := Lib.hid (by kernel_rfl)
set_option maxHeartbeats 1600000 in
theorem awake29 (w : World) (hv : Hid (Vars w)) :
    Calls Tryz.prog 7 #[] w fun e' w' => e' = .returned (.bool true) ∧ Below w.heap.size w w' := by
  have HV0 := Lib.hid (hv.out.below (below_box0 w (bObj 23 11 4 2 3 6)))
  have HB0 := Lib.hid (bbox_alloc w 23 11 4 2 3 6)
  go_enter Tryz.func7, Tryz.ntmps7
  go_wp2_with fail
  refine (key_ok 23 11 4 2 3 6 5 9 4 ex_valid (by decide) (by decide) ex_pw5 ex_v9 ex_e9 _ HV0).mono ?_
  rintro e w1 ⟨rfl, hb0⟩
  have hb1 := below_bbox hb0
  have HV1 := Lib.hid (HV0.out.below hb0)
  have HX1 := Lib.hid (HB0.out.below hb0)
  obtain ⟨⟨c0, c1, c2⟩, c3, c4, c5⟩ := HX1.out
  clear hb0
  go_wp2_with fail
  refine (message_any 23 11 4 2 3 6 9 4 0 ex_v9 ex_e9 (by decide) _ HV1).mono ?_
  rintro e w2 ⟨rfl, hb0⟩
  have hb2 := below_ext hb1 hb0
  have HV2 := Lib.hid (HV1.out.below hb0)
  have HX2 := Lib.hid (HX1.out.below hb0)
  clear c0 c1 c2 c3 c4 c5
  obtain ⟨⟨c0, c1, c2⟩, c3, c4, c5⟩ := HX2.out
  clear hb0
  go_wp2_with fail
  refine (key_no 23 11 4 2 3 6 3 8 0 10 (by decide) ex_valid (by decide) (by decide) ex_pw3 ex_v8 ex_e8 _ HV2).mono ?_
  rintro e w3 ⟨rfl, hb0⟩
  have hb3 := below_ext hb2 hb0
  clear hb0
  go_wp2
  go_ret
  exact ⟨rfl, hb3⟩
end Go.Proofs.YtdlhodbiaoafiaaGreatDoor
namespace Go.Proofs.YtdlhodbiaoafiaaGreatDoor
open Go.RowKit SpM
set_option linter.unusedVariables false
set_option linter.unusedSimpArgs false
set_option maxRecDepth 100000
abbrev acV (key : Int) (A : Option Addr) (na ca : Nat) (C : Int) (Z : Option Addr) (nz cz : Nat) : Value := .agg #[.int .i64 key, .slice A na ca, .int .i64 C, .slice Z nz cz]
abbrev acO (key : Int) (A : Option Addr) (na ca : Nat) (C : Int) (Z : Option Addr) (nz cz : Nat) : Obj := .cells #[.int .i64 key, .slice A na ca, .int .i64 C, .slice Z nz cz] 30
def lbAcc : ByteArray := { data := #[97, 99, 99, 111, 117, 110, 116] }
/-- which accounts are valid. -/
def acB (P Q G X1 X2 X3 key C : Int) (al zs : List Int) : Bool := (msgE P Q G X1 X2 X3 key == 0) && verK P Q G X1 key C (bys lbAcc) al zs
set_option maxHeartbeats 6400000 in
theorem avalid_n (P Q G X1 X2 X3 key : Int) (A : Option Addr) (al : List Int) (na ca : Nat) (C : Int) (Z : Option Addr) (zs : List Int) (nz cz : Nat) (han : Hid (al.length = na)) (hzn : Hid (zs.length = nz)) (hQ : Q < 9223372036854775808) (r mv : Int) (hr : Hid (msgE P Q G X1 X2 X3 key = r)) (hmv : Hid (msgV P Q G X1 X2 X3 key = mv)) (hne0 : r ≠ 0) (w : World) (hv : Hid (Vars w)) (hd : Hid (VarsD w)) (hA : Hid (Sl w A al)) (hZ : Hid (Sl w Z zs)) :
    Calls Tryz.prog 9 #[bv P Q G X1 X2 X3, acV key A na ca C Z nz cz] w fun e' w' => e' = .returned (.bool false) ∧ Below w.heap.size w w' := by
  have hne : (r == 0) = false := by simp [hne0]
  obtain ⟨w0, hW⟩ : ∃ W, ((w.alloc (bObj P Q G X1 X2 X3)).alloc (acO key A na ca C Z nz cz)) = W := ⟨_, rfl⟩
  have HBw : Hid (Below w.heap.size w w0) := Lib.hid (by rw [← hW]; exact below_two (Below.refl _ _))
  have hc : w0.cell? ⟨w.heap.size, 0, none⟩ = some (.int .i64 P) ∧ w0.cell? ⟨w.heap.size, 1, none⟩ = some (.int .i64 Q) ∧ w0.cell? ⟨w.heap.size, 2, none⟩ = some (.int .i64 G) ∧ w0.cell? ⟨w.heap.size, 3, none⟩ = some (.int .i64 X1) ∧ w0.cell? ⟨w.heap.size, 4, none⟩ = some (.int .i64 X2) ∧ w0.cell? ⟨w.heap.size, 5, none⟩ = some (.int .i64 X3) ∧ w0.cell? ⟨w.heap.size + 1, 0, none⟩ = some (.int .i64 key) ∧ w0.cell? ⟨w.heap.size + 1, 1, none⟩ = some (.slice A na ca) ∧ w0.cell? ⟨w.heap.size + 1, 2, none⟩ = some (.int .i64 C) ∧ w0.cell? ⟨w.heap.size + 1, 3, none⟩ = some (.slice Z nz cz) := by rw [← hW]; exact ⟨cell_below (allocs_cell (by simp) (by rfl)) (below_box0 _ _), cell_below (allocs_cell (by simp) (by rfl)) (below_box0 _ _), cell_below (allocs_cell (by simp) (by rfl)) (below_box0 _ _), cell_below (allocs_cell (by simp) (by rfl)) (below_box0 _ _), cell_below (allocs_cell (by simp) (by rfl)) (below_box0 _ _), cell_below (allocs_cell (by simp) (by rfl)) (below_box0 _ _), allocs_cell (by simp) (by rfl), allocs_cell (by simp) (by rfl), allocs_cell (by simp) (by rfl), allocs_cell (by simp) (by rfl)⟩
  have kC := Lib.hid (show ∀ u : World, Hid (Below w0.heap.size w0 u) → u.cell? ⟨w.heap.size, 0, none⟩ = some (.int .i64 P) ∧ u.cell? ⟨w.heap.size, 1, none⟩ = some (.int .i64 Q) ∧ u.cell? ⟨w.heap.size, 2, none⟩ = some (.int .i64 G) ∧ u.cell? ⟨w.heap.size, 3, none⟩ = some (.int .i64 X1) ∧ u.cell? ⟨w.heap.size, 4, none⟩ = some (.int .i64 X2) ∧ u.cell? ⟨w.heap.size, 5, none⟩ = some (.int .i64 X3) ∧ u.cell? ⟨w.heap.size + 1, 0, none⟩ = some (.int .i64 key) ∧ u.cell? ⟨w.heap.size + 1, 1, none⟩ = some (.slice A na ca) ∧ u.cell? ⟨w.heap.size + 1, 2, none⟩ = some (.int .i64 C) ∧ u.cell? ⟨w.heap.size + 1, 3, none⟩ = some (.slice Z nz cz) from fun u h => ⟨cell_below hc.1 h.out, cell_below hc.2.1 h.out, cell_below hc.2.2.1 h.out, cell_below hc.2.2.2.1 h.out, cell_below hc.2.2.2.2.1 h.out, cell_below hc.2.2.2.2.2.1 h.out, cell_below hc.2.2.2.2.2.2.1 h.out, cell_below hc.2.2.2.2.2.2.2.1 h.out, cell_below hc.2.2.2.2.2.2.2.2.1 h.out, cell_below hc.2.2.2.2.2.2.2.2.2 h.out⟩)
  have kV := Lib.hid (show ∀ u : World, Hid (Below w0.heap.size w0 u) → Hid (Vars u) from fun u h => Lib.hid ((hv.out.below) (below_ext HBw.out h.out)))
  have HB_0 : Hid (Below w0.heap.size w0 w0) := Lib.hid (Below.refl _ _)
  have HW := Lib.hid hW
  clear hW hc hv hd hA hZ
  go_enter Tryz.func9, Tryz.ntmps9
  go_wp2_with fail
  rw [HW.out]
  obtain ⟨zc0, zc1, zc2, zc3, zc4, zc5, zc6, zc7, zc8, zc9⟩ := kC.out _ HB_0
  go_wp2_with fail
  refine (message_any P Q G X1 X2 X3 key mv r hmv hr hQ _ (kV.out _ HB_0)).mono ?_
  rintro e w1 ⟨rfl, hb0⟩
  have HB_1 := Lib.hid (below_ext HB_0.out hb0)
  clear zc0 zc1 zc2 zc3 zc4 zc5 zc6 zc7 zc8 zc9
  clear hb0
  obtain ⟨zc0, zc1, zc2, zc3, zc4, zc5, zc6, zc7, zc8, zc9⟩ := kC.out _ HB_1
  have hbF := below_ext HBw.out HB_1.out
  go_wp2
  go_ret
  exact ⟨rfl, hbF⟩
set_option maxHeartbeats 6400000 in
theorem avalid_y (P Q G X1 X2 X3 key : Int) (A : Option Addr) (al : List Int) (na ca : Nat) (C : Int) (Z : Option Addr) (zs : List Int) (nz cz : Nat) (han : Hid (al.length = na)) (hzn : Hid (zs.length = nz)) (hQ : Q < 9223372036854775808) (mv : Int) (hr : Hid (msgE P Q G X1 X2 X3 key = 0)) (hmv : Hid (msgV P Q G X1 X2 X3 key = mv)) (b : Bool) (hb : Kp (verK P Q G X1 key C (bys lbAcc) al zs = b)) (w : World) (hv : Hid (Vars w)) (hd : Hid (VarsD w)) (hA : Hid (Sl w A al)) (hZ : Hid (Sl w Z zs)) :
    Calls Tryz.prog 9 #[bv P Q G X1 X2 X3, acV key A na ca C Z nz cz] w fun e' w' => e' = .returned (.bool b) ∧ Below w.heap.size w w' := by
  obtain ⟨w0, hW⟩ : ∃ W, ((w.alloc (bObj P Q G X1 X2 X3)).alloc (acO key A na ca C Z nz cz)) = W := ⟨_, rfl⟩
  have HBw : Hid (Below w.heap.size w w0) := Lib.hid (by rw [← hW]; exact below_two (Below.refl _ _))
  have hc : w0.cell? ⟨w.heap.size, 0, none⟩ = some (.int .i64 P) ∧ w0.cell? ⟨w.heap.size, 1, none⟩ = some (.int .i64 Q) ∧ w0.cell? ⟨w.heap.size, 2, none⟩ = some (.int .i64 G) ∧ w0.cell? ⟨w.heap.size, 3, none⟩ = some (.int .i64 X1) ∧ w0.cell? ⟨w.heap.size, 4, none⟩ = some (.int .i64 X2) ∧ w0.cell? ⟨w.heap.size, 5, none⟩ = some (.int .i64 X3) ∧ w0.cell? ⟨w.heap.size + 1, 0, none⟩ = some (.int .i64 key) ∧ w0.cell? ⟨w.heap.size + 1, 1, none⟩ = some (.slice A na ca) ∧ w0.cell? ⟨w.heap.size + 1, 2, none⟩ = some (.int .i64 C) ∧ w0.cell? ⟨w.heap.size + 1, 3, none⟩ = some (.slice Z nz cz) := by rw [← hW]; exact ⟨cell_below (allocs_cell (by simp) (by rfl)) (below_box0 _ _), cell_below (allocs_cell (by simp) (by rfl)) (below_box0 _ _), cell_below (allocs_cell (by simp) (by rfl)) (below_box0 _ _), cell_below (allocs_cell (by simp) (by rfl)) (below_box0 _ _), cell_below (allocs_cell (by simp) (by rfl)) (below_box0 _ _), cell_below (allocs_cell (by simp) (by rfl)) (below_box0 _ _), allocs_cell (by simp) (by rfl), allocs_cell (by simp) (by rfl), allocs_cell (by simp) (by rfl), allocs_cell (by simp) (by rfl)⟩
  have kC := Lib.hid (show ∀ u : World, Hid (Below w0.heap.size w0 u) → u.cell? ⟨w.heap.size, 0, none⟩ = some (.int .i64 P) ∧ u.cell? ⟨w.heap.size, 1, none⟩ = some (.int .i64 Q) ∧ u.cell? ⟨w.heap.size, 2, none⟩ = some (.int .i64 G) ∧ u.cell? ⟨w.heap.size, 3, none⟩ = some (.int .i64 X1) ∧ u.cell? ⟨w.heap.size, 4, none⟩ = some (.int .i64 X2) ∧ u.cell? ⟨w.heap.size, 5, none⟩ = some (.int .i64 X3) ∧ u.cell? ⟨w.heap.size + 1, 0, none⟩ = some (.int .i64 key) ∧ u.cell? ⟨w.heap.size + 1, 1, none⟩ = some (.slice A na ca) ∧ u.cell? ⟨w.heap.size + 1, 2, none⟩ = some (.int .i64 C) ∧ u.cell? ⟨w.heap.size + 1, 3, none⟩ = some (.slice Z nz cz) from fun u h => ⟨cell_below hc.1 h.out, cell_below hc.2.1 h.out, cell_below hc.2.2.1 h.out, cell_below hc.2.2.2.1 h.out, cell_below hc.2.2.2.2.1 h.out, cell_below hc.2.2.2.2.2.1 h.out, cell_below hc.2.2.2.2.2.2.1 h.out, cell_below hc.2.2.2.2.2.2.2.1 h.out, cell_below hc.2.2.2.2.2.2.2.2.1 h.out, cell_below hc.2.2.2.2.2.2.2.2.2 h.out⟩)
  have kV := Lib.hid (show ∀ u : World, Hid (Below w0.heap.size w0 u) → Hid (Vars u) from fun u h => Lib.hid ((hv.out.below) (below_ext HBw.out h.out)))
  have kD := Lib.hid (show ∀ u : World, Hid (Below w0.heap.size w0 u) → Hid (VarsD u) from fun u h => Lib.hid ((hd.out.below) (below_ext HBw.out h.out)))
  have kA := Lib.hid (show ∀ u : World, Hid (Below w0.heap.size w0 u) → Hid (Sl u A al) from fun u h => Lib.hid ((hA.out.below) (below_ext HBw.out h.out)))
  have kZ := Lib.hid (show ∀ u : World, Hid (Below w0.heap.size w0 u) → Hid (Sl u Z zs) from fun u h => Lib.hid ((hZ.out.below) (below_ext HBw.out h.out)))
  have HB_0 : Hid (Below w0.heap.size w0 w0) := Lib.hid (Below.refl _ _)
  have HW := Lib.hid hW
  clear hW hc hv hd hA hZ
  go_enter Tryz.func9, Tryz.ntmps9
  go_wp2_with fail
  rw [HW.out]
  obtain ⟨zc0, zc1, zc2, zc3, zc4, zc5, zc6, zc7, zc8, zc9⟩ := kC.out _ HB_0
  go_wp2_with fail
  refine (message_any P Q G X1 X2 X3 key mv 0 hmv hr hQ _ (kV.out _ HB_0)).mono ?_
  rintro e w1 ⟨rfl, hb0⟩
  have HB_1 := Lib.hid (below_ext HB_0.out hb0)
  clear zc0 zc1 zc2 zc3 zc4 zc5 zc6 zc7 zc8 zc9
  clear hb0
  obtain ⟨zc0, zc1, zc2, zc3, zc4, zc5, zc6, zc7, zc8, zc9⟩ := kC.out _ HB_1
  go_wp2_with fail
  refine (kver_any P Q G X1 key A al na ca C Z zs nz cz han hzn hQ lbAcc (by decide) b hb _ (kV.out _ HB_1) (kD.out _ HB_1) (kA.out _ HB_1) (kZ.out _ HB_1)).mono ?_
  rintro e w2 ⟨rfl, hb0⟩
  have HB_2 := Lib.hid (below_ext HB_1.out hb0)
  clear zc0 zc1 zc2 zc3 zc4 zc5 zc6 zc7 zc8 zc9
  clear hb0
  obtain ⟨zc0, zc1, zc2, zc3, zc4, zc5, zc6, zc7, zc8, zc9⟩ := kC.out _ HB_2
  have hbF := below_ext HBw.out HB_2.out
  go_wp2
  go_ret
  exact ⟨rfl, hbF⟩
/-- account.Valid. -/
theorem avalid_any (P Q G X1 X2 X3 key : Int) (A : Option Addr) (al : List Int) (na ca : Nat) (C : Int) (Z : Option Addr) (zs : List Int) (nz cz : Nat) (han : Hid (al.length = na)) (hzn : Hid (zs.length = nz)) (hQ : Q < 9223372036854775808) (r : Bool) (hr : Kp (acB P Q G X1 X2 X3 key C al zs = r)) (w : World) (hv : Hid (Vars w)) (hd : Hid (VarsD w)) (hA : Hid (Sl w A al)) (hZ : Hid (Sl w Z zs)) :
    Calls Tryz.prog 9 #[bv P Q G X1 X2 X3, acV key A na ca C Z nz cz] w fun e' w' => e' = .returned (.bool r) ∧ Below w.heap.size w w' := by
  by_cases h0 : msgE P Q G X1 X2 X3 key = 0
  · obtain ⟨b, hb⟩ : ∃ b, verK P Q G X1 key C (bys lbAcc) al zs = b := ⟨_, rfl⟩
    obtain rfl : b = r := by rw [← hr.1, acB, h0, hb]; rfl
    exact avalid_y P Q G X1 X2 X3 key A al na ca C Z zs nz cz han hzn hQ _ (Lib.hid h0) (Lib.hid rfl) b ⟨hb⟩ w hv hd hA hZ
  · obtain rfl : r = false := by rw [← hr.1, acB, show (msgE P Q G X1 X2 X3 key == 0) = false by simp [h0]]; rfl
    exact avalid_n P Q G X1 X2 X3 key A al na ca C Z zs nz cz han hzn hQ _ _ (Lib.hid rfl) (Lib.hid rfl) h0 w hv hd hA hZ
set_option maxHeartbeats 3200000 in
theorem rtimes_any (P Q G X1 X2 X3 key v : Int) (hv0 : Hid (key * X2 % P = v)) (hP : P < 2305843009213693952) (k0 : 0 ≤ key) (k1 : key < P) (x0 : 0 ≤ X2) (x1 : X2 < P) (w : World) :
    Calls Tryz.prog 69 #[bv P Q G X1 X2 X3, .int .i64 key] w fun e' w' => e' = .returned (.int .i64 v) ∧ Below w.heap.size w w' := by
  obtain ⟨w0, hW⟩ : ∃ W, (w.alloc (bObj P Q G X1 X2 X3)) = W := ⟨_, rfl⟩
  have HBw : Hid (Below w.heap.size w w0) := Lib.hid (by rw [← hW]; exact below_box0 _ _)
  have hc : w0.cell? ⟨w.heap.size, 0, none⟩ = some (.int .i64 P) ∧ w0.cell? ⟨w.heap.size, 1, none⟩ = some (.int .i64 Q) ∧ w0.cell? ⟨w.heap.size, 2, none⟩ = some (.int .i64 G) ∧ w0.cell? ⟨w.heap.size, 3, none⟩ = some (.int .i64 X1) ∧ w0.cell? ⟨w.heap.size, 4, none⟩ = some (.int .i64 X2) ∧ w0.cell? ⟨w.heap.size, 5, none⟩ = some (.int .i64 X3) := by rw [← hW]; exact ⟨allocs_cell (by simp) (by rfl), allocs_cell (by simp) (by rfl), allocs_cell (by simp) (by rfl), allocs_cell (by simp) (by rfl), allocs_cell (by simp) (by rfl), allocs_cell (by simp) (by rfl)⟩
  have kC := Lib.hid (show ∀ u : World, Hid (Below w0.heap.size w0 u) → u.cell? ⟨w.heap.size, 0, none⟩ = some (.int .i64 P) ∧ u.cell? ⟨w.heap.size, 1, none⟩ = some (.int .i64 Q) ∧ u.cell? ⟨w.heap.size, 2, none⟩ = some (.int .i64 G) ∧ u.cell? ⟨w.heap.size, 3, none⟩ = some (.int .i64 X1) ∧ u.cell? ⟨w.heap.size, 4, none⟩ = some (.int .i64 X2) ∧ u.cell? ⟨w.heap.size, 5, none⟩ = some (.int .i64 X3) from fun u h => ⟨cell_below hc.1 h.out, cell_below hc.2.1 h.out, cell_below hc.2.2.1 h.out, cell_below hc.2.2.2.1 h.out, cell_below hc.2.2.2.2.1 h.out, cell_below hc.2.2.2.2.2 h.out⟩)
  have HB_0 : Hid (Below w0.heap.size w0 w0) := Lib.hid (Below.refl _ _)
  have HW := Lib.hid hW
  clear hW hc 
  go_enter Tryz.func69, Tryz.ntmps69
  go_wp2_with fail
  rw [HW.out]
  obtain ⟨zc0, zc1, zc2, zc3, zc4, zc5⟩ := kC.out _ HB_0
  go_wp2_with fail
  refine (rmul_any key X2 P v hv0 hP k0 k1 x0 x1 _).mono ?_
  rintro e w1 ⟨rfl, rfl⟩
  have hbF := below_ext HBw.out HB_0.out
  go_wp2
  go_ret
  exact ⟨rfl, hbF⟩
/-- what IsKey says. -/
def keyB (P Q X2 key : Int) : Bool := (key != 1) && (memG P Q key && (key * X2 % P != 1))
set_option maxHeartbeats 3200000 in
theorem iskey_1 (P Q G X1 X2 X3 key : Int) (hval : Hid (validB P Q G X1 X2 X3 = true)) (h1 : (key != 1) = false) (w : World) :
    Calls Tryz.prog 38 #[bv P Q G X1 X2 X3, .int .i64 key] w fun e' w' => e' = .returned (.bool false) ∧ Below w.heap.size w w' := by
  obtain ⟨w0, hW⟩ : ∃ W, (w.alloc (bObj P Q G X1 X2 X3)) = W := ⟨_, rfl⟩
  have HBw : Hid (Below w.heap.size w w0) := Lib.hid (by rw [← hW]; exact below_box0 _ _)
  have hc : w0.cell? ⟨w.heap.size, 0, none⟩ = some (.int .i64 P) ∧ w0.cell? ⟨w.heap.size, 1, none⟩ = some (.int .i64 Q) ∧ w0.cell? ⟨w.heap.size, 2, none⟩ = some (.int .i64 G) ∧ w0.cell? ⟨w.heap.size, 3, none⟩ = some (.int .i64 X1) ∧ w0.cell? ⟨w.heap.size, 4, none⟩ = some (.int .i64 X2) ∧ w0.cell? ⟨w.heap.size, 5, none⟩ = some (.int .i64 X3) := by rw [← hW]; exact ⟨allocs_cell (by simp) (by rfl), allocs_cell (by simp) (by rfl), allocs_cell (by simp) (by rfl), allocs_cell (by simp) (by rfl), allocs_cell (by simp) (by rfl), allocs_cell (by simp) (by rfl)⟩
  have kC := Lib.hid (show ∀ u : World, Hid (Below w0.heap.size w0 u) → u.cell? ⟨w.heap.size, 0, none⟩ = some (.int .i64 P) ∧ u.cell? ⟨w.heap.size, 1, none⟩ = some (.int .i64 Q) ∧ u.cell? ⟨w.heap.size, 2, none⟩ = some (.int .i64 G) ∧ u.cell? ⟨w.heap.size, 3, none⟩ = some (.int .i64 X1) ∧ u.cell? ⟨w.heap.size, 4, none⟩ = some (.int .i64 X2) ∧ u.cell? ⟨w.heap.size, 5, none⟩ = some (.int .i64 X3) from fun u h => ⟨cell_below hc.1 h.out, cell_below hc.2.1 h.out, cell_below hc.2.2.1 h.out, cell_below hc.2.2.2.1 h.out, cell_below hc.2.2.2.2.1 h.out, cell_below hc.2.2.2.2.2 h.out⟩)
  have HB_0 : Hid (Below w0.heap.size w0 w0) := Lib.hid (Below.refl _ _)
  have HW := Lib.hid hW
  clear hW hc 
  go_enter Tryz.func38, Tryz.ntmps38
  go_wp2_with fail
  rw [HW.out]
  obtain ⟨zc0, zc1, zc2, zc3, zc4, zc5⟩ := kC.out _ HB_0
  have hbF := below_ext HBw.out HB_0.out
  go_wp2
  go_ret
  exact ⟨rfl, hbF⟩
set_option maxHeartbeats 3200000 in
theorem iskey_2 (P Q G X1 X2 X3 key : Int) (hval : Hid (validB P Q G X1 X2 X3 = true)) (h1 : (key != 1) = true) (HM : Hid (memG P Q key = false)) (w : World) :
    Calls Tryz.prog 38 #[bv P Q G X1 X2 X3, .int .i64 key] w fun e' w' => e' = .returned (.bool false) ∧ Below w.heap.size w w' := by
  obtain ⟨v1, v2, v3, v4, _, _, _⟩ := validB_parts hval.out
  obtain ⟨p1, p2, p3, p4⟩ := validG_P v1
  have l3 := memG_lo v3
  have u3 := memG_hi v3
  obtain ⟨w0, hW⟩ : ∃ W, (w.alloc (bObj P Q G X1 X2 X3)) = W := ⟨_, rfl⟩
  have HBw : Hid (Below w.heap.size w w0) := Lib.hid (by rw [← hW]; exact below_box0 _ _)
  have hc : w0.cell? ⟨w.heap.size, 0, none⟩ = some (.int .i64 P) ∧ w0.cell? ⟨w.heap.size, 1, none⟩ = some (.int .i64 Q) ∧ w0.cell? ⟨w.heap.size, 2, none⟩ = some (.int .i64 G) ∧ w0.cell? ⟨w.heap.size, 3, none⟩ = some (.int .i64 X1) ∧ w0.cell? ⟨w.heap.size, 4, none⟩ = some (.int .i64 X2) ∧ w0.cell? ⟨w.heap.size, 5, none⟩ = some (.int .i64 X3) := by rw [← hW]; exact ⟨allocs_cell (by simp) (by rfl), allocs_cell (by simp) (by rfl), allocs_cell (by simp) (by rfl), allocs_cell (by simp) (by rfl), allocs_cell (by simp) (by rfl), allocs_cell (by simp) (by rfl)⟩
  have kC := Lib.hid (show ∀ u : World, Hid (Below w0.heap.size w0 u) → u.cell? ⟨w.heap.size, 0, none⟩ = some (.int .i64 P) ∧ u.cell? ⟨w.heap.size, 1, none⟩ = some (.int .i64 Q) ∧ u.cell? ⟨w.heap.size, 2, none⟩ = some (.int .i64 G) ∧ u.cell? ⟨w.heap.size, 3, none⟩ = some (.int .i64 X1) ∧ u.cell? ⟨w.heap.size, 4, none⟩ = some (.int .i64 X2) ∧ u.cell? ⟨w.heap.size, 5, none⟩ = some (.int .i64 X3) from fun u h => ⟨cell_below hc.1 h.out, cell_below hc.2.1 h.out, cell_below hc.2.2.1 h.out, cell_below hc.2.2.2.1 h.out, cell_below hc.2.2.2.2.1 h.out, cell_below hc.2.2.2.2.2 h.out⟩)
  have HB_0 : Hid (Below w0.heap.size w0 w0) := Lib.hid (Below.refl _ _)
  have HW := Lib.hid hW
  clear hW hc 
  go_enter Tryz.func38, Tryz.ntmps38
  go_wp2_with fail
  rw [HW.out]
  obtain ⟨zc0, zc1, zc2, zc3, zc4, zc5⟩ := kC.out _ HB_0
  go_wp2_with fail
  refine (rmember_any P Q G key false HM p2 (by omega) (by omega) _).mono ?_
  rintro e w1 ⟨rfl, hb0⟩
  have HB_1 := Lib.hid (below_ext HB_0.out hb0)
  clear zc0 zc1 zc2 zc3 zc4 zc5
  clear hb0
  obtain ⟨zc0, zc1, zc2, zc3, zc4, zc5⟩ := kC.out _ HB_1
  have hbF := below_ext HBw.out HB_1.out
  go_wp2
  go_ret
  exact ⟨rfl, hbF⟩
set_option maxHeartbeats 3200000 in
theorem iskey_3 (P Q G X1 X2 X3 key : Int) (hval : Hid (validB P Q G X1 X2 X3 = true)) (h1 : (key != 1) = true) (HM : Hid (memG P Q key = true)) (v : Int) (hv0 : Hid (key * X2 % P = v)) (b : Bool) (hb : (v != 1) = b) (w : World) :
    Calls Tryz.prog 38 #[bv P Q G X1 X2 X3, .int .i64 key] w fun e' w' => e' = .returned (.bool b) ∧ Below w.heap.size w w' := by
  obtain ⟨v1, v2, v3, v4, _, _, _⟩ := validB_parts hval.out
  obtain ⟨p1, p2, p3, p4⟩ := validG_P v1
  have l3 := memG_lo v3
  have u3 := memG_hi v3
  have lk := memG_lo HM.out
  have uk := memG_hi HM.out
  obtain ⟨w0, hW⟩ : ∃ W, (w.alloc (bObj P Q G X1 X2 X3)) = W := ⟨_, rfl⟩
  have HBw : Hid (Below w.heap.size w w0) := Lib.hid (by rw [← hW]; exact below_box0 _ _)
  have hc : w0.cell? ⟨w.heap.size, 0, none⟩ = some (.int .i64 P) ∧ w0.cell? ⟨w.heap.size, 1, none⟩ = some (.int .i64 Q) ∧ w0.cell? ⟨w.heap.size, 2, none⟩ = some (.int .i64 G) ∧ w0.cell? ⟨w.heap.size, 3, none⟩ = some (.int .i64 X1) ∧ w0.cell? ⟨w.heap.size, 4, none⟩ = some (.int .i64 X2) ∧ w0.cell? ⟨w.heap.size, 5, none⟩ = some (.int .i64 X3) := by rw [← hW]; exact ⟨allocs_cell (by simp) (by rfl), allocs_cell (by simp) (by rfl), allocs_cell (by simp) (by rfl), allocs_cell (by simp) (by rfl), allocs_cell (by simp) (by rfl), allocs_cell (by simp) (by rfl)⟩
  have kC := Lib.hid (show ∀ u : World, Hid (Below w0.heap.size w0 u) → u.cell? ⟨w.heap.size, 0, none⟩ = some (.int .i64 P) ∧ u.cell? ⟨w.heap.size, 1, none⟩ = some (.int .i64 Q) ∧ u.cell? ⟨w.heap.size, 2, none⟩ = some (.int .i64 G) ∧ u.cell? ⟨w.heap.size, 3, none⟩ = some (.int .i64 X1) ∧ u.cell? ⟨w.heap.size, 4, none⟩ = some (.int .i64 X2) ∧ u.cell? ⟨w.heap.size, 5, none⟩ = some (.int .i64 X3) from fun u h => ⟨cell_below hc.1 h.out, cell_below hc.2.1 h.out, cell_below hc.2.2.1 h.out, cell_below hc.2.2.2.1 h.out, cell_below hc.2.2.2.2.1 h.out, cell_below hc.2.2.2.2.2 h.out⟩)
  have HB_0 : Hid (Below w0.heap.size w0 w0) := Lib.hid (Below.refl _ _)
  have HW := Lib.hid hW
  clear hW hc 
  go_enter Tryz.func38, Tryz.ntmps38
  go_wp2_with fail
  rw [HW.out]
  obtain ⟨zc0, zc1, zc2, zc3, zc4, zc5⟩ := kC.out _ HB_0
  go_wp2_with fail
  refine (rmember_any P Q G key true HM p2 (by omega) (by omega) _).mono ?_
  rintro e w1 ⟨rfl, hb0⟩
  have HB_1 := Lib.hid (below_ext HB_0.out hb0)
  clear zc0 zc1 zc2 zc3 zc4 zc5
  clear hb0
  obtain ⟨zc0, zc1, zc2, zc3, zc4, zc5⟩ := kC.out _ HB_1
  go_wp2_with fail
  refine (rtimes_any P Q G X1 X2 X3 key v hv0 p2 (by omega) uk (by omega) u3 _).mono ?_
  rintro e w2 ⟨rfl, hb0⟩
  have HB_2 := Lib.hid (below_ext HB_1.out hb0)
  clear zc0 zc1 zc2 zc3 zc4 zc5
  clear hb0
  obtain ⟨zc0, zc1, zc2, zc3, zc4, zc5⟩ := kC.out _ HB_2
  have hbF := below_ext HBw.out HB_2.out
  go_wp2
  go_ret
  exact ⟨rfl, hbF⟩
theorem iskey_any (P Q G X1 X2 X3 key : Int) (hval : Hid (validB P Q G X1 X2 X3 = true)) (r : Bool) (hr : Hid (keyB P Q X2 key = r)) (w : World) :
    Calls Tryz.prog 38 #[bv P Q G X1 X2 X3, .int .i64 key] w fun e' w' => e' = .returned (.bool r) ∧ Below w.heap.size w w' := by
  have hr1 := hr.out
  unfold keyB at hr1
  cases h1 : (key != 1) with
  | false =>
    obtain rfl : r = false := by rw [← hr1, h1]; rfl
    exact iskey_1 P Q G X1 X2 X3 key hval h1 w
  | true =>
    cases h2 : memG P Q key with
    | false =>
      obtain rfl : r = false := by rw [← hr1, h1, h2]; rfl
      exact iskey_2 P Q G X1 X2 X3 key hval h1 (Lib.hid h2) w
    | true => exact iskey_3 P Q G X1 X2 X3 key hval h1 (Lib.hid h2) _ (Lib.hid rfl) r (by rw [← hr1, h1, h2]; rfl) w
set_option maxHeartbeats 6400000 in
theorem ravalid_1 (P Q G X1 X2 X3 key : Int) (A : Option Addr) (al : List Int) (na ca : Nat) (C : Int) (Z : Option Addr) (zs : List Int) (nz cz : Nat) (han : Hid (al.length = na)) (hzn : Hid (zs.length = nz)) (hQ : Q < 9223372036854775808) (HVB : Hid (validB P Q G X1 X2 X3 = false)) (w : World) (hA : Hid (Sl w A al)) (hZ : Hid (Sl w Z zs)) :
    Calls Tryz.prog 10 #[bv P Q G X1 X2 X3, acV key A na ca C Z nz cz] w fun e' w' => e' = .returned (.bool false) ∧ Below w.heap.size w w' := by
  obtain ⟨w0, hW⟩ : ∃ W, ((w.alloc (bObj P Q G X1 X2 X3)).alloc (acO key A na ca C Z nz cz)) = W := ⟨_, rfl⟩
  have HBw : Hid (Below w.heap.size w w0) := Lib.hid (by rw [← hW]; exact below_two (Below.refl _ _))
  have hc : w0.cell? ⟨w.heap.size, 0, none⟩ = some (.int .i64 P) ∧ w0.cell? ⟨w.heap.size, 1, none⟩ = some (.int .i64 Q) ∧ w0.cell? ⟨w.heap.size, 2, none⟩ = some (.int .i64 G) ∧ w0.cell? ⟨w.heap.size, 3, none⟩ = some (.int .i64 X1) ∧ w0.cell? ⟨w.heap.size, 4, none⟩ = some (.int .i64 X2) ∧ w0.cell? ⟨w.heap.size, 5, none⟩ = some (.int .i64 X3) ∧ w0.cell? ⟨w.heap.size + 1, 0, none⟩ = some (.int .i64 key) ∧ w0.cell? ⟨w.heap.size + 1, 1, none⟩ = some (.slice A na ca) ∧ w0.cell? ⟨w.heap.size + 1, 2, none⟩ = some (.int .i64 C) ∧ w0.cell? ⟨w.heap.size + 1, 3, none⟩ = some (.slice Z nz cz) := by rw [← hW]; exact ⟨cell_below (allocs_cell (by simp) (by rfl)) (below_box0 _ _), cell_below (allocs_cell (by simp) (by rfl)) (below_box0 _ _), cell_below (allocs_cell (by simp) (by rfl)) (below_box0 _ _), cell_below (allocs_cell (by simp) (by rfl)) (below_box0 _ _), cell_below (allocs_cell (by simp) (by rfl)) (below_box0 _ _), cell_below (allocs_cell (by simp) (by rfl)) (below_box0 _ _), allocs_cell (by simp) (by rfl), allocs_cell (by simp) (by rfl), allocs_cell (by simp) (by rfl), allocs_cell (by simp) (by rfl)⟩
  have kC := Lib.hid (show ∀ u : World, Hid (Below w0.heap.size w0 u) → u.cell? ⟨w.heap.size, 0, none⟩ = some (.int .i64 P) ∧ u.cell? ⟨w.heap.size, 1, none⟩ = some (.int .i64 Q) ∧ u.cell? ⟨w.heap.size, 2, none⟩ = some (.int .i64 G) ∧ u.cell? ⟨w.heap.size, 3, none⟩ = some (.int .i64 X1) ∧ u.cell? ⟨w.heap.size, 4, none⟩ = some (.int .i64 X2) ∧ u.cell? ⟨w.heap.size, 5, none⟩ = some (.int .i64 X3) ∧ u.cell? ⟨w.heap.size + 1, 0, none⟩ = some (.int .i64 key) ∧ u.cell? ⟨w.heap.size + 1, 1, none⟩ = some (.slice A na ca) ∧ u.cell? ⟨w.heap.size + 1, 2, none⟩ = some (.int .i64 C) ∧ u.cell? ⟨w.heap.size + 1, 3, none⟩ = some (.slice Z nz cz) from fun u h => ⟨cell_below hc.1 h.out, cell_below hc.2.1 h.out, cell_below hc.2.2.1 h.out, cell_below hc.2.2.2.1 h.out, cell_below hc.2.2.2.2.1 h.out, cell_below hc.2.2.2.2.2.1 h.out, cell_below hc.2.2.2.2.2.2.1 h.out, cell_below hc.2.2.2.2.2.2.2.1 h.out, cell_below hc.2.2.2.2.2.2.2.2.1 h.out, cell_below hc.2.2.2.2.2.2.2.2.2 h.out⟩)
  have kA := Lib.hid (show ∀ u : World, Hid (Below w0.heap.size w0 u) → Hid (Sl u A al) from fun u h => Lib.hid ((hA.out.below) (below_ext HBw.out h.out)))
  have kZ := Lib.hid (show ∀ u : World, Hid (Below w0.heap.size w0 u) → Hid (Sl u Z zs) from fun u h => Lib.hid ((hZ.out.below) (below_ext HBw.out h.out)))
  have HB_0 : Hid (Below w0.heap.size w0 w0) := Lib.hid (Below.refl _ _)
  have HW := Lib.hid hW
  clear hW hc hA hZ
  go_enter Tryz.func10, Tryz.ntmps10
  go_wp2_with fail
  rw [HW.out]
  obtain ⟨zc0, zc1, zc2, zc3, zc4, zc5, zc6, zc7, zc8, zc9⟩ := kC.out _ HB_0
  go_wp2_with fail
  refine (rbvalid_any P Q G X1 X2 X3 false HVB hQ _).mono ?_
  rintro e w1 ⟨rfl, hb0⟩
  have HB_1 := Lib.hid (below_ext HB_0.out hb0)
  clear zc0 zc1 zc2 zc3 zc4 zc5 zc6 zc7 zc8 zc9
  clear hb0
  obtain ⟨zc0, zc1, zc2, zc3, zc4, zc5, zc6, zc7, zc8, zc9⟩ := kC.out _ HB_1
  have hbF := below_ext HBw.out HB_1.out
  go_wp2
  go_ret
  exact ⟨rfl, hbF⟩
set_option maxHeartbeats 6400000 in
theorem ravalid_2 (P Q G X1 X2 X3 key : Int) (A : Option Addr) (al : List Int) (na ca : Nat) (C : Int) (Z : Option Addr) (zs : List Int) (nz cz : Nat) (han : Hid (al.length = na)) (hzn : Hid (zs.length = nz)) (hQ : Q < 9223372036854775808) (HVB : Hid (validB P Q G X1 X2 X3 = true)) (HKB : Hid (keyB P Q X2 key = false)) (w : World) (hA : Hid (Sl w A al)) (hZ : Hid (Sl w Z zs)) :
    Calls Tryz.prog 10 #[bv P Q G X1 X2 X3, acV key A na ca C Z nz cz] w fun e' w' => e' = .returned (.bool false) ∧ Below w.heap.size w w' := by
  obtain ⟨w0, hW⟩ : ∃ W, ((w.alloc (bObj P Q G X1 X2 X3)).alloc (acO key A na ca C Z nz cz)) = W := ⟨_, rfl⟩
  have HBw : Hid (Below w.heap.size w w0) := Lib.hid (by rw [← hW]; exact below_two (Below.refl _ _))
  have hc : w0.cell? ⟨w.heap.size, 0, none⟩ = some (.int .i64 P) ∧ w0.cell? ⟨w.heap.size, 1, none⟩ = some (.int .i64 Q) ∧ w0.cell? ⟨w.heap.size, 2, none⟩ = some (.int .i64 G) ∧ w0.cell? ⟨w.heap.size, 3, none⟩ = some (.int .i64 X1) ∧ w0.cell? ⟨w.heap.size, 4, none⟩ = some (.int .i64 X2) ∧ w0.cell? ⟨w.heap.size, 5, none⟩ = some (.int .i64 X3) ∧ w0.cell? ⟨w.heap.size + 1, 0, none⟩ = some (.int .i64 key) ∧ w0.cell? ⟨w.heap.size + 1, 1, none⟩ = some (.slice A na ca) ∧ w0.cell? ⟨w.heap.size + 1, 2, none⟩ = some (.int .i64 C) ∧ w0.cell? ⟨w.heap.size + 1, 3, none⟩ = some (.slice Z nz cz) := by rw [← hW]; exact ⟨cell_below (allocs_cell (by simp) (by rfl)) (below_box0 _ _), cell_below (allocs_cell (by simp) (by rfl)) (below_box0 _ _), cell_below (allocs_cell (by simp) (by rfl)) (below_box0 _ _), cell_below (allocs_cell (by simp) (by rfl)) (below_box0 _ _), cell_below (allocs_cell (by simp) (by rfl)) (below_box0 _ _), cell_below (allocs_cell (by simp) (by rfl)) (below_box0 _ _), allocs_cell (by simp) (by rfl), allocs_cell (by simp) (by rfl), allocs_cell (by simp) (by rfl), allocs_cell (by simp) (by rfl)⟩
  have kC := Lib.hid (show ∀ u : World, Hid (Below w0.heap.size w0 u) → u.cell? ⟨w.heap.size, 0, none⟩ = some (.int .i64 P) ∧ u.cell? ⟨w.heap.size, 1, none⟩ = some (.int .i64 Q) ∧ u.cell? ⟨w.heap.size, 2, none⟩ = some (.int .i64 G) ∧ u.cell? ⟨w.heap.size, 3, none⟩ = some (.int .i64 X1) ∧ u.cell? ⟨w.heap.size, 4, none⟩ = some (.int .i64 X2) ∧ u.cell? ⟨w.heap.size, 5, none⟩ = some (.int .i64 X3) ∧ u.cell? ⟨w.heap.size + 1, 0, none⟩ = some (.int .i64 key) ∧ u.cell? ⟨w.heap.size + 1, 1, none⟩ = some (.slice A na ca) ∧ u.cell? ⟨w.heap.size + 1, 2, none⟩ = some (.int .i64 C) ∧ u.cell? ⟨w.heap.size + 1, 3, none⟩ = some (.slice Z nz cz) from fun u h => ⟨cell_below hc.1 h.out, cell_below hc.2.1 h.out, cell_below hc.2.2.1 h.out, cell_below hc.2.2.2.1 h.out, cell_below hc.2.2.2.2.1 h.out, cell_below hc.2.2.2.2.2.1 h.out, cell_below hc.2.2.2.2.2.2.1 h.out, cell_below hc.2.2.2.2.2.2.2.1 h.out, cell_below hc.2.2.2.2.2.2.2.2.1 h.out, cell_below hc.2.2.2.2.2.2.2.2.2 h.out⟩)
  have kA := Lib.hid (show ∀ u : World, Hid (Below w0.heap.size w0 u) → Hid (Sl u A al) from fun u h => Lib.hid ((hA.out.below) (below_ext HBw.out h.out)))
  have kZ := Lib.hid (show ∀ u : World, Hid (Below w0.heap.size w0 u) → Hid (Sl u Z zs) from fun u h => Lib.hid ((hZ.out.below) (below_ext HBw.out h.out)))
  have HB_0 : Hid (Below w0.heap.size w0 w0) := Lib.hid (Below.refl _ _)
  have HW := Lib.hid hW
  clear hW hc hA hZ
  go_enter Tryz.func10, Tryz.ntmps10
  go_wp2_with fail
  rw [HW.out]
  obtain ⟨zc0, zc1, zc2, zc3, zc4, zc5, zc6, zc7, zc8, zc9⟩ := kC.out _ HB_0
  go_wp2_with fail
  refine (rbvalid_any P Q G X1 X2 X3 true HVB hQ _).mono ?_
  rintro e w1 ⟨rfl, hb0⟩
  have HB_1 := Lib.hid (below_ext HB_0.out hb0)
  clear zc0 zc1 zc2 zc3 zc4 zc5 zc6 zc7 zc8 zc9
  clear hb0
  obtain ⟨zc0, zc1, zc2, zc3, zc4, zc5, zc6, zc7, zc8, zc9⟩ := kC.out _ HB_1
  go_wp2_with fail
  refine (iskey_any P Q G X1 X2 X3 key HVB false HKB _).mono ?_
  rintro e w2 ⟨rfl, hb0⟩
  have HB_2 := Lib.hid (below_ext HB_1.out hb0)
  clear zc0 zc1 zc2 zc3 zc4 zc5 zc6 zc7 zc8 zc9
  clear hb0
  obtain ⟨zc0, zc1, zc2, zc3, zc4, zc5, zc6, zc7, zc8, zc9⟩ := kC.out _ HB_2
  have hbF := below_ext HBw.out HB_2.out
  go_wp2
  go_ret
  exact ⟨rfl, hbF⟩
set_option maxHeartbeats 6400000 in
theorem ravalid_3 (P Q G X1 X2 X3 key : Int) (A : Option Addr) (al : List Int) (na ca : Nat) (C : Int) (Z : Option Addr) (zs : List Int) (nz cz : Nat) (han : Hid (al.length = na)) (hzn : Hid (zs.length = nz)) (hQ : Q < 9223372036854775808) (HVB : Hid (validB P Q G X1 X2 X3 = true)) (HKB : Hid (keyB P Q X2 key = true)) (b : Bool) (hb : Kp (verK P Q G X1 key C (bys lbAcc) al zs = b)) (w : World) (hA : Hid (Sl w A al)) (hZ : Hid (Sl w Z zs)) :
    Calls Tryz.prog 10 #[bv P Q G X1 X2 X3, acV key A na ca C Z nz cz] w fun e' w' => e' = .returned (.bool b) ∧ Below w.heap.size w w' := by
  obtain ⟨w0, hW⟩ : ∃ W, ((w.alloc (bObj P Q G X1 X2 X3)).alloc (acO key A na ca C Z nz cz)) = W := ⟨_, rfl⟩
  have HBw : Hid (Below w.heap.size w w0) := Lib.hid (by rw [← hW]; exact below_two (Below.refl _ _))
  have hc : w0.cell? ⟨w.heap.size, 0, none⟩ = some (.int .i64 P) ∧ w0.cell? ⟨w.heap.size, 1, none⟩ = some (.int .i64 Q) ∧ w0.cell? ⟨w.heap.size, 2, none⟩ = some (.int .i64 G) ∧ w0.cell? ⟨w.heap.size, 3, none⟩ = some (.int .i64 X1) ∧ w0.cell? ⟨w.heap.size, 4, none⟩ = some (.int .i64 X2) ∧ w0.cell? ⟨w.heap.size, 5, none⟩ = some (.int .i64 X3) ∧ w0.cell? ⟨w.heap.size + 1, 0, none⟩ = some (.int .i64 key) ∧ w0.cell? ⟨w.heap.size + 1, 1, none⟩ = some (.slice A na ca) ∧ w0.cell? ⟨w.heap.size + 1, 2, none⟩ = some (.int .i64 C) ∧ w0.cell? ⟨w.heap.size + 1, 3, none⟩ = some (.slice Z nz cz) := by rw [← hW]; exact ⟨cell_below (allocs_cell (by simp) (by rfl)) (below_box0 _ _), cell_below (allocs_cell (by simp) (by rfl)) (below_box0 _ _), cell_below (allocs_cell (by simp) (by rfl)) (below_box0 _ _), cell_below (allocs_cell (by simp) (by rfl)) (below_box0 _ _), cell_below (allocs_cell (by simp) (by rfl)) (below_box0 _ _), cell_below (allocs_cell (by simp) (by rfl)) (below_box0 _ _), allocs_cell (by simp) (by rfl), allocs_cell (by simp) (by rfl), allocs_cell (by simp) (by rfl), allocs_cell (by simp) (by rfl)⟩
  have kC := Lib.hid (show ∀ u : World, Hid (Below w0.heap.size w0 u) → u.cell? ⟨w.heap.size, 0, none⟩ = some (.int .i64 P) ∧ u.cell? ⟨w.heap.size, 1, none⟩ = some (.int .i64 Q) ∧ u.cell? ⟨w.heap.size, 2, none⟩ = some (.int .i64 G) ∧ u.cell? ⟨w.heap.size, 3, none⟩ = some (.int .i64 X1) ∧ u.cell? ⟨w.heap.size, 4, none⟩ = some (.int .i64 X2) ∧ u.cell? ⟨w.heap.size, 5, none⟩ = some (.int .i64 X3) ∧ u.cell? ⟨w.heap.size + 1, 0, none⟩ = some (.int .i64 key) ∧ u.cell? ⟨w.heap.size + 1, 1, none⟩ = some (.slice A na ca) ∧ u.cell? ⟨w.heap.size + 1, 2, none⟩ = some (.int .i64 C) ∧ u.cell? ⟨w.heap.size + 1, 3, none⟩ = some (.slice Z nz cz) from fun u h => ⟨cell_below hc.1 h.out, cell_below hc.2.1 h.out, cell_below hc.2.2.1 h.out, cell_below hc.2.2.2.1 h.out, cell_below hc.2.2.2.2.1 h.out, cell_below hc.2.2.2.2.2.1 h.out, cell_below hc.2.2.2.2.2.2.1 h.out, cell_below hc.2.2.2.2.2.2.2.1 h.out, cell_below hc.2.2.2.2.2.2.2.2.1 h.out, cell_below hc.2.2.2.2.2.2.2.2.2 h.out⟩)
  have kA := Lib.hid (show ∀ u : World, Hid (Below w0.heap.size w0 u) → Hid (Sl u A al) from fun u h => Lib.hid ((hA.out.below) (below_ext HBw.out h.out)))
  have kZ := Lib.hid (show ∀ u : World, Hid (Below w0.heap.size w0 u) → Hid (Sl u Z zs) from fun u h => Lib.hid ((hZ.out.below) (below_ext HBw.out h.out)))
  have HB_0 : Hid (Below w0.heap.size w0 w0) := Lib.hid (Below.refl _ _)
  have HW := Lib.hid hW
  clear hW hc hA hZ
  go_enter Tryz.func10, Tryz.ntmps10
  go_wp2_with fail
  rw [HW.out]
  obtain ⟨zc0, zc1, zc2, zc3, zc4, zc5, zc6, zc7, zc8, zc9⟩ := kC.out _ HB_0
  go_wp2_with fail
  refine (rbvalid_any P Q G X1 X2 X3 true HVB hQ _).mono ?_
  rintro e w1 ⟨rfl, hb0⟩
  have HB_1 := Lib.hid (below_ext HB_0.out hb0)
  clear zc0 zc1 zc2 zc3 zc4 zc5 zc6 zc7 zc8 zc9
  clear hb0
  obtain ⟨zc0, zc1, zc2, zc3, zc4, zc5, zc6, zc7, zc8, zc9⟩ := kC.out _ HB_1
  go_wp2_with fail
  refine (iskey_any P Q G X1 X2 X3 key HVB true HKB _).mono ?_
  rintro e w2 ⟨rfl, hb0⟩
  have HB_2 := Lib.hid (below_ext HB_1.out hb0)
  clear zc0 zc1 zc2 zc3 zc4 zc5 zc6 zc7 zc8 zc9
  clear hb0
  obtain ⟨zc0, zc1, zc2, zc3, zc4, zc5, zc6, zc7, zc8, zc9⟩ := kC.out _ HB_2
  go_wp2_with fail
  refine (rkver_any P Q G X1 key A al na ca C Z zs nz cz han hzn hQ lbAcc (by decide) b hb _ (kA.out _ HB_2) (kZ.out _ HB_2)).mono ?_
  rintro e w3 ⟨rfl, hb0⟩
  have HB_3 := Lib.hid (below_ext HB_2.out hb0)
  clear zc0 zc1 zc2 zc3 zc4 zc5 zc6 zc7 zc8 zc9
  clear hb0
  obtain ⟨zc0, zc1, zc2, zc3, zc4, zc5, zc6, zc7, zc8, zc9⟩ := kC.out _ HB_3
  have hbF := below_ext HBw.out HB_3.out
  go_wp2
  go_ret
  exact ⟨rfl, hbF⟩
theorem msgE_key {P Q G X1 X2 X3 key : Int} : (msgE P Q G X1 X2 X3 key == 0) = (validB P Q G X1 X2 X3 && keyB P Q X2 key) := by
  unfold msgE keyB okB
  cases hv : validB P Q G X1 X2 X3 with
  | false => simp
  | true =>
    cases h1 : (key != 1) with
    | false => simp
    | true =>
      cases h2 : memG P Q key with
      | false => simp
      | true =>
        by_cases h3 : key * X2 % P = 1
        · simp [h3]
        · simp [h3]
/-- specieref29.Valid. -/
theorem ravalid_any (P Q G X1 X2 X3 key : Int) (A : Option Addr) (al : List Int) (na ca : Nat) (C : Int) (Z : Option Addr) (zs : List Int) (nz cz : Nat) (han : Hid (al.length = na)) (hzn : Hid (zs.length = nz)) (hQ : Q < 9223372036854775808) (r : Bool) (hr : Kp (acB P Q G X1 X2 X3 key C al zs = r)) (w : World) (hA : Hid (Sl w A al)) (hZ : Hid (Sl w Z zs)) :
    Calls Tryz.prog 10 #[bv P Q G X1 X2 X3, acV key A na ca C Z nz cz] w fun e' w' => e' = .returned (.bool r) ∧ Below w.heap.size w w' := by
  have hr1 := hr.1
  unfold acB at hr1
  rw [msgE_key] at hr1
  cases h1 : validB P Q G X1 X2 X3 with
  | false =>
    obtain rfl : r = false := by rw [← hr1, h1]; rfl
    exact ravalid_1 P Q G X1 X2 X3 key A al na ca C Z zs nz cz han hzn hQ (Lib.hid h1) w hA hZ
  | true =>
    cases h2 : keyB P Q X2 key with
    | false =>
      obtain rfl : r = false := by rw [← hr1, h1, h2]; rfl
      exact ravalid_2 P Q G X1 X2 X3 key A al na ca C Z zs nz cz han hzn hQ (Lib.hid h1) (Lib.hid h2) w hA hZ
    | true => exact ravalid_3 P Q G X1 X2 X3 key A al na ca C Z zs nz cz han hzn hQ (Lib.hid h1) (Lib.hid h2) r ⟨by rw [← hr1, h1, h2]; rfl⟩ w hA hZ
set_option maxHeartbeats 3200000 in
theorem few29_any (key : Int) (A : Option Addr) (na ca : Nat) (C : Int) (Z : Option Addr) (nz cz : Nat) (r : Bool) (hr : Hid ((decide (na ≤ 20) && decide (nz ≤ 20)) = r)) (w : World) :
    Calls Tryz.prog 8 #[acV key A na ca C Z nz cz] w fun e' w' => e' = .returned (.bool r) ∧ Below w.heap.size w w' := by
  have hb := below_box0 w (acO key A na ca C Z nz cz)
  by_cases h1 : na ≤ 20
  · have d1 : decide ((na : Int) ≤ 20) = true := by simp; omega
    by_cases h2 : nz ≤ 20
    · have d2 : decide ((nz : Int) ≤ 20) = true := by simp; omega
      obtain rfl : r = true := by rw [← hr.out, decide_eq_true h1, decide_eq_true h2]; rfl
      go_enter Tryz.func8, Tryz.ntmps8
      go_wp2
      go_ret
      exact ⟨rfl, hb⟩
    · have d2 : decide ((nz : Int) ≤ 20) = false := by simp; omega
      obtain rfl : r = false := by rw [← hr.out, decide_eq_false h2, Bool.and_false]
      go_enter Tryz.func8, Tryz.ntmps8
      go_wp2
      go_ret
      exact ⟨rfl, hb⟩
  · have d1 : decide ((na : Int) ≤ 20) = false := by simp; omega
    obtain rfl : r = false := by rw [← hr.out, decide_eq_false h1, Bool.false_and]
    go_enter Tryz.func8, Tryz.ntmps8
    go_wp2
    go_ret
    exact ⟨rfl, hb⟩
set_option maxHeartbeats 6400000 in
theorem ap_1 (P Q G X1 X2 X3 key : Int) (A : Option Addr) (al : List Int) (na ca : Nat) (C : Int) (Z : Option Addr) (zs : List Int) (nz cz : Nat) (han : Hid (al.length = na)) (hzn : Hid (zs.length = nz)) (hQ : Q < 9223372036854775808) (hf : Hid ((decide (na ≤ 20) && decide (nz ≤ 20)) = false)) (w : World) (hv : Hid (Vars w)) (hd : Hid (VarsD w)) (hA : Hid (Sl w A al)) (hZ : Hid (Sl w Z zs)) :
    Calls Tryz.prog 3 #[bv P Q G X1 X2 X3, acV key A na ca C Z nz cz] w fun e' w' => e' = .returned (.bool true) ∧ Below w.heap.size w w' := by
  obtain ⟨w0, hW⟩ : ∃ W, ((w.alloc (bObj P Q G X1 X2 X3)).alloc (acO key A na ca C Z nz cz)) = W := ⟨_, rfl⟩
  have HBw : Hid (Below w.heap.size w w0) := Lib.hid (by rw [← hW]; exact below_two (Below.refl _ _))
  have hc : w0.cell? ⟨w.heap.size, 0, none⟩ = some (.int .i64 P) ∧ w0.cell? ⟨w.heap.size, 1, none⟩ = some (.int .i64 Q) ∧ w0.cell? ⟨w.heap.size, 2, none⟩ = some (.int .i64 G) ∧ w0.cell? ⟨w.heap.size, 3, none⟩ = some (.int .i64 X1) ∧ w0.cell? ⟨w.heap.size, 4, none⟩ = some (.int .i64 X2) ∧ w0.cell? ⟨w.heap.size, 5, none⟩ = some (.int .i64 X3) ∧ w0.cell? ⟨w.heap.size + 1, 0, none⟩ = some (.int .i64 key) ∧ w0.cell? ⟨w.heap.size + 1, 1, none⟩ = some (.slice A na ca) ∧ w0.cell? ⟨w.heap.size + 1, 2, none⟩ = some (.int .i64 C) ∧ w0.cell? ⟨w.heap.size + 1, 3, none⟩ = some (.slice Z nz cz) := by rw [← hW]; exact ⟨cell_below (allocs_cell (by simp) (by rfl)) (below_box0 _ _), cell_below (allocs_cell (by simp) (by rfl)) (below_box0 _ _), cell_below (allocs_cell (by simp) (by rfl)) (below_box0 _ _), cell_below (allocs_cell (by simp) (by rfl)) (below_box0 _ _), cell_below (allocs_cell (by simp) (by rfl)) (below_box0 _ _), cell_below (allocs_cell (by simp) (by rfl)) (below_box0 _ _), allocs_cell (by simp) (by rfl), allocs_cell (by simp) (by rfl), allocs_cell (by simp) (by rfl), allocs_cell (by simp) (by rfl)⟩
  have kC := Lib.hid (show ∀ u : World, Hid (Below w0.heap.size w0 u) → u.cell? ⟨w.heap.size, 0, none⟩ = some (.int .i64 P) ∧ u.cell? ⟨w.heap.size, 1, none⟩ = some (.int .i64 Q) ∧ u.cell? ⟨w.heap.size, 2, none⟩ = some (.int .i64 G) ∧ u.cell? ⟨w.heap.size, 3, none⟩ = some (.int .i64 X1) ∧ u.cell? ⟨w.heap.size, 4, none⟩ = some (.int .i64 X2) ∧ u.cell? ⟨w.heap.size, 5, none⟩ = some (.int .i64 X3) ∧ u.cell? ⟨w.heap.size + 1, 0, none⟩ = some (.int .i64 key) ∧ u.cell? ⟨w.heap.size + 1, 1, none⟩ = some (.slice A na ca) ∧ u.cell? ⟨w.heap.size + 1, 2, none⟩ = some (.int .i64 C) ∧ u.cell? ⟨w.heap.size + 1, 3, none⟩ = some (.slice Z nz cz) from fun u h => ⟨cell_below hc.1 h.out, cell_below hc.2.1 h.out, cell_below hc.2.2.1 h.out, cell_below hc.2.2.2.1 h.out, cell_below hc.2.2.2.2.1 h.out, cell_below hc.2.2.2.2.2.1 h.out, cell_below hc.2.2.2.2.2.2.1 h.out, cell_below hc.2.2.2.2.2.2.2.1 h.out, cell_below hc.2.2.2.2.2.2.2.2.1 h.out, cell_below hc.2.2.2.2.2.2.2.2.2 h.out⟩)
  have kV := Lib.hid (show ∀ u : World, Hid (Below w0.heap.size w0 u) → Hid (Vars u) from fun u h => Lib.hid ((hv.out.below) (below_ext HBw.out h.out)))
  have HB_0 : Hid (Below w0.heap.size w0 w0) := Lib.hid (Below.refl _ _)
  have HW := Lib.hid hW
  clear hW hc hv hd hA hZ
  go_enter Tryz.func3, Tryz.ntmps3
  go_wp2_with fail
  rw [HW.out]
  obtain ⟨zc0, zc1, zc2, zc3, zc4, zc5, zc6, zc7, zc8, zc9⟩ := kC.out _ HB_0
  go_wp2_with fail
  refine (awake29 _ (kV.out _ HB_0)).mono ?_
  rintro e w1 ⟨rfl, hb0⟩
  have HB_1 := Lib.hid (below_ext HB_0.out hb0)
  clear zc0 zc1 zc2 zc3 zc4 zc5 zc6 zc7 zc8 zc9
  clear hb0
  obtain ⟨zc0, zc1, zc2, zc3, zc4, zc5, zc6, zc7, zc8, zc9⟩ := kC.out _ HB_1
  go_wp2_with fail
  refine (few29_any key A na ca C Z nz cz false hf _).mono ?_
  rintro e w2 ⟨rfl, hb0⟩
  have HB_2 := Lib.hid (below_ext HB_1.out hb0)
  clear zc0 zc1 zc2 zc3 zc4 zc5 zc6 zc7 zc8 zc9
  clear hb0
  obtain ⟨zc0, zc1, zc2, zc3, zc4, zc5, zc6, zc7, zc8, zc9⟩ := kC.out _ HB_2
  have hbF := below_ext HBw.out HB_2.out
  go_wp2
  go_ret
  exact ⟨rfl, hbF⟩
set_option maxHeartbeats 6400000 in
theorem ap_2 (P Q G X1 X2 X3 key : Int) (A : Option Addr) (al : List Int) (na ca : Nat) (C : Int) (Z : Option Addr) (zs : List Int) (nz cz : Nat) (han : Hid (al.length = na)) (hzn : Hid (zs.length = nz)) (hQ : Q < 9223372036854775808) (hf : Hid ((decide (na ≤ 20) && decide (nz ≤ 20)) = true)) (w : World) (hv : Hid (Vars w)) (hd : Hid (VarsD w)) (hA : Hid (Sl w A al)) (hZ : Hid (Sl w Z zs)) :
    Calls Tryz.prog 3 #[bv P Q G X1 X2 X3, acV key A na ca C Z nz cz] w fun e' w' => e' = .returned (.bool true) ∧ Below w.heap.size w w' := by
  obtain ⟨b, hb⟩ : ∃ b, acB P Q G X1 X2 X3 key C al zs = b := ⟨_, rfl⟩
  have HB : Kp (acB P Q G X1 X2 X3 key C al zs = b) := ⟨hb⟩
  have ebb : (b == b) = true := by simp
  clear hb
  obtain ⟨w0, hW⟩ : ∃ W, ((w.alloc (bObj P Q G X1 X2 X3)).alloc (acO key A na ca C Z nz cz)) = W := ⟨_, rfl⟩
  have HBw : Hid (Below w.heap.size w w0) := Lib.hid (by rw [← hW]; exact below_two (Below.refl _ _))
  have hc : w0.cell? ⟨w.heap.size, 0, none⟩ = some (.int .i64 P) ∧ w0.cell? ⟨w.heap.size, 1, none⟩ = some (.int .i64 Q) ∧ w0.cell? ⟨w.heap.size, 2, none⟩ = some (.int .i64 G) ∧ w0.cell? ⟨w.heap.size, 3, none⟩ = some (.int .i64 X1) ∧ w0.cell? ⟨w.heap.size, 4, none⟩ = some (.int .i64 X2) ∧ w0.cell? ⟨w.heap.size, 5, none⟩ = some (.int .i64 X3) ∧ w0.cell? ⟨w.heap.size + 1, 0, none⟩ = some (.int .i64 key) ∧ w0.cell? ⟨w.heap.size + 1, 1, none⟩ = some (.slice A na ca) ∧ w0.cell? ⟨w.heap.size + 1, 2, none⟩ = some (.int .i64 C) ∧ w0.cell? ⟨w.heap.size + 1, 3, none⟩ = some (.slice Z nz cz) := by rw [← hW]; exact ⟨cell_below (allocs_cell (by simp) (by rfl)) (below_box0 _ _), cell_below (allocs_cell (by simp) (by rfl)) (below_box0 _ _), cell_below (allocs_cell (by simp) (by rfl)) (below_box0 _ _), cell_below (allocs_cell (by simp) (by rfl)) (below_box0 _ _), cell_below (allocs_cell (by simp) (by rfl)) (below_box0 _ _), cell_below (allocs_cell (by simp) (by rfl)) (below_box0 _ _), allocs_cell (by simp) (by rfl), allocs_cell (by simp) (by rfl), allocs_cell (by simp) (by rfl), allocs_cell (by simp) (by rfl)⟩
  have kC := Lib.hid (show ∀ u : World, Hid (Below w0.heap.size w0 u) → u.cell? ⟨w.heap.size, 0, none⟩ = some (.int .i64 P) ∧ u.cell? ⟨w.heap.size, 1, none⟩ = some (.int .i64 Q) ∧ u.cell? ⟨w.heap.size, 2, none⟩ = some (.int .i64 G) ∧ u.cell? ⟨w.heap.size, 3, none⟩ = some (.int .i64 X1) ∧ u.cell? ⟨w.heap.size, 4, none⟩ = some (.int .i64 X2) ∧ u.cell? ⟨w.heap.size, 5, none⟩ = some (.int .i64 X3) ∧ u.cell? ⟨w.heap.size + 1, 0, none⟩ = some (.int .i64 key) ∧ u.cell? ⟨w.heap.size + 1, 1, none⟩ = some (.slice A na ca) ∧ u.cell? ⟨w.heap.size + 1, 2, none⟩ = some (.int .i64 C) ∧ u.cell? ⟨w.heap.size + 1, 3, none⟩ = some (.slice Z nz cz) from fun u h => ⟨cell_below hc.1 h.out, cell_below hc.2.1 h.out, cell_below hc.2.2.1 h.out, cell_below hc.2.2.2.1 h.out, cell_below hc.2.2.2.2.1 h.out, cell_below hc.2.2.2.2.2.1 h.out, cell_below hc.2.2.2.2.2.2.1 h.out, cell_below hc.2.2.2.2.2.2.2.1 h.out, cell_below hc.2.2.2.2.2.2.2.2.1 h.out, cell_below hc.2.2.2.2.2.2.2.2.2 h.out⟩)
  have kV := Lib.hid (show ∀ u : World, Hid (Below w0.heap.size w0 u) → Hid (Vars u) from fun u h => Lib.hid ((hv.out.below) (below_ext HBw.out h.out)))
  have kD := Lib.hid (show ∀ u : World, Hid (Below w0.heap.size w0 u) → Hid (VarsD u) from fun u h => Lib.hid ((hd.out.below) (below_ext HBw.out h.out)))
  have kA := Lib.hid (show ∀ u : World, Hid (Below w0.heap.size w0 u) → Hid (Sl u A al) from fun u h => Lib.hid ((hA.out.below) (below_ext HBw.out h.out)))
  have kZ := Lib.hid (show ∀ u : World, Hid (Below w0.heap.size w0 u) → Hid (Sl u Z zs) from fun u h => Lib.hid ((hZ.out.below) (below_ext HBw.out h.out)))
  have HB_0 : Hid (Below w0.heap.size w0 w0) := Lib.hid (Below.refl _ _)
  have HW := Lib.hid hW
  clear hW hc hv hd hA hZ
  go_enter Tryz.func3, Tryz.ntmps3
  go_wp2_with fail
  rw [HW.out]
  obtain ⟨zc0, zc1, zc2, zc3, zc4, zc5, zc6, zc7, zc8, zc9⟩ := kC.out _ HB_0
  go_wp2_with fail
  refine (awake29 _ (kV.out _ HB_0)).mono ?_
  rintro e w1 ⟨rfl, hb0⟩
  have HB_1 := Lib.hid (below_ext HB_0.out hb0)
  clear zc0 zc1 zc2 zc3 zc4 zc5 zc6 zc7 zc8 zc9
  clear hb0
  obtain ⟨zc0, zc1, zc2, zc3, zc4, zc5, zc6, zc7, zc8, zc9⟩ := kC.out _ HB_1
  go_wp2_with fail
  refine (few29_any key A na ca C Z nz cz true hf _).mono ?_
  rintro e w2 ⟨rfl, hb0⟩
  have HB_2 := Lib.hid (below_ext HB_1.out hb0)
  clear zc0 zc1 zc2 zc3 zc4 zc5 zc6 zc7 zc8 zc9
  clear hb0
  obtain ⟨zc0, zc1, zc2, zc3, zc4, zc5, zc6, zc7, zc8, zc9⟩ := kC.out _ HB_2
  go_wp2_with fail
  clear zc0 zc1 zc2 zc3 zc4 zc5 zc6 zc7 zc8 zc9
  have hS := Lib.hid (show ∀ u1 u2 : World, Hid (Below w0.heap.size w0 u1) → Below u1.heap.size u1 u2 → (u2.cell? ⟨w.heap.size, 0, none⟩ = some (.int .i64 P) ∧ u2.cell? ⟨w.heap.size, 1, none⟩ = some (.int .i64 Q) ∧ u2.cell? ⟨w.heap.size, 2, none⟩ = some (.int .i64 G) ∧ u2.cell? ⟨w.heap.size, 3, none⟩ = some (.int .i64 X1) ∧ u2.cell? ⟨w.heap.size, 4, none⟩ = some (.int .i64 X2) ∧ u2.cell? ⟨w.heap.size, 5, none⟩ = some (.int .i64 X3) ∧ u2.cell? ⟨w.heap.size + 1, 0, none⟩ = some (.int .i64 key) ∧ u2.cell? ⟨w.heap.size + 1, 1, none⟩ = some (.slice A na ca) ∧ u2.cell? ⟨w.heap.size + 1, 2, none⟩ = some (.int .i64 C) ∧ u2.cell? ⟨w.heap.size + 1, 3, none⟩ = some (.slice Z nz cz) ∧ Hid (Below w0.heap.size w0 u2)) from fun u1 u2 h1 h2 => by
    have h3 := Lib.hid (below_ext h1.out h2)
    obtain ⟨y0, y1, y2, y3, y4, y5, y6, y7, y8, y9⟩ := kC.out _ h3
    exact ⟨y0, y1, y2, y3, y4, y5, y6, y7, y8, y9, h3⟩)
  go_region_held3 (fun w' => w'.cell? ⟨w.heap.size, 0, none⟩ = some (.int .i64 P) ∧ w'.cell? ⟨w.heap.size, 1, none⟩ = some (.int .i64 Q) ∧ w'.cell? ⟨w.heap.size, 2, none⟩ = some (.int .i64 G) ∧ w'.cell? ⟨w.heap.size, 3, none⟩ = some (.int .i64 X1) ∧ w'.cell? ⟨w.heap.size, 4, none⟩ = some (.int .i64 X2) ∧ w'.cell? ⟨w.heap.size, 5, none⟩ = some (.int .i64 X3) ∧ w'.cell? ⟨w.heap.size + 1, 0, none⟩ = some (.int .i64 key) ∧ w'.cell? ⟨w.heap.size + 1, 1, none⟩ = some (.slice A na ca) ∧ w'.cell? ⟨w.heap.size + 1, 2, none⟩ = some (.int .i64 C) ∧ w'.cell? ⟨w.heap.size + 1, 3, none⟩ = some (.slice Z nz cz) ∧ Hid (Below w0.heap.size w0 w'))
    (first | exact hS.out _ _ HB_2 ((Below.refl _ _).drew) | (go_split_ands; exact hS.out _ _ (by assumption) hbA) | go_keep)
    ((first
      | (go_at_call 9; (with_reducible refine (avalid_any P Q G X1 X2 X3 key A al na ca C Z zs nz cz han hzn hQ b HB _ ?_ ?_ ?_ ?_).mono ?_); (go_split_ands; exact kV.out _ (by assumption)); (go_split_ands; exact kD.out _ (by assumption)); (go_split_ands; exact kA.out _ (by assumption)); (go_split_ands; exact kZ.out _ (by assumption)); rintro e wA ⟨rfl, hbA⟩)
      | (go_at_call 10; (with_reducible refine (ravalid_any P Q G X1 X2 X3 key A al na ca C Z zs nz cz han hzn hQ b HB _ ?_ ?_).mono ?_); (go_split_ands; exact kA.out _ (by assumption)); (go_split_ands; exact kZ.out _ (by assumption)); rintro e wA ⟨rfl, hbA⟩)))
  rename_i hHeld
  obtain ⟨x0, x1, x2, x3, x4, x5, x6, x7, x8, x9, HBF⟩ := hHeld
  have hbF := below_ext HBw.out HBF.out
  clear x0 x1 x2 x3 x4 x5 x6 x7 x8 x9 hS
  go_wp2
  go_ret
  exact ⟨rfl, hbF⟩
/-- THE LAW: true for every input. -/
theorem ap_true (P Q G X1 X2 X3 key : Int) (A : Option Addr) (al : List Int) (na ca : Nat) (C : Int) (Z : Option Addr) (zs : List Int) (nz cz : Nat) (han : Hid (al.length = na)) (hzn : Hid (zs.length = nz)) (hQ : Q < 9223372036854775808) (w : World) (hv : Hid (Vars w)) (hd : Hid (VarsD w)) (hA : Hid (Sl w A al)) (hZ : Hid (Sl w Z zs)) :
    Calls Tryz.prog 3 #[bv P Q G X1 X2 X3, acV key A na ca C Z nz cz] w fun e' w' => e' = .returned (.bool true) ∧ Below w.heap.size w w' := by
  cases hf : (decide (na ≤ 20) && decide (nz ≤ 20)) with
  | false => exact ap_1 P Q G X1 X2 X3 key A al na ca C Z zs nz cz han hzn hQ (Lib.hid hf) w hv hd hA hZ
  | true => exact ap_2 P Q G X1 X2 X3 key A al na ca C Z zs nz cz han hzn hQ (Lib.hid hf) w hv hd hA hZ
end Go.Proofs.YtdlhodbiaoafiaaGreatDoor
