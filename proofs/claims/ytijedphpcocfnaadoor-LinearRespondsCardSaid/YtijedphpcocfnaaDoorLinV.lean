/- The walk of the law LinearResponds. -/
import Derived.Test.YtijedphpcocfnaaDoorLinU
namespace Go.Proofs.YtijedphpcocfnaaDoor
open Go.RowKit SpM
set_option linter.unusedVariables false
set_option linter.unusedSimpArgs false
set_option maxRecDepth 100000

/-- the relation that the statement makes to ask for the group. -/
theorem one_rel (w : World) (T1 T2 T3 : TypeId) : Sl (((w.alloc (.cells #[.int .i64 1] T1)).alloc (.cells #[.int .i64 1] T2)).alloc (.cells #[.slice (some ⟨w.heap.size + 1, 0, none⟩) 1 1] T3)) (some ⟨w.heap.size, 0, none⟩) [1] ∧
    Rw (((w.alloc (.cells #[.int .i64 1] T1)).alloc (.cells #[.int .i64 1] T2)).alloc (.cells #[.slice (some ⟨w.heap.size + 1, 0, none⟩) 1 1] T3)) (some ⟨w.heap.size + 1 + 1, 0, none⟩) [⟨some ⟨w.heap.size + 1, 0, none⟩, 1, 1, [1]⟩] ∧
    Below w.heap.size w (((w.alloc (.cells #[.int .i64 1] T1)).alloc (.cells #[.int .i64 1] T2)).alloc (.cells #[.slice (some ⟨w.heap.size + 1, 0, none⟩) 1 1] T3)) := by
  have s1 : Sl (w.alloc (.cells #[.int .i64 1] T1)) (some ⟨w.heap.size, 0, none⟩) [1] := sl_of_cells (cells1 w _ 1)
  have s2 : Sl ((w.alloc (.cells #[.int .i64 1] T1)).alloc (.cells #[.int .i64 1] T2)) (some ⟨w.heap.size + 1, 0, none⟩) [1] := by
    have e : w.heap.size + 1 = (w.alloc (.cells #[.int .i64 1] T1)).heap.size := by simp
    rw [e]
    exact sl_of_cells (cells1 _ _ 1)
  refine ⟨(s1.below (below_box0 _ _)).below (below_box0 _ _), fun k hk => ?_, (((Below.refl _ _).alloc (Nat.le_refl _) _).alloc (by simp) _).alloc (by simp; omega) _⟩
  obtain rfl : k = 0 := by simp at hk; exact hk
  exact ⟨⟨_, _, rfl, allocs_cell (by simp) (by rfl)⟩, rfl, s2.below (below_box0 _ _)⟩
theorem validR_one {P Q G : Int} (a : Option Addr) : validR P Q G [1] [⟨a, 1, 1, [1]⟩] = validG P Q G := by
  unfold validR
  cases h : validG P Q G with
  | false => rfl
  | true =>
    obtain ⟨hp2, _, _, _⟩ := validG_P h
    have h1 : memG P Q 1 = true := mem_one hp2
    simp [rowB, rowN, h1]

set_option maxHeartbeats 25600000 in
theorem lr_early (P Q G : Int) (Y : Option Addr) (ys : List Int) (yn yc : Nat) (B : Option Addr) (rows : List Row) (bn bc : Nat) (K : Option Addr) (ks : List Int) (kn kc : Nat) (c : Int) (X : Option Addr) (xs : List Int) (xn xc : Nat) (hyn : Hid (ys.length = yn)) (hbn : Hid (rows.length = bn)) (hkn : Hid (ks.length = kn)) (hxn : Hid (xs.length = xn)) (hQ : Q < 9223372036854775808) (fb : Bool) (HF : Hid (fewB yn bn rows = fb)) (hne : fb = false ∨ 30 < kn ∨ 30 < xn) (w : World) (hv : Hid (Vars w)) (hY : Hid (Sl w Y ys)) (hB : Hid (Rw w B rows)) (hK : Hid (Sl w K ks)) (hX : Hid (Sl w X xs)) :
    Calls Tryd.prog 4 #[gv P Q G, relV Y yn yc B bn bc, .slice K kn kc, .int .i64 c, .slice X xn xc] w fun e' w' => e' = .returned (.bool true) ∧ Below w.heap.size w w' := by
  obtain ⟨w0, hW⟩ : ∃ W, ((w.alloc (gObj P Q G)).alloc (relO Y yn yc B bn bc)) = W := ⟨_, rfl⟩
  have HBw : Hid (Below w.heap.size w w0) := Lib.hid (by rw [← hW]; exact below_two (Below.refl _ _))
  have hc : w0.cell? ⟨w.heap.size, 0, none⟩ = some (.int .i64 P) ∧ w0.cell? ⟨w.heap.size, 1, none⟩ = some (.int .i64 Q) ∧ w0.cell? ⟨w.heap.size, 2, none⟩ = some (.int .i64 G) ∧ w0.cell? ⟨w.heap.size + 1, 0, none⟩ = some (.slice Y yn yc) ∧ w0.cell? ⟨w.heap.size + 1, 1, none⟩ = some (.slice B bn bc) := by rw [← hW]; exact ⟨cell_below (allocs_cell (by simp) (by rfl)) (below_box0 _ _), cell_below (allocs_cell (by simp) (by rfl)) (below_box0 _ _), cell_below (allocs_cell (by simp) (by rfl)) (below_box0 _ _), allocs_cell (by simp) (by rfl), allocs_cell (by simp) (by rfl)⟩
  have kC := Lib.hid (show ∀ u : World, Hid (Below w0.heap.size w0 u) → u.cell? ⟨w.heap.size, 0, none⟩ = some (.int .i64 P) ∧ u.cell? ⟨w.heap.size, 1, none⟩ = some (.int .i64 Q) ∧ u.cell? ⟨w.heap.size, 2, none⟩ = some (.int .i64 G) ∧ u.cell? ⟨w.heap.size + 1, 0, none⟩ = some (.slice Y yn yc) ∧ u.cell? ⟨w.heap.size + 1, 1, none⟩ = some (.slice B bn bc) from fun u h => ⟨cell_below hc.1 h.out, cell_below hc.2.1 h.out, cell_below hc.2.2.1 h.out, cell_below hc.2.2.2.1 h.out, cell_below hc.2.2.2.2 h.out⟩)
  have kV := Lib.hid (show ∀ u : World, Hid (Below w0.heap.size w0 u) → Hid (Vars u) from fun u h => Lib.hid ((hv.out.below) (below_ext HBw.out h.out)))
  have kY := Lib.hid (show ∀ u : World, Hid (Below w0.heap.size w0 u) → Hid (Sl u Y ys) from fun u h => Lib.hid ((hY.out.below) (below_ext HBw.out h.out)))
  have kB := Lib.hid (show ∀ u : World, Hid (Below w0.heap.size w0 u) → Hid (Rw u B rows) from fun u h => Lib.hid ((hB.out.below) (below_ext HBw.out h.out)))
  have kK := Lib.hid (show ∀ u : World, Hid (Below w0.heap.size w0 u) → Hid (Sl u K ks) from fun u h => Lib.hid ((hK.out.below) (below_ext HBw.out h.out)))
  have kX := Lib.hid (show ∀ u : World, Hid (Below w0.heap.size w0 u) → Hid (Sl u X xs) from fun u h => Lib.hid ((hX.out.below) (below_ext HBw.out h.out)))
  have HB_0 : Hid (Below w0.heap.size w0 w0) := Lib.hid (Below.refl _ _)
  have HW := Lib.hid hW
  clear hW hc hv hY hB hK hX
  go_enter Tryd.func4, Tryd.ntmps4
  go_wp2_with fail
  rw [HW.out]
  obtain ⟨zc0, zc1, zc2, zc3, zc4⟩ := kC.out _ HB_0
  go_wp2_with fail
  refine (awake17 _ (kV.out _ HB_0)).mono ?_
  rintro e w1 ⟨rfl, hb0⟩
  have HB_1 := Lib.hid (below_ext HB_0.out hb0)
  clear zc0 zc1 zc2 zc3 zc4
  clear hb0
  obtain ⟨zc0, zc1, zc2, zc3, zc4⟩ := kC.out _ HB_1
  go_wp2_with fail
  refine (few_any Y yn yc B rows bn bc fb HF hbn _ (kB.out _ HB_1)).mono ?_
  rintro e w2 ⟨rfl, hb0⟩
  have HB_2 := Lib.hid (below_ext HB_1.out hb0)
  clear zc0 zc1 zc2 zc3 zc4
  clear hb0
  obtain ⟨zc0, zc1, zc2, zc3, zc4⟩ := kC.out _ HB_2
  cases fb with
  | false =>
    clear hne
    have hbF := below_ext HBw.out HB_2.out
    go_wp2
    go_ret
    exact ⟨rfl, hbF⟩
  | true =>
    by_cases h1 : 30 < kn
    · skip
      have d1 : decide ((30 : Int) < (kn : Int)) = true := by simp; omega
      have hbF := below_ext HBw.out HB_2.out
      go_wp2
      go_ret
      exact ⟨rfl, hbF⟩
    · skip
      have d1 : decide ((30 : Int) < (kn : Int)) = false := by simp; omega
      have d2 : decide ((30 : Int) < (xn : Int)) = true := by simp; rcases hne with h | h | h <;> first | omega | cases h
      clear hne
      have hbF := below_ext HBw.out HB_2.out
      go_wp2
      go_ret
      exact ⟨rfl, hbF⟩

set_option maxHeartbeats 25600000 in
theorem lr_bad_bad (P Q G : Int) (Y : Option Addr) (ys : List Int) (yn yc : Nat) (B : Option Addr) (rows : List Row) (bn bc : Nat) (K : Option Addr) (ks : List Int) (kn kc : Nat) (c : Int) (X : Option Addr) (xs : List Int) (xn xc : Nat) (hyn : Hid (ys.length = yn)) (hbn : Hid (rows.length = bn)) (hkn : Hid (ks.length = kn)) (hxn : Hid (xs.length = xn)) (hQ : Q < 9223372036854775808) (HF : Hid (fewB yn bn rows = true)) (hk30 : kn ≤ 30) (hx30 : xn ≤ 30) (r : Int) (hr : Hid (chkR P Q G ys rows ks [c] = r)) (hne : (r != 0) = true) (r2 : Int) (hr2 : Hid (rspE P Q G ks c xs = r2)) (hne2 : (r2 != 0) = true) (w : World) (hv : Hid (Vars w)) (hY : Hid (Sl w Y ys)) (hB : Hid (Rw w B rows)) (hK : Hid (Sl w K ks)) (hX : Hid (Sl w X xs)) :
    Calls Tryd.prog 4 #[gv P Q G, relV Y yn yc B bn bc, .slice K kn kc, .int .i64 c, .slice X xn xc] w fun e' w' => e' = .returned (.bool true) ∧ Below w.heap.size w w' := by
  have err : (r != r) = false := by simp
  have d1 : decide ((30 : Int) < (kn : Int)) = false := by simp; omega
  have d2 : decide ((30 : Int) < (xn : Int)) = false := by simp; omega
  obtain ⟨vb, hvb⟩ : ∃ b, validG P Q G = b := ⟨_, rfl⟩
  obtain ⟨kb, hkb'⟩ : ∃ b, ks.all (scB Q) = b := ⟨_, rfl⟩
  obtain ⟨xb, hxb'⟩ : ∃ b, xs.all (scB Q) = b := ⟨_, rfl⟩
  obtain ⟨cb, hcb'⟩ : ∃ b, scB Q c = b := ⟨_, rfl⟩
  have HVB := Lib.hid hvb
  have HKB := Lib.hid hkb'
  have HXB := Lib.hid hxb'
  have HCB := Lib.hid hcb'
  have hne3 : (r2 == 0) = false := by rw [bne] at hne2; simpa using hne2
  clear hvb hkb' hxb' hcb'
  obtain ⟨w0, hW⟩ : ∃ W, ((w.alloc (gObj P Q G)).alloc (relO Y yn yc B bn bc)) = W := ⟨_, rfl⟩
  have HBw : Hid (Below w.heap.size w w0) := Lib.hid (by rw [← hW]; exact below_two (Below.refl _ _))
  have hc : w0.cell? ⟨w.heap.size, 0, none⟩ = some (.int .i64 P) ∧ w0.cell? ⟨w.heap.size, 1, none⟩ = some (.int .i64 Q) ∧ w0.cell? ⟨w.heap.size, 2, none⟩ = some (.int .i64 G) ∧ w0.cell? ⟨w.heap.size + 1, 0, none⟩ = some (.slice Y yn yc) ∧ w0.cell? ⟨w.heap.size + 1, 1, none⟩ = some (.slice B bn bc) := by rw [← hW]; exact ⟨cell_below (allocs_cell (by simp) (by rfl)) (below_box0 _ _), cell_below (allocs_cell (by simp) (by rfl)) (below_box0 _ _), cell_below (allocs_cell (by simp) (by rfl)) (below_box0 _ _), allocs_cell (by simp) (by rfl), allocs_cell (by simp) (by rfl)⟩
  have kC := Lib.hid (show ∀ u : World, Hid (Below w0.heap.size w0 u) → u.cell? ⟨w.heap.size, 0, none⟩ = some (.int .i64 P) ∧ u.cell? ⟨w.heap.size, 1, none⟩ = some (.int .i64 Q) ∧ u.cell? ⟨w.heap.size, 2, none⟩ = some (.int .i64 G) ∧ u.cell? ⟨w.heap.size + 1, 0, none⟩ = some (.slice Y yn yc) ∧ u.cell? ⟨w.heap.size + 1, 1, none⟩ = some (.slice B bn bc) from fun u h => ⟨cell_below hc.1 h.out, cell_below hc.2.1 h.out, cell_below hc.2.2.1 h.out, cell_below hc.2.2.2.1 h.out, cell_below hc.2.2.2.2 h.out⟩)
  have kV := Lib.hid (show ∀ u : World, Hid (Below w0.heap.size w0 u) → Hid (Vars u) from fun u h => Lib.hid ((hv.out.below) (below_ext HBw.out h.out)))
  have kY := Lib.hid (show ∀ u : World, Hid (Below w0.heap.size w0 u) → Hid (Sl u Y ys) from fun u h => Lib.hid ((hY.out.below) (below_ext HBw.out h.out)))
  have kB := Lib.hid (show ∀ u : World, Hid (Below w0.heap.size w0 u) → Hid (Rw u B rows) from fun u h => Lib.hid ((hB.out.below) (below_ext HBw.out h.out)))
  have kK := Lib.hid (show ∀ u : World, Hid (Below w0.heap.size w0 u) → Hid (Sl u K ks) from fun u h => Lib.hid ((hK.out.below) (below_ext HBw.out h.out)))
  have kX := Lib.hid (show ∀ u : World, Hid (Below w0.heap.size w0 u) → Hid (Sl u X xs) from fun u h => Lib.hid ((hX.out.below) (below_ext HBw.out h.out)))
  have HB_0 : Hid (Below w0.heap.size w0 w0) := Lib.hid (Below.refl _ _)
  have HW := Lib.hid hW
  clear hW hc hv hY hB hK hX
  go_enter Tryd.func4, Tryd.ntmps4
  go_wp2_with fail
  rw [HW.out]
  obtain ⟨zc0, zc1, zc2, zc3, zc4⟩ := kC.out _ HB_0
  go_wp2_with fail
  refine (awake17 _ (kV.out _ HB_0)).mono ?_
  rintro e w1 ⟨rfl, hb0⟩
  have HB_1 := Lib.hid (below_ext HB_0.out hb0)
  clear zc0 zc1 zc2 zc3 zc4
  clear hb0
  obtain ⟨zc0, zc1, zc2, zc3, zc4⟩ := kC.out _ HB_1
  go_wp2_with fail
  refine (few_any Y yn yc B rows bn bc true HF hbn _ (kB.out _ HB_1)).mono ?_
  rintro e w2 ⟨rfl, hb0⟩
  have HB_2 := Lib.hid (below_ext HB_1.out hb0)
  clear zc0 zc1 zc2 zc3 zc4
  clear hb0
  obtain ⟨zc0, zc1, zc2, zc3, zc4⟩ := kC.out _ HB_2
  go_wp2_with fail
  refine (lsimul_bad P Q G Y ys yn yc B rows bn bc c K ks kn kc r hr hne hyn hbn hkn (by omega) hQ _ (kV.out _ HB_2) (kY.out _ HB_2) (kB.out _ HB_2) (kK.out _ HB_2)).mono ?_
  rintro e w3 ⟨rfl, hb0⟩
  have HB_3 := Lib.hid (below_ext HB_2.out hb0)
  clear zc0 zc1 zc2 zc3 zc4
  clear hb0
  obtain ⟨zc0, zc1, zc2, zc3, zc4⟩ := kC.out _ HB_3
  have hq := below_box0 w3 (prObjL none 0 0 0 none 0 0)
  have HB_4 := Lib.hid (below_ext HB_3.out hq)
  have hc : (w3.alloc (prObjL none 0 0 0 none 0 0)).cell? ⟨w3.heap.size, 0, none⟩ = some (.slice none 0 0) ∧ (w3.alloc (prObjL none 0 0 0 none 0 0)).cell? ⟨w3.heap.size, 1, none⟩ = some (.int .i64 0) ∧ (w3.alloc (prObjL none 0 0 0 none 0 0)).cell? ⟨w3.heap.size, 2, none⟩ = some (.slice none 0 0) := ⟨allocs_cell rfl (by rfl), allocs_cell rfl (by rfl), allocs_cell rfl (by rfl)⟩
  have HC4 := Lib.hid hc
  clear zc0 zc1 zc2 zc3 zc4
  clear hq
  obtain ⟨zc0, zc1, zc2, zc3, zc4⟩ := kC.out _ HB_4
  obtain ⟨zq0, zq1, zq2⟩ := hc
  go_wp2_with fail
  obtain ⟨w4, hw⟩ : ∃ x, (w3.alloc (prObjL none 0 0 0 none 0 0)) = x := ⟨_, rfl⟩
  rw [hw] at HC4 HB_4 ⊢
  clear zc0 zc1 zc2 zc3 zc4 zq0 zq1 zq2
  clear hw
  have HB_w4_4 : Hid (Below w4.heap.size w4 w4) := Lib.hid (Below.refl _ _)
  have kP := Lib.hid (show ∀ u : World, Hid (Below w4.heap.size w4 u) → u.cell? ⟨w3.heap.size, 0, none⟩ = some (.slice none 0 0) ∧ u.cell? ⟨w3.heap.size, 1, none⟩ = some (.int .i64 0) ∧ u.cell? ⟨w3.heap.size, 2, none⟩ = some (.slice none 0 0) from fun u h => ⟨cell_below HC4.out.1 h.out, cell_below HC4.out.2.1 h.out, cell_below HC4.out.2.2 h.out⟩)
  obtain ⟨zc0, zc1, zc2, zc3, zc4⟩ := kC.out _ HB_4
  obtain ⟨kP_0, kP_1, kP_2⟩ := kP.out _ HB_w4_4
  go_wp2_with fail
  refine (fault_any P Q G Y ys yn yc B rows bn bc K ks kn kc c r hr hyn hbn hkn (by omega) hQ _ (kY.out _ HB_4) (kB.out _ HB_4) (kK.out _ HB_4)).mono ?_
  rintro e w5 ⟨rfl, hb0⟩
  have HB_5 := Lib.hid (below_ext HB_4.out hb0)
  have HB_w4_5 := Lib.hid (below_ext HB_w4_4.out hb0)
  clear zc0 zc1 zc2 zc3 zc4 kP_0 kP_1 kP_2
  clear hb0
  obtain ⟨zc0, zc1, zc2, zc3, zc4⟩ := kC.out _ HB_5
  obtain ⟨kP_0, kP_1, kP_2⟩ := kP.out _ HB_w4_5
  go_wp2_with fail
  refine (rsamep_true none 0 none 0 none 0 none 0 [] 0 0 [] 0 (Lib.hid rfl) (Lib.hid rfl) (by omega) (by omega) _ (Lib.hid (sl0 _ _)) (Lib.hid (sl0 _ _)) (Lib.hid (sl0 _ _)) (Lib.hid (sl0 _ _))).mono ?_
  rintro e w6 ⟨rfl, hb0⟩
  have HB_6 := Lib.hid (below_ext HB_5.out hb0)
  have HB_w4_6 := Lib.hid (below_ext HB_w4_5.out hb0)
  clear zc0 zc1 zc2 zc3 zc4 kP_0 kP_1 kP_2
  clear hb0
  obtain ⟨zc0, zc1, zc2, zc3, zc4⟩ := kC.out _ HB_6
  obtain ⟨kP_0, kP_1, kP_2⟩ := kP.out _ HB_w4_6
  go_wp2_with fail
  refine (lrespond_bad P Q G K ks kn kc c X xs xn xc r2 hr2 hne2 hkn hxn (by omega) (by omega) hQ _ (kV.out _ HB_6) (kK.out _ HB_6) (kX.out _ HB_6)).mono ?_
  rintro e w7 ⟨rfl, hb0⟩
  have HB_7 := Lib.hid (below_ext HB_6.out hb0)
  have HB_w4_7 := Lib.hid (below_ext HB_w4_6.out hb0)
  clear zc0 zc1 zc2 zc3 zc4 kP_0 kP_1 kP_2
  clear hb0
  obtain ⟨zc0, zc1, zc2, zc3, zc4⟩ := kC.out _ HB_7
  obtain ⟨kP_0, kP_1, kP_2⟩ := kP.out _ HB_w4_7
  obtain ⟨hq1, hq2, hq3⟩ := one_rel w7 3 3 24
  have HY1 := Lib.hid hq1
  have HW1 := Lib.hid hq2
  have HVO : Hid (validR P Q G [1] [⟨some ⟨w7.heap.size + 1, 0, none⟩, 1, 1, [1]⟩] = vb) := Lib.hid ((validR_one _).trans HVB.out)
  have HB_8 := Lib.hid (below_ext HB_7.out hq3)
  have HB_w4_8 := Lib.hid (below_ext HB_w4_7.out hq3)
  clear hq1 hq2 hq3
  go_wp2_with fail
  refine (rvalid17_any P Q G (some ⟨w7.heap.size, 0, none⟩) [1] 1 1 (some ⟨w7.heap.size + 1 + 1, 0, none⟩) [⟨some ⟨w7.heap.size + 1, 0, none⟩, 1, 1, [1]⟩] 1 1 vb HVO (Lib.hid rfl) (Lib.hid rfl) hQ _ HY1 HW1).mono ?_
  rintro e w9 ⟨rfl, hb0⟩
  have HB_9 := Lib.hid (below_ext HB_8.out hb0)
  have HB_w4_9 := Lib.hid (below_ext HB_w4_8.out hb0)
  clear zc0 zc1 zc2 zc3 zc4 kP_0 kP_1 kP_2
  clear hb0
  obtain ⟨zc0, zc1, zc2, zc3, zc4⟩ := kC.out _ HB_9
  obtain ⟨kP_0, kP_1, kP_2⟩ := kP.out _ HB_w4_9
  cases vb with
  | false =>
    obtain rfl : r2 = 1 := hr2.out.symm.trans (by unfold rspE; simp only [HVB.out, Bool.false_eq_true, if_false])
    have hbF := below_ext HBw.out HB_9.out
    go_wp2
    go_ret
    exact ⟨rfl, hbF⟩
  | true =>
    by_cases h1 : kn < 1
    · skip
      have e1 : decide ((kn : Int) < 1) = true := by simp; omega
      obtain rfl : r2 = 1 := hr2.out.symm.trans (by unfold rspE; simp only [HVB.out, hkn.out, hxn.out, HKB.out, HXB.out, HCB.out, Bool.false_eq_true, if_true, if_false]; rw [if_neg (by omega)])
      have hbF := below_ext HBw.out HB_9.out
      go_wp2
      go_ret
      exact ⟨rfl, hbF⟩
    · skip
      have e1 : decide ((kn : Int) < 1) = false := by simp; omega
      by_cases h2 : 12 < kn
      · skip
        have e2 : decide ((12 : Int) < (kn : Int)) = true := by simp; omega
        obtain rfl : r2 = 1 := hr2.out.symm.trans (by unfold rspE; simp only [HVB.out, hkn.out, hxn.out, HKB.out, HXB.out, HCB.out, Bool.false_eq_true, if_true, if_false]; rw [if_neg (by omega)])
        have hbF := below_ext HBw.out HB_9.out
        go_wp2
        go_ret
        exact ⟨rfl, hbF⟩
      · skip
        have e2 : decide ((12 : Int) < (kn : Int)) = false := by simp; omega
        by_cases h3 : xn = kn
        · skip
          have e3 : ((xn : Int) != (kn : Int)) = false := by simp; omega
          have hlen : 1 ≤ kn ∧ kn ≤ 12 ∧ xn = kn := ⟨by omega, by omega, by omega⟩
          clear h3
          have HLN := Lib.hid hlen
          clear hlen
          go_wp2_with fail
          refine (rscalars_any P Q G K ks kn kc kb HKB hkn (by omega) _ (kK.out _ HB_9)).mono ?_
          rintro e w10 ⟨rfl, hb0⟩
          have HB_10 := Lib.hid (below_ext HB_9.out hb0)
          have HB_w4_10 := Lib.hid (below_ext HB_w4_9.out hb0)
          clear zc0 zc1 zc2 zc3 zc4 kP_0 kP_1 kP_2
          clear hb0
          obtain ⟨zc0, zc1, zc2, zc3, zc4⟩ := kC.out _ HB_10
          obtain ⟨kP_0, kP_1, kP_2⟩ := kP.out _ HB_w4_10
          cases kb with
          | false =>
            obtain rfl : r2 = 2 := hr2.out.symm.trans (by unfold rspE; simp only [HVB.out, hkn.out, hxn.out, HKB.out, HXB.out, HCB.out, Bool.false_eq_true, if_true, if_false]; rw [if_pos HLN.out])
            have hbF := below_ext HBw.out HB_10.out
            go_wp2
            go_ret
            exact ⟨rfl, hbF⟩
          | true =>
            go_wp2_with fail
            refine (rscalars_any P Q G X xs xn xc xb HXB hxn (by omega) _ (kX.out _ HB_10)).mono ?_
            rintro e w11 ⟨rfl, hb0⟩
            have HB_11 := Lib.hid (below_ext HB_10.out hb0)
            have HB_w4_11 := Lib.hid (below_ext HB_w4_10.out hb0)
            clear zc0 zc1 zc2 zc3 zc4 kP_0 kP_1 kP_2
            clear hb0
            obtain ⟨zc0, zc1, zc2, zc3, zc4⟩ := kC.out _ HB_11
            obtain ⟨kP_0, kP_1, kP_2⟩ := kP.out _ HB_w4_11
            cases xb with
            | false =>
              obtain rfl : r2 = 2 := hr2.out.symm.trans (by unfold rspE; simp only [HVB.out, hkn.out, hxn.out, HKB.out, HXB.out, HCB.out, Bool.false_eq_true, if_true, if_false]; rw [if_pos HLN.out])
              have hbF := below_ext HBw.out HB_11.out
              go_wp2
              go_ret
              exact ⟨rfl, hbF⟩
            | true =>
              have hq := below_box0 w11 (.cells #[.int .i64 c] 3)
              have HO := Lib.hid (sl_of_cells (cells1 w11 3 c))
              have HB_12 := Lib.hid (below_ext HB_11.out hq)
              have HB_w4_12 := Lib.hid (below_ext HB_w4_11.out hq)
              clear hq
              go_wp2_with fail
              refine (rscalars_any P Q G (some ⟨w11.heap.size, 0, none⟩) [c] 1 1 cb (Lib.hid (all_single.trans HCB.out)) (Lib.hid rfl) (by omega) _ HO).mono ?_
              rintro e w13 ⟨rfl, hb0⟩
              have HB_13 := Lib.hid (below_ext HB_12.out hb0)
              have HB_w4_13 := Lib.hid (below_ext HB_w4_12.out hb0)
              clear zc0 zc1 zc2 zc3 zc4 kP_0 kP_1 kP_2
              clear hb0
              obtain ⟨zc0, zc1, zc2, zc3, zc4⟩ := kC.out _ HB_13
              obtain ⟨kP_0, kP_1, kP_2⟩ := kP.out _ HB_w4_13
              cases cb with
              | false =>
                obtain rfl : r2 = 2 := hr2.out.symm.trans (by unfold rspE; simp only [HVB.out, hkn.out, hxn.out, HKB.out, HXB.out, HCB.out, Bool.false_eq_true, if_true, if_false]; rw [if_pos HLN.out])
                have hbF := below_ext HBw.out HB_13.out
                go_wp2
                go_ret
                exact ⟨rfl, hbF⟩
              | true =>
                have e0 : r2 = 0 := hr2.out.symm.trans (by unfold rspE; simp only [HVB.out, hkn.out, hxn.out, HKB.out, HXB.out, HCB.out, Bool.false_eq_true, if_true, if_false]; rw [if_pos HLN.out])
                exact absurd hne2 (by rw [e0]; decide)
        · skip
          have e3 : ((xn : Int) != (kn : Int)) = true := by simp; omega
          obtain rfl : r2 = 1 := hr2.out.symm.trans (by unfold rspE; simp only [HVB.out, hkn.out, hxn.out, HKB.out, HXB.out, HCB.out, Bool.false_eq_true, if_true, if_false]; rw [if_neg (by omega)])
          have hbF := below_ext HBw.out HB_9.out
          go_wp2
          go_ret
          exact ⟨rfl, hbF⟩

set_option maxHeartbeats 25600000 in
theorem lr_bad_ok (P Q G : Int) (Y : Option Addr) (ys : List Int) (yn yc : Nat) (B : Option Addr) (rows : List Row) (bn bc : Nat) (K : Option Addr) (ks : List Int) (kn kc : Nat) (c : Int) (X : Option Addr) (xs : List Int) (xn xc : Nat) (hyn : Hid (ys.length = yn)) (hbn : Hid (rows.length = bn)) (hkn : Hid (ks.length = kn)) (hxn : Hid (xs.length = xn)) (hQ : Q < 9223372036854775808) (HF : Hid (fewB yn bn rows = true)) (hk30 : kn ≤ 30) (hx30 : xn ≤ 30) (r : Int) (hr : Hid (chkR P Q G ys rows ks [c] = r)) (hne : (r != 0) = true) (hr2 : Hid (rspE P Q G ks c xs = 0)) (w : World) (hv : Hid (Vars w)) (hY : Hid (Sl w Y ys)) (hB : Hid (Rw w B rows)) (hK : Hid (Sl w K ks)) (hX : Hid (Sl w X xs)) :
    Calls Tryd.prog 4 #[gv P Q G, relV Y yn yc B bn bc, .slice K kn kc, .int .i64 c, .slice X xn xc] w fun e' w' => e' = .returned (.bool true) ∧ Below w.heap.size w w' := by
  have err : (r != r) = false := by simp
  have d1 : decide ((30 : Int) < (kn : Int)) = false := by simp; omega
  have d2 : decide ((30 : Int) < (xn : Int)) = false := by simp; omega
  obtain ⟨m1, m2, m3, m4, m5, m6, m7⟩ := rspE_0 hr2.out
  have HVB := Lib.hid m1
  have HKB := Lib.hid m5
  have HXB := Lib.hid m6
  have HCB := Lib.hid m7
  obtain ⟨hp2, hp, hq3', hqp⟩ := validG_P m1
  have hQ2 : Q < 2305843009213693952 := by omega
  have hc0 : 0 ≤ c := scB_lo m7
  have hc1 : c < Q := scB_hi m7
  rw [hkn.out] at m2 m3 m4
  rw [hxn.out] at m4
  have m4' := m4.symm
  clear m4
  subst m4'
  have h1 := m2
  have h2 := m3
  have eE : ((kn : Int) != (kn : Int)) = false := by simp
  have eE1 : decide ((kn : Int) < 1) = false := by simp; omega
  have eE2 : decide ((12 : Int) < (kn : Int)) = false := by simp; omega
  clear m1 m2 m3 m5 m6 m7
  obtain ⟨w0, hW⟩ : ∃ W, ((w.alloc (gObj P Q G)).alloc (relO Y yn yc B bn bc)) = W := ⟨_, rfl⟩
  have HBw : Hid (Below w.heap.size w w0) := Lib.hid (by rw [← hW]; exact below_two (Below.refl _ _))
  have hc : w0.cell? ⟨w.heap.size, 0, none⟩ = some (.int .i64 P) ∧ w0.cell? ⟨w.heap.size, 1, none⟩ = some (.int .i64 Q) ∧ w0.cell? ⟨w.heap.size, 2, none⟩ = some (.int .i64 G) ∧ w0.cell? ⟨w.heap.size + 1, 0, none⟩ = some (.slice Y yn yc) ∧ w0.cell? ⟨w.heap.size + 1, 1, none⟩ = some (.slice B bn bc) := by rw [← hW]; exact ⟨cell_below (allocs_cell (by simp) (by rfl)) (below_box0 _ _), cell_below (allocs_cell (by simp) (by rfl)) (below_box0 _ _), cell_below (allocs_cell (by simp) (by rfl)) (below_box0 _ _), allocs_cell (by simp) (by rfl), allocs_cell (by simp) (by rfl)⟩
  have kC := Lib.hid (show ∀ u : World, Hid (Below w0.heap.size w0 u) → u.cell? ⟨w.heap.size, 0, none⟩ = some (.int .i64 P) ∧ u.cell? ⟨w.heap.size, 1, none⟩ = some (.int .i64 Q) ∧ u.cell? ⟨w.heap.size, 2, none⟩ = some (.int .i64 G) ∧ u.cell? ⟨w.heap.size + 1, 0, none⟩ = some (.slice Y yn yc) ∧ u.cell? ⟨w.heap.size + 1, 1, none⟩ = some (.slice B bn bc) from fun u h => ⟨cell_below hc.1 h.out, cell_below hc.2.1 h.out, cell_below hc.2.2.1 h.out, cell_below hc.2.2.2.1 h.out, cell_below hc.2.2.2.2 h.out⟩)
  have kV := Lib.hid (show ∀ u : World, Hid (Below w0.heap.size w0 u) → Hid (Vars u) from fun u h => Lib.hid ((hv.out.below) (below_ext HBw.out h.out)))
  have kY := Lib.hid (show ∀ u : World, Hid (Below w0.heap.size w0 u) → Hid (Sl u Y ys) from fun u h => Lib.hid ((hY.out.below) (below_ext HBw.out h.out)))
  have kB := Lib.hid (show ∀ u : World, Hid (Below w0.heap.size w0 u) → Hid (Rw u B rows) from fun u h => Lib.hid ((hB.out.below) (below_ext HBw.out h.out)))
  have kK := Lib.hid (show ∀ u : World, Hid (Below w0.heap.size w0 u) → Hid (Sl u K ks) from fun u h => Lib.hid ((hK.out.below) (below_ext HBw.out h.out)))
  have kX := Lib.hid (show ∀ u : World, Hid (Below w0.heap.size w0 u) → Hid (Sl u X xs) from fun u h => Lib.hid ((hX.out.below) (below_ext HBw.out h.out)))
  have HB_0 : Hid (Below w0.heap.size w0 w0) := Lib.hid (Below.refl _ _)
  have HW := Lib.hid hW
  clear hW hc hv hY hB hK hX
  go_enter Tryd.func4, Tryd.ntmps4
  go_wp2_with fail
  rw [HW.out]
  obtain ⟨zc0, zc1, zc2, zc3, zc4⟩ := kC.out _ HB_0
  go_wp2_with fail
  refine (awake17 _ (kV.out _ HB_0)).mono ?_
  rintro e w1 ⟨rfl, hb0⟩
  have HB_1 := Lib.hid (below_ext HB_0.out hb0)
  clear zc0 zc1 zc2 zc3 zc4
  clear hb0
  obtain ⟨zc0, zc1, zc2, zc3, zc4⟩ := kC.out _ HB_1
  go_wp2_with fail
  refine (few_any Y yn yc B rows bn bc true HF hbn _ (kB.out _ HB_1)).mono ?_
  rintro e w2 ⟨rfl, hb0⟩
  have HB_2 := Lib.hid (below_ext HB_1.out hb0)
  clear zc0 zc1 zc2 zc3 zc4
  clear hb0
  obtain ⟨zc0, zc1, zc2, zc3, zc4⟩ := kC.out _ HB_2
  go_wp2_with fail
  refine (lsimul_bad P Q G Y ys yn yc B rows bn bc c K ks kn kc r hr hne hyn hbn hkn (by omega) hQ _ (kV.out _ HB_2) (kY.out _ HB_2) (kB.out _ HB_2) (kK.out _ HB_2)).mono ?_
  rintro e w3 ⟨rfl, hb0⟩
  have HB_3 := Lib.hid (below_ext HB_2.out hb0)
  clear zc0 zc1 zc2 zc3 zc4
  clear hb0
  obtain ⟨zc0, zc1, zc2, zc3, zc4⟩ := kC.out _ HB_3
  have hq := below_box0 w3 (prObjL none 0 0 0 none 0 0)
  have HB_4 := Lib.hid (below_ext HB_3.out hq)
  have hc : (w3.alloc (prObjL none 0 0 0 none 0 0)).cell? ⟨w3.heap.size, 0, none⟩ = some (.slice none 0 0) ∧ (w3.alloc (prObjL none 0 0 0 none 0 0)).cell? ⟨w3.heap.size, 1, none⟩ = some (.int .i64 0) ∧ (w3.alloc (prObjL none 0 0 0 none 0 0)).cell? ⟨w3.heap.size, 2, none⟩ = some (.slice none 0 0) := ⟨allocs_cell rfl (by rfl), allocs_cell rfl (by rfl), allocs_cell rfl (by rfl)⟩
  have HC4 := Lib.hid hc
  clear zc0 zc1 zc2 zc3 zc4
  clear hq
  obtain ⟨zc0, zc1, zc2, zc3, zc4⟩ := kC.out _ HB_4
  obtain ⟨zq0, zq1, zq2⟩ := hc
  go_wp2_with fail
  obtain ⟨w4, hw⟩ : ∃ x, (w3.alloc (prObjL none 0 0 0 none 0 0)) = x := ⟨_, rfl⟩
  rw [hw] at HC4 HB_4 ⊢
  clear zc0 zc1 zc2 zc3 zc4 zq0 zq1 zq2
  clear hw
  have HB_w4_4 : Hid (Below w4.heap.size w4 w4) := Lib.hid (Below.refl _ _)
  have kP := Lib.hid (show ∀ u : World, Hid (Below w4.heap.size w4 u) → u.cell? ⟨w3.heap.size, 0, none⟩ = some (.slice none 0 0) ∧ u.cell? ⟨w3.heap.size, 1, none⟩ = some (.int .i64 0) ∧ u.cell? ⟨w3.heap.size, 2, none⟩ = some (.slice none 0 0) from fun u h => ⟨cell_below HC4.out.1 h.out, cell_below HC4.out.2.1 h.out, cell_below HC4.out.2.2 h.out⟩)
  obtain ⟨zc0, zc1, zc2, zc3, zc4⟩ := kC.out _ HB_4
  obtain ⟨kP_0, kP_1, kP_2⟩ := kP.out _ HB_w4_4
  go_wp2_with fail
  refine (fault_any P Q G Y ys yn yc B rows bn bc K ks kn kc c r hr hyn hbn hkn (by omega) hQ _ (kY.out _ HB_4) (kB.out _ HB_4) (kK.out _ HB_4)).mono ?_
  rintro e w5 ⟨rfl, hb0⟩
  have HB_5 := Lib.hid (below_ext HB_4.out hb0)
  have HB_w4_5 := Lib.hid (below_ext HB_w4_4.out hb0)
  clear zc0 zc1 zc2 zc3 zc4 kP_0 kP_1 kP_2
  clear hb0
  obtain ⟨zc0, zc1, zc2, zc3, zc4⟩ := kC.out _ HB_5
  obtain ⟨kP_0, kP_1, kP_2⟩ := kP.out _ HB_w4_5
  go_wp2_with fail
  refine (rsamep_true none 0 none 0 none 0 none 0 [] 0 0 [] 0 (Lib.hid rfl) (Lib.hid rfl) (by omega) (by omega) _ (Lib.hid (sl0 _ _)) (Lib.hid (sl0 _ _)) (Lib.hid (sl0 _ _)) (Lib.hid (sl0 _ _))).mono ?_
  rintro e w6 ⟨rfl, hb0⟩
  have HB_6 := Lib.hid (below_ext HB_5.out hb0)
  have HB_w4_6 := Lib.hid (below_ext HB_w4_5.out hb0)
  clear zc0 zc1 zc2 zc3 zc4 kP_0 kP_1 kP_2
  clear hb0
  obtain ⟨zc0, zc1, zc2, zc3, zc4⟩ := kC.out _ HB_6
  obtain ⟨kP_0, kP_1, kP_2⟩ := kP.out _ HB_w4_6
  go_wp2_with fail
  refine (lrespond_ok P Q G K ks kn kc c X xs xc HVB hkn hxn h1 h2 HKB HXB hc0 hc1 hQ _ (kV.out _ HB_6) (kK.out _ HB_6) (kX.out _ HB_6)).mono ?_
  rintro e w7 ⟨v, rfl, ho, hb0⟩
  have HB_7 := Lib.hid (below_ext HB_6.out hb0)
  have HB_w4_7 := Lib.hid (below_ext HB_w4_6.out hb0)
  clear zc0 zc1 zc2 zc3 zc4 kP_0 kP_1 kP_2
  clear hb0
  obtain ⟨zc0, zc1, zc2, zc3, zc4⟩ := kC.out _ HB_7
  obtain ⟨kP_0, kP_1, kP_2⟩ := kP.out _ HB_w4_7
  have HB_w7_7 : Hid (Below w7.heap.size w7 w7) := Lib.hid (Below.refl _ _)
  obtain ⟨Z3, c3, hv3, hz3, _⟩ := OwnL.sl ho
  rw [rspL_length] at hv3
  subst hv3
  have HZ3 := Lib.hid hz3
  clear ho hz3
  have kR3 := Lib.hid (show ∀ u : World, Hid (Below w7.heap.size w7 u) → Hid (Sl u Z3 (rspL Q c ks xs kn)) from fun u h => Lib.hid (HZ3.out.below h.out))
  obtain ⟨hq1, hq2, hq3⟩ := one_rel w7 3 3 24
  have HY1 := Lib.hid hq1
  have HW1 := Lib.hid hq2
  have HVO : Hid (validR P Q G [1] [⟨some ⟨w7.heap.size + 1, 0, none⟩, 1, 1, [1]⟩] = true) := Lib.hid ((validR_one _).trans HVB.out)
  have HB_8 := Lib.hid (below_ext HB_7.out hq3)
  have HB_w4_8 := Lib.hid (below_ext HB_w4_7.out hq3)
  have HB_w7_8 := Lib.hid (below_ext HB_w7_7.out hq3)
  clear hq1 hq2 hq3
  go_wp2_with fail
  refine (rvalid17_any P Q G (some ⟨w7.heap.size, 0, none⟩) [1] 1 1 (some ⟨w7.heap.size + 1 + 1, 0, none⟩) [⟨some ⟨w7.heap.size + 1, 0, none⟩, 1, 1, [1]⟩] 1 1 true HVO (Lib.hid rfl) (Lib.hid rfl) hQ _ HY1 HW1).mono ?_
  rintro e w9 ⟨rfl, hb0⟩
  have HB_9 := Lib.hid (below_ext HB_8.out hb0)
  have HB_w4_9 := Lib.hid (below_ext HB_w4_8.out hb0)
  have HB_w7_9 := Lib.hid (below_ext HB_w7_8.out hb0)
  clear zc0 zc1 zc2 zc3 zc4 kP_0 kP_1 kP_2
  clear hb0
  obtain ⟨zc0, zc1, zc2, zc3, zc4⟩ := kC.out _ HB_9
  obtain ⟨kP_0, kP_1, kP_2⟩ := kP.out _ HB_w4_9
  go_wp2_with fail
  refine (rscalars_any P Q G K ks kn kc true HKB hkn (by omega) _ (kK.out _ HB_9)).mono ?_
  rintro e w10 ⟨rfl, hb0⟩
  have HB_10 := Lib.hid (below_ext HB_9.out hb0)
  have HB_w4_10 := Lib.hid (below_ext HB_w4_9.out hb0)
  have HB_w7_10 := Lib.hid (below_ext HB_w7_9.out hb0)
  clear zc0 zc1 zc2 zc3 zc4 kP_0 kP_1 kP_2
  clear hb0
  obtain ⟨zc0, zc1, zc2, zc3, zc4⟩ := kC.out _ HB_10
  obtain ⟨kP_0, kP_1, kP_2⟩ := kP.out _ HB_w4_10
  go_wp2_with fail
  refine (rscalars_any P Q G X xs kn xc true HXB hxn (by omega) _ (kX.out _ HB_10)).mono ?_
  rintro e w11 ⟨rfl, hb0⟩
  have HB_11 := Lib.hid (below_ext HB_10.out hb0)
  have HB_w4_11 := Lib.hid (below_ext HB_w4_10.out hb0)
  have HB_w7_11 := Lib.hid (below_ext HB_w7_10.out hb0)
  clear zc0 zc1 zc2 zc3 zc4 kP_0 kP_1 kP_2
  clear hb0
  obtain ⟨zc0, zc1, zc2, zc3, zc4⟩ := kC.out _ HB_11
  obtain ⟨kP_0, kP_1, kP_2⟩ := kP.out _ HB_w4_11
  have hq := below_box0 w11 (.cells #[.int .i64 c] 3)
  have HO := Lib.hid (sl_of_cells (cells1 w11 3 c))
  have HB_12 := Lib.hid (below_ext HB_11.out hq)
  have HB_w4_12 := Lib.hid (below_ext HB_w4_11.out hq)
  have HB_w7_12 := Lib.hid (below_ext HB_w7_11.out hq)
  clear hq
  go_wp2_with fail
  refine (rscalars_any P Q G (some ⟨w11.heap.size, 0, none⟩) [c] 1 1 true (Lib.hid (all_single.trans HCB.out)) (Lib.hid rfl) (by omega) _ HO).mono ?_
  rintro e w13 ⟨rfl, hb0⟩
  have HB_13 := Lib.hid (below_ext HB_12.out hb0)
  have HB_w4_13 := Lib.hid (below_ext HB_w4_12.out hb0)
  have HB_w7_13 := Lib.hid (below_ext HB_w7_12.out hb0)
  clear zc0 zc1 zc2 zc3 zc4 kP_0 kP_1 kP_2
  clear hb0
  obtain ⟨zc0, zc1, zc2, zc3, zc4⟩ := kC.out _ HB_13
  obtain ⟨kP_0, kP_1, kP_2⟩ := kP.out _ HB_w4_13
  go_wp2_with fail
  refine (rrespond17_ok P Q G K ks kn kc c X xs xc hkn hxn h2 HKB HXB hc0 hc1 hQ2 _ (kK.out _ HB_13) (kX.out _ HB_13)).mono ?_
  rintro e w14 ⟨v4, rfl, ho, hb0⟩
  have HB_14 := Lib.hid (below_ext HB_13.out hb0)
  have HB_w4_14 := Lib.hid (below_ext HB_w4_13.out hb0)
  have HB_w7_14 := Lib.hid (below_ext HB_w7_13.out hb0)
  clear zc0 zc1 zc2 zc3 zc4 kP_0 kP_1 kP_2
  clear hb0
  obtain ⟨zc0, zc1, zc2, zc3, zc4⟩ := kC.out _ HB_14
  obtain ⟨kP_0, kP_1, kP_2⟩ := kP.out _ HB_w4_14
  obtain ⟨Z4, c4, hv4, hz4, _⟩ := OwnL.sl ho
  rw [rspL_length] at hv4
  subst hv4
  have HZ4 := Lib.hid hz4
  clear ho hz4
  go_wp2_with fail
  refine (eqs_any Z3 (rspL Q c ks xs kn) kn c3 Z4 (rspL Q c ks xs kn) kn c4 true (Lib.hid (by simp)) (Lib.hid (rspL_length _ _ _ _ _)) (Lib.hid (rspL_length _ _ _ _ _)) (by omega) (by omega) _ (kR3.out _ HB_w7_14) HZ4).mono ?_
  rintro e w15 ⟨rfl, hb0⟩
  have HB_15 := Lib.hid (below_ext HB_14.out hb0)
  have HB_w4_15 := Lib.hid (below_ext HB_w4_14.out hb0)
  have HB_w7_15 := Lib.hid (below_ext HB_w7_14.out hb0)
  clear zc0 zc1 zc2 zc3 zc4 kP_0 kP_1 kP_2
  clear hb0
  obtain ⟨zc0, zc1, zc2, zc3, zc4⟩ := kC.out _ HB_15
  obtain ⟨kP_0, kP_1, kP_2⟩ := kP.out _ HB_w4_15
  have hbF := below_ext HBw.out HB_15.out
  go_wp2
  go_ret
  exact ⟨rfl, hbF⟩

set_option maxHeartbeats 25600000 in
theorem lr_ok_bad (P Q G : Int) (Y : Option Addr) (ys : List Int) (yc : Nat) (B : Option Addr) (rows : List Row) (bn bc : Nat) (K : Option Addr) (ks : List Int) (kn kc : Nat) (c : Int) (X : Option Addr) (xs : List Int) (xn xc : Nat) (hyn : Hid (ys.length = bn)) (hbn : Hid (rows.length = bn)) (hkn : Hid (ks.length = kn)) (hxn : Hid (xs.length = xn)) (hQ : Q < 9223372036854775808) (HF : Hid (fewB bn bn rows = true)) (hk30 : kn ≤ 30) (hx30 : xn ≤ 30) (hr : Hid (chkR P Q G ys rows ks [c] = 0)) (r2 : Int) (hr2 : Hid (rspE P Q G ks c xs = r2)) (hne2 : (r2 != 0) = true) (w : World) (hv : Hid (Vars w)) (hY : Hid (Sl w Y ys)) (hB : Hid (Rw w B rows)) (hK : Hid (Sl w K ks)) (hX : Hid (Sl w X xs)) :
    Calls Tryd.prog 4 #[gv P Q G, relV Y bn yc B bn bc, .slice K kn kc, .int .i64 c, .slice X xn xc] w fun e' w' => e' = .returned (.bool true) ∧ Below w.heap.size w w' := by
  obtain ⟨k1, k2, k3, k4⟩ := chkR_0 hr.out
  have HVL := Lib.hid k1
  have Hl := Lib.hid k3
  have hc9 : scB Q c = true := by simpa using k4
  have hc0 : 0 ≤ c := scB_lo hc9
  have hc1 : c < Q := scB_hi hc9
  have hb8 : bn ≤ 8 := by have := (validR_parts k1).2.2.1; have := hyn.out; omega
  have hsl : Hid ((simR P Q c ys rows ks).length = bn) := Lib.hid (by rw [simR_length]; exact hbn.out)
  clear k1 k3 k4 hc9
  have d1 : decide ((30 : Int) < (kn : Int)) = false := by simp; omega
  have d2 : decide ((30 : Int) < (xn : Int)) = false := by simp; omega
  obtain ⟨vb, hvb⟩ : ∃ b, validG P Q G = b := ⟨_, rfl⟩
  obtain ⟨kb, hkb'⟩ : ∃ b, ks.all (scB Q) = b := ⟨_, rfl⟩
  obtain ⟨xb, hxb'⟩ : ∃ b, xs.all (scB Q) = b := ⟨_, rfl⟩
  obtain ⟨cb, hcb'⟩ : ∃ b, scB Q c = b := ⟨_, rfl⟩
  have HVB := Lib.hid hvb
  have HKB := Lib.hid hkb'
  have HXB := Lib.hid hxb'
  have HCB := Lib.hid hcb'
  have hne3 : (r2 == 0) = false := by rw [bne] at hne2; simpa using hne2
  clear hvb hkb' hxb' hcb'
  obtain ⟨w0, hW⟩ : ∃ W, ((w.alloc (gObj P Q G)).alloc (relO Y bn yc B bn bc)) = W := ⟨_, rfl⟩
  have HBw : Hid (Below w.heap.size w w0) := Lib.hid (by rw [← hW]; exact below_two (Below.refl _ _))
  have hc : w0.cell? ⟨w.heap.size, 0, none⟩ = some (.int .i64 P) ∧ w0.cell? ⟨w.heap.size, 1, none⟩ = some (.int .i64 Q) ∧ w0.cell? ⟨w.heap.size, 2, none⟩ = some (.int .i64 G) ∧ w0.cell? ⟨w.heap.size + 1, 0, none⟩ = some (.slice Y bn yc) ∧ w0.cell? ⟨w.heap.size + 1, 1, none⟩ = some (.slice B bn bc) := by rw [← hW]; exact ⟨cell_below (allocs_cell (by simp) (by rfl)) (below_box0 _ _), cell_below (allocs_cell (by simp) (by rfl)) (below_box0 _ _), cell_below (allocs_cell (by simp) (by rfl)) (below_box0 _ _), allocs_cell (by simp) (by rfl), allocs_cell (by simp) (by rfl)⟩
  have kC := Lib.hid (show ∀ u : World, Hid (Below w0.heap.size w0 u) → u.cell? ⟨w.heap.size, 0, none⟩ = some (.int .i64 P) ∧ u.cell? ⟨w.heap.size, 1, none⟩ = some (.int .i64 Q) ∧ u.cell? ⟨w.heap.size, 2, none⟩ = some (.int .i64 G) ∧ u.cell? ⟨w.heap.size + 1, 0, none⟩ = some (.slice Y bn yc) ∧ u.cell? ⟨w.heap.size + 1, 1, none⟩ = some (.slice B bn bc) from fun u h => ⟨cell_below hc.1 h.out, cell_below hc.2.1 h.out, cell_below hc.2.2.1 h.out, cell_below hc.2.2.2.1 h.out, cell_below hc.2.2.2.2 h.out⟩)
  have kV := Lib.hid (show ∀ u : World, Hid (Below w0.heap.size w0 u) → Hid (Vars u) from fun u h => Lib.hid ((hv.out.below) (below_ext HBw.out h.out)))
  have kY := Lib.hid (show ∀ u : World, Hid (Below w0.heap.size w0 u) → Hid (Sl u Y ys) from fun u h => Lib.hid ((hY.out.below) (below_ext HBw.out h.out)))
  have kB := Lib.hid (show ∀ u : World, Hid (Below w0.heap.size w0 u) → Hid (Rw u B rows) from fun u h => Lib.hid ((hB.out.below) (below_ext HBw.out h.out)))
  have kK := Lib.hid (show ∀ u : World, Hid (Below w0.heap.size w0 u) → Hid (Sl u K ks) from fun u h => Lib.hid ((hK.out.below) (below_ext HBw.out h.out)))
  have kX := Lib.hid (show ∀ u : World, Hid (Below w0.heap.size w0 u) → Hid (Sl u X xs) from fun u h => Lib.hid ((hX.out.below) (below_ext HBw.out h.out)))
  have HB_0 : Hid (Below w0.heap.size w0 w0) := Lib.hid (Below.refl _ _)
  have HW := Lib.hid hW
  clear hW hc hv hY hB hK hX
  go_enter Tryd.func4, Tryd.ntmps4
  go_wp2_with fail
  rw [HW.out]
  obtain ⟨zc0, zc1, zc2, zc3, zc4⟩ := kC.out _ HB_0
  go_wp2_with fail
  refine (awake17 _ (kV.out _ HB_0)).mono ?_
  rintro e w1 ⟨rfl, hb0⟩
  have HB_1 := Lib.hid (below_ext HB_0.out hb0)
  clear zc0 zc1 zc2 zc3 zc4
  clear hb0
  obtain ⟨zc0, zc1, zc2, zc3, zc4⟩ := kC.out _ HB_1
  go_wp2_with fail
  refine (few_any Y bn yc B rows bn bc true HF hbn _ (kB.out _ HB_1)).mono ?_
  rintro e w2 ⟨rfl, hb0⟩
  have HB_2 := Lib.hid (below_ext HB_1.out hb0)
  clear zc0 zc1 zc2 zc3 zc4
  clear hb0
  obtain ⟨zc0, zc1, zc2, zc3, zc4⟩ := kC.out _ HB_2
  go_wp2_with fail
  refine (lsimul_ok P Q G Y ys yc B rows bn bc c K ks kn kc hr hc0 hc1 hyn hbn hkn (by omega) hQ _ (kV.out _ HB_2) (kY.out _ HB_2) (kB.out _ HB_2) (kK.out _ HB_2)).mono ?_
  rintro e w3 ⟨A1, ca, Z1, cz, rfl, hA, hZ, hb0⟩
  have HB_3 := Lib.hid (below_ext HB_2.out hb0)
  clear zc0 zc1 zc2 zc3 zc4
  clear hb0
  obtain ⟨zc0, zc1, zc2, zc3, zc4⟩ := kC.out _ HB_3
  have HB_w3_3 : Hid (Below w3.heap.size w3 w3) := Lib.hid (Below.refl _ _)
  have HA1 := Lib.hid hA
  have HZ1 := Lib.hid hZ
  clear hA hZ
  have kA := Lib.hid (show ∀ u : World, Hid (Below w3.heap.size w3 u) → Hid (Sl u A1 (simR P Q c ys rows ks)) from fun u h => Lib.hid (HA1.out.below h.out))
  have kZ := Lib.hid (show ∀ u : World, Hid (Below w3.heap.size w3 u) → Hid (Sl u Z1 ks) from fun u h => Lib.hid (HZ1.out.below h.out))
  have hq := below_box0 w3 (prObjL A1 bn ca c Z1 kn cz)
  have HB_4 := Lib.hid (below_ext HB_3.out hq)
  have HB_w3_4 := Lib.hid (below_ext HB_w3_3.out hq)
  have hc : (w3.alloc (prObjL A1 bn ca c Z1 kn cz)).cell? ⟨w3.heap.size, 0, none⟩ = some (.slice A1 bn ca) ∧ (w3.alloc (prObjL A1 bn ca c Z1 kn cz)).cell? ⟨w3.heap.size, 1, none⟩ = some (.int .i64 c) ∧ (w3.alloc (prObjL A1 bn ca c Z1 kn cz)).cell? ⟨w3.heap.size, 2, none⟩ = some (.slice Z1 kn cz) := ⟨allocs_cell rfl (by rfl), allocs_cell rfl (by rfl), allocs_cell rfl (by rfl)⟩
  have HC4 := Lib.hid hc
  clear zc0 zc1 zc2 zc3 zc4
  clear hq
  obtain ⟨zc0, zc1, zc2, zc3, zc4⟩ := kC.out _ HB_4
  obtain ⟨zq0, zq1, zq2⟩ := hc
  go_wp2_with fail
  obtain ⟨w4, hw⟩ : ∃ x, (w3.alloc (prObjL A1 bn ca c Z1 kn cz)) = x := ⟨_, rfl⟩
  rw [hw] at HC4 HB_4 HB_w3_4 ⊢
  clear zc0 zc1 zc2 zc3 zc4 zq0 zq1 zq2
  clear hw
  have HB_w4_4 : Hid (Below w4.heap.size w4 w4) := Lib.hid (Below.refl _ _)
  have kP := Lib.hid (show ∀ u : World, Hid (Below w4.heap.size w4 u) → u.cell? ⟨w3.heap.size, 0, none⟩ = some (.slice A1 bn ca) ∧ u.cell? ⟨w3.heap.size, 1, none⟩ = some (.int .i64 c) ∧ u.cell? ⟨w3.heap.size, 2, none⟩ = some (.slice Z1 kn cz) from fun u h => ⟨cell_below HC4.out.1 h.out, cell_below HC4.out.2.1 h.out, cell_below HC4.out.2.2 h.out⟩)
  obtain ⟨zc0, zc1, zc2, zc3, zc4⟩ := kC.out _ HB_4
  obtain ⟨kP_0, kP_1, kP_2⟩ := kP.out _ HB_w4_4
  go_wp2_with fail
  refine (fault_any P Q G Y ys bn yc B rows bn bc K ks kn kc c 0 hr hyn hbn hkn (by omega) hQ _ (kY.out _ HB_4) (kB.out _ HB_4) (kK.out _ HB_4)).mono ?_
  rintro e w5 ⟨rfl, hb0⟩
  have HB_5 := Lib.hid (below_ext HB_4.out hb0)
  have HB_w3_5 := Lib.hid (below_ext HB_w3_4.out hb0)
  have HB_w4_5 := Lib.hid (below_ext HB_w4_4.out hb0)
  clear zc0 zc1 zc2 zc3 zc4 kP_0 kP_1 kP_2
  clear hb0
  obtain ⟨zc0, zc1, zc2, zc3, zc4⟩ := kC.out _ HB_5
  obtain ⟨kP_0, kP_1, kP_2⟩ := kP.out _ HB_w4_5
  have hS := Lib.hid (show ∀ u1 u2 : World, (Hid (Below w0.heap.size w0 u1) ∧ Hid (Below w3.heap.size w3 u1) ∧ Hid (Below w4.heap.size w4 u1)) → Below u1.heap.size u1 u2 → (u2.cell? ⟨w.heap.size, 0, none⟩ = some (.int .i64 P) ∧ u2.cell? ⟨w.heap.size, 1, none⟩ = some (.int .i64 Q) ∧ u2.cell? ⟨w.heap.size, 2, none⟩ = some (.int .i64 G) ∧ u2.cell? ⟨w.heap.size + 1, 0, none⟩ = some (.slice Y bn yc) ∧ u2.cell? ⟨w.heap.size + 1, 1, none⟩ = some (.slice B bn bc) ∧ u2.cell? ⟨w3.heap.size, 0, none⟩ = some (.slice A1 bn ca) ∧ u2.cell? ⟨w3.heap.size, 1, none⟩ = some (.int .i64 c) ∧ u2.cell? ⟨w3.heap.size, 2, none⟩ = some (.slice Z1 kn cz) ∧ Hid (Below w0.heap.size w0 u2) ∧ Hid (Below w3.heap.size w3 u2) ∧ Hid (Below w4.heap.size w4 u2)) from fun u1 u2 h1 h2 => by
    obtain ⟨q0, q1, q2⟩ := h1
    have r0 := Lib.hid (below_ext q0.out h2)
    have r1 := Lib.hid (below_ext q1.out h2)
    have r2 := Lib.hid (below_ext q2.out h2)
    obtain ⟨y0, y1, y2, y3, y4⟩ := kC.out _ r0
    obtain ⟨y5, y6, y7⟩ := kP.out _ r2
    exact ⟨y0, y1, y2, y3, y4, y5, y6, y7, r0, r1, r2⟩)
  have hR : Hid (Below w0.heap.size w0 w5) ∧ Hid (Below w3.heap.size w3 w5) ∧ Hid (Below w4.heap.size w4 w5) := ⟨HB_5, HB_w3_5, HB_w4_5⟩
  have HR_ := Lib.hid hR
  clear hR
  clear zc0 zc1 zc2 zc3 zc4 kP_0 kP_1 kP_2
  go_wp2_with fail
  go_region_held3 (fun w' => w'.cell? ⟨w.heap.size, 0, none⟩ = some (.int .i64 P) ∧ w'.cell? ⟨w.heap.size, 1, none⟩ = some (.int .i64 Q) ∧ w'.cell? ⟨w.heap.size, 2, none⟩ = some (.int .i64 G) ∧ w'.cell? ⟨w.heap.size + 1, 0, none⟩ = some (.slice Y bn yc) ∧ w'.cell? ⟨w.heap.size + 1, 1, none⟩ = some (.slice B bn bc) ∧ w'.cell? ⟨w3.heap.size, 0, none⟩ = some (.slice A1 bn ca) ∧ w'.cell? ⟨w3.heap.size, 1, none⟩ = some (.int .i64 c) ∧ w'.cell? ⟨w3.heap.size, 2, none⟩ = some (.slice Z1 kn cz) ∧ Hid (Below w0.heap.size w0 w') ∧ Hid (Below w3.heap.size w3 w') ∧ Hid (Below w4.heap.size w4 w'))
    (first | exact hS.out _ _ HR_.out ((Below.refl _ _).drew) | (exact hS.out _ _ (by go_split_ands; exact ⟨(by assumption), (by assumption), (by assumption)⟩) hbA) | go_keep)
    ((first
      | (go_at_call 22; (with_reducible refine (rsim17_ok P Q G Y ys yc B rows bn bc c K ks kn kc HVL hyn hbn hkn k2 Hl hc0 hc1 hQ _ ?_ ?_ ?_).mono ?_); (go_split_ands; exact kY.out _ (by assumption)); (go_split_ands; exact kB.out _ (by assumption)); (go_split_ands; exact kK.out _ (by assumption)); rintro e wA ⟨A2, ca2, Z2, cz2, rfl, hA2, hZ2, hbA⟩; have HA2 := Lib.hid hA2; have HZ2 := Lib.hid hZ2; clear hA2 hZ2)
      | (go_at_call 21; (with_reducible refine (rsamep_true A1 ca Z1 cz A2 ca2 Z2 cz2 (simR P Q c ys rows ks) bn c ks kn hsl hkn (by omega) (by omega) _ ?_ ?_ HA2 HZ2).mono ?_); (go_split_ands; exact kA.out _ (by assumption)); (go_split_ands; exact kZ.out _ (by assumption)); rintro e wA ⟨rfl, hbA⟩)))
  rename_i hHeld
  obtain ⟨x0, x1, x2, x3, x4, x5, x6, x7, HN0, HN1, HN2⟩ := hHeld
  clear x0 x1 x2 x3 x4 x5 x6 x7
  obtain ⟨zc0, zc1, zc2, zc3, zc4⟩ := kC.out _ HN0
  obtain ⟨kP_0, kP_1, kP_2⟩ := kP.out _ HN2
  go_wp2_with fail
  refine (lrespond_bad P Q G K ks kn kc c X xs xn xc r2 hr2 hne2 hkn hxn (by omega) (by omega) hQ _ (kV.out _ HN0) (kK.out _ HN0) (kX.out _ HN0)).mono ?_
  rintro e w6 ⟨rfl, hb0⟩
  have HB_6 := Lib.hid (below_ext HN0.out hb0)
  have HB_w3_6 := Lib.hid (below_ext HN1.out hb0)
  have HB_w4_6 := Lib.hid (below_ext HN2.out hb0)
  clear zc0 zc1 zc2 zc3 zc4 kP_0 kP_1 kP_2
  clear hb0
  obtain ⟨zc0, zc1, zc2, zc3, zc4⟩ := kC.out _ HB_6
  obtain ⟨kP_0, kP_1, kP_2⟩ := kP.out _ HB_w4_6
  obtain ⟨hq1, hq2, hq3⟩ := one_rel w6 3 3 24
  have HY1 := Lib.hid hq1
  have HW1 := Lib.hid hq2
  have HVO : Hid (validR P Q G [1] [⟨some ⟨w6.heap.size + 1, 0, none⟩, 1, 1, [1]⟩] = vb) := Lib.hid ((validR_one _).trans HVB.out)
  have HB_7 := Lib.hid (below_ext HB_6.out hq3)
  have HB_w3_7 := Lib.hid (below_ext HB_w3_6.out hq3)
  have HB_w4_7 := Lib.hid (below_ext HB_w4_6.out hq3)
  clear hq1 hq2 hq3
  go_wp2_with fail
  refine (rvalid17_any P Q G (some ⟨w6.heap.size, 0, none⟩) [1] 1 1 (some ⟨w6.heap.size + 1 + 1, 0, none⟩) [⟨some ⟨w6.heap.size + 1, 0, none⟩, 1, 1, [1]⟩] 1 1 vb HVO (Lib.hid rfl) (Lib.hid rfl) hQ _ HY1 HW1).mono ?_
  rintro e w8 ⟨rfl, hb0⟩
  have HB_8 := Lib.hid (below_ext HB_7.out hb0)
  have HB_w3_8 := Lib.hid (below_ext HB_w3_7.out hb0)
  have HB_w4_8 := Lib.hid (below_ext HB_w4_7.out hb0)
  clear zc0 zc1 zc2 zc3 zc4 kP_0 kP_1 kP_2
  clear hb0
  obtain ⟨zc0, zc1, zc2, zc3, zc4⟩ := kC.out _ HB_8
  obtain ⟨kP_0, kP_1, kP_2⟩ := kP.out _ HB_w4_8
  cases vb with
  | false =>
    obtain rfl : r2 = 1 := hr2.out.symm.trans (by unfold rspE; simp only [HVB.out, Bool.false_eq_true, if_false])
    have hbF := below_ext HBw.out HB_8.out
    go_wp2
    go_ret
    exact ⟨rfl, hbF⟩
  | true =>
    by_cases h1 : kn < 1
    · skip
      have e1 : decide ((kn : Int) < 1) = true := by simp; omega
      obtain rfl : r2 = 1 := hr2.out.symm.trans (by unfold rspE; simp only [HVB.out, hkn.out, hxn.out, HKB.out, HXB.out, HCB.out, Bool.false_eq_true, if_true, if_false]; rw [if_neg (by omega)])
      have hbF := below_ext HBw.out HB_8.out
      go_wp2
      go_ret
      exact ⟨rfl, hbF⟩
    · skip
      have e1 : decide ((kn : Int) < 1) = false := by simp; omega
      by_cases h2 : 12 < kn
      · skip
        have e2 : decide ((12 : Int) < (kn : Int)) = true := by simp; omega
        obtain rfl : r2 = 1 := hr2.out.symm.trans (by unfold rspE; simp only [HVB.out, hkn.out, hxn.out, HKB.out, HXB.out, HCB.out, Bool.false_eq_true, if_true, if_false]; rw [if_neg (by omega)])
        have hbF := below_ext HBw.out HB_8.out
        go_wp2
        go_ret
        exact ⟨rfl, hbF⟩
      · skip
        have e2 : decide ((12 : Int) < (kn : Int)) = false := by simp; omega
        by_cases h3 : xn = kn
        · skip
          have e3 : ((xn : Int) != (kn : Int)) = false := by simp; omega
          have hlen : 1 ≤ kn ∧ kn ≤ 12 ∧ xn = kn := ⟨by omega, by omega, by omega⟩
          clear h3
          have HLN := Lib.hid hlen
          clear hlen
          go_wp2_with fail
          refine (rscalars_any P Q G K ks kn kc kb HKB hkn (by omega) _ (kK.out _ HB_8)).mono ?_
          rintro e w9 ⟨rfl, hb0⟩
          have HB_9 := Lib.hid (below_ext HB_8.out hb0)
          have HB_w3_9 := Lib.hid (below_ext HB_w3_8.out hb0)
          have HB_w4_9 := Lib.hid (below_ext HB_w4_8.out hb0)
          clear zc0 zc1 zc2 zc3 zc4 kP_0 kP_1 kP_2
          clear hb0
          obtain ⟨zc0, zc1, zc2, zc3, zc4⟩ := kC.out _ HB_9
          obtain ⟨kP_0, kP_1, kP_2⟩ := kP.out _ HB_w4_9
          cases kb with
          | false =>
            obtain rfl : r2 = 2 := hr2.out.symm.trans (by unfold rspE; simp only [HVB.out, hkn.out, hxn.out, HKB.out, HXB.out, HCB.out, Bool.false_eq_true, if_true, if_false]; rw [if_pos HLN.out])
            have hbF := below_ext HBw.out HB_9.out
            go_wp2
            go_ret
            exact ⟨rfl, hbF⟩
          | true =>
            go_wp2_with fail
            refine (rscalars_any P Q G X xs xn xc xb HXB hxn (by omega) _ (kX.out _ HB_9)).mono ?_
            rintro e w10 ⟨rfl, hb0⟩
            have HB_10 := Lib.hid (below_ext HB_9.out hb0)
            have HB_w3_10 := Lib.hid (below_ext HB_w3_9.out hb0)
            have HB_w4_10 := Lib.hid (below_ext HB_w4_9.out hb0)
            clear zc0 zc1 zc2 zc3 zc4 kP_0 kP_1 kP_2
            clear hb0
            obtain ⟨zc0, zc1, zc2, zc3, zc4⟩ := kC.out _ HB_10
            obtain ⟨kP_0, kP_1, kP_2⟩ := kP.out _ HB_w4_10
            cases xb with
            | false =>
              obtain rfl : r2 = 2 := hr2.out.symm.trans (by unfold rspE; simp only [HVB.out, hkn.out, hxn.out, HKB.out, HXB.out, HCB.out, Bool.false_eq_true, if_true, if_false]; rw [if_pos HLN.out])
              have hbF := below_ext HBw.out HB_10.out
              go_wp2
              go_ret
              exact ⟨rfl, hbF⟩
            | true =>
              have hq := below_box0 w10 (.cells #[.int .i64 c] 3)
              have HO := Lib.hid (sl_of_cells (cells1 w10 3 c))
              have HB_11 := Lib.hid (below_ext HB_10.out hq)
              have HB_w3_11 := Lib.hid (below_ext HB_w3_10.out hq)
              have HB_w4_11 := Lib.hid (below_ext HB_w4_10.out hq)
              clear hq
              go_wp2_with fail
              refine (rscalars_any P Q G (some ⟨w10.heap.size, 0, none⟩) [c] 1 1 cb (Lib.hid (all_single.trans HCB.out)) (Lib.hid rfl) (by omega) _ HO).mono ?_
              rintro e w12 ⟨rfl, hb0⟩
              have HB_12 := Lib.hid (below_ext HB_11.out hb0)
              have HB_w3_12 := Lib.hid (below_ext HB_w3_11.out hb0)
              have HB_w4_12 := Lib.hid (below_ext HB_w4_11.out hb0)
              clear zc0 zc1 zc2 zc3 zc4 kP_0 kP_1 kP_2
              clear hb0
              obtain ⟨zc0, zc1, zc2, zc3, zc4⟩ := kC.out _ HB_12
              obtain ⟨kP_0, kP_1, kP_2⟩ := kP.out _ HB_w4_12
              cases cb with
              | false =>
                obtain rfl : r2 = 2 := hr2.out.symm.trans (by unfold rspE; simp only [HVB.out, hkn.out, hxn.out, HKB.out, HXB.out, HCB.out, Bool.false_eq_true, if_true, if_false]; rw [if_pos HLN.out])
                have hbF := below_ext HBw.out HB_12.out
                go_wp2
                go_ret
                exact ⟨rfl, hbF⟩
              | true =>
                have e0 : r2 = 0 := hr2.out.symm.trans (by unfold rspE; simp only [HVB.out, hkn.out, hxn.out, HKB.out, HXB.out, HCB.out, Bool.false_eq_true, if_true, if_false]; rw [if_pos HLN.out])
                exact absurd hne2 (by rw [e0]; decide)
        · skip
          have e3 : ((xn : Int) != (kn : Int)) = true := by simp; omega
          obtain rfl : r2 = 1 := hr2.out.symm.trans (by unfold rspE; simp only [HVB.out, hkn.out, hxn.out, HKB.out, HXB.out, HCB.out, Bool.false_eq_true, if_true, if_false]; rw [if_neg (by omega)])
          have hbF := below_ext HBw.out HB_8.out
          go_wp2
          go_ret
          exact ⟨rfl, hbF⟩

set_option maxHeartbeats 25600000 in
theorem lr_ok_ok (P Q G : Int) (Y : Option Addr) (ys : List Int) (yc : Nat) (B : Option Addr) (rows : List Row) (bn bc : Nat) (K : Option Addr) (ks : List Int) (kn kc : Nat) (c : Int) (X : Option Addr) (xs : List Int) (xn xc : Nat) (hyn : Hid (ys.length = bn)) (hbn : Hid (rows.length = bn)) (hkn : Hid (ks.length = kn)) (hxn : Hid (xs.length = xn)) (hQ : Q < 9223372036854775808) (HF : Hid (fewB bn bn rows = true)) (hk30 : kn ≤ 30) (hx30 : xn ≤ 30) (hr : Hid (chkR P Q G ys rows ks [c] = 0)) (hr2 : Hid (rspE P Q G ks c xs = 0)) (w : World) (hv : Hid (Vars w)) (hY : Hid (Sl w Y ys)) (hB : Hid (Rw w B rows)) (hK : Hid (Sl w K ks)) (hX : Hid (Sl w X xs)) :
    Calls Tryd.prog 4 #[gv P Q G, relV Y bn yc B bn bc, .slice K kn kc, .int .i64 c, .slice X xn xc] w fun e' w' => e' = .returned (.bool true) ∧ Below w.heap.size w w' := by
  obtain ⟨k1, k2, k3, k4⟩ := chkR_0 hr.out
  have HVL := Lib.hid k1
  have Hl := Lib.hid k3
  have hc9 : scB Q c = true := by simpa using k4
  have hc0 : 0 ≤ c := scB_lo hc9
  have hc1 : c < Q := scB_hi hc9
  have hb8 : bn ≤ 8 := by have := (validR_parts k1).2.2.1; have := hyn.out; omega
  have hsl : Hid ((simR P Q c ys rows ks).length = bn) := Lib.hid (by rw [simR_length]; exact hbn.out)
  clear k1 k3 k4 hc9
  have d1 : decide ((30 : Int) < (kn : Int)) = false := by simp; omega
  have d2 : decide ((30 : Int) < (xn : Int)) = false := by simp; omega
  obtain ⟨m1, m2, m3, m4, m5, m6, m7⟩ := rspE_0 hr2.out
  have HVB := Lib.hid m1
  have HKB := Lib.hid m5
  have HXB := Lib.hid m6
  have HCB := Lib.hid m7
  obtain ⟨hp2, hp, hq3', hqp⟩ := validG_P m1
  have hQ2 : Q < 2305843009213693952 := by omega
  skip
  rw [hkn.out] at m2 m3 m4
  rw [hxn.out] at m4
  have m4' := m4.symm
  clear m4
  subst m4'
  have h1 := m2
  have h2 := m3
  have eE : ((kn : Int) != (kn : Int)) = false := by simp
  have eE1 : decide ((kn : Int) < 1) = false := by simp; omega
  have eE2 : decide ((12 : Int) < (kn : Int)) = false := by simp; omega
  clear m1 m2 m3 m5 m6 m7
  obtain ⟨w0, hW⟩ : ∃ W, ((w.alloc (gObj P Q G)).alloc (relO Y bn yc B bn bc)) = W := ⟨_, rfl⟩
  have HBw : Hid (Below w.heap.size w w0) := Lib.hid (by rw [← hW]; exact below_two (Below.refl _ _))
  have hc : w0.cell? ⟨w.heap.size, 0, none⟩ = some (.int .i64 P) ∧ w0.cell? ⟨w.heap.size, 1, none⟩ = some (.int .i64 Q) ∧ w0.cell? ⟨w.heap.size, 2, none⟩ = some (.int .i64 G) ∧ w0.cell? ⟨w.heap.size + 1, 0, none⟩ = some (.slice Y bn yc) ∧ w0.cell? ⟨w.heap.size + 1, 1, none⟩ = some (.slice B bn bc) := by rw [← hW]; exact ⟨cell_below (allocs_cell (by simp) (by rfl)) (below_box0 _ _), cell_below (allocs_cell (by simp) (by rfl)) (below_box0 _ _), cell_below (allocs_cell (by simp) (by rfl)) (below_box0 _ _), allocs_cell (by simp) (by rfl), allocs_cell (by simp) (by rfl)⟩
  have kC := Lib.hid (show ∀ u : World, Hid (Below w0.heap.size w0 u) → u.cell? ⟨w.heap.size, 0, none⟩ = some (.int .i64 P) ∧ u.cell? ⟨w.heap.size, 1, none⟩ = some (.int .i64 Q) ∧ u.cell? ⟨w.heap.size, 2, none⟩ = some (.int .i64 G) ∧ u.cell? ⟨w.heap.size + 1, 0, none⟩ = some (.slice Y bn yc) ∧ u.cell? ⟨w.heap.size + 1, 1, none⟩ = some (.slice B bn bc) from fun u h => ⟨cell_below hc.1 h.out, cell_below hc.2.1 h.out, cell_below hc.2.2.1 h.out, cell_below hc.2.2.2.1 h.out, cell_below hc.2.2.2.2 h.out⟩)
  have kV := Lib.hid (show ∀ u : World, Hid (Below w0.heap.size w0 u) → Hid (Vars u) from fun u h => Lib.hid ((hv.out.below) (below_ext HBw.out h.out)))
  have kY := Lib.hid (show ∀ u : World, Hid (Below w0.heap.size w0 u) → Hid (Sl u Y ys) from fun u h => Lib.hid ((hY.out.below) (below_ext HBw.out h.out)))
  have kB := Lib.hid (show ∀ u : World, Hid (Below w0.heap.size w0 u) → Hid (Rw u B rows) from fun u h => Lib.hid ((hB.out.below) (below_ext HBw.out h.out)))
  have kK := Lib.hid (show ∀ u : World, Hid (Below w0.heap.size w0 u) → Hid (Sl u K ks) from fun u h => Lib.hid ((hK.out.below) (below_ext HBw.out h.out)))
  have kX := Lib.hid (show ∀ u : World, Hid (Below w0.heap.size w0 u) → Hid (Sl u X xs) from fun u h => Lib.hid ((hX.out.below) (below_ext HBw.out h.out)))
  have HB_0 : Hid (Below w0.heap.size w0 w0) := Lib.hid (Below.refl _ _)
  have HW := Lib.hid hW
  clear hW hc hv hY hB hK hX
  go_enter Tryd.func4, Tryd.ntmps4
  go_wp2_with fail
  rw [HW.out]
  obtain ⟨zc0, zc1, zc2, zc3, zc4⟩ := kC.out _ HB_0
  go_wp2_with fail
  refine (awake17 _ (kV.out _ HB_0)).mono ?_
  rintro e w1 ⟨rfl, hb0⟩
  have HB_1 := Lib.hid (below_ext HB_0.out hb0)
  clear zc0 zc1 zc2 zc3 zc4
  clear hb0
  obtain ⟨zc0, zc1, zc2, zc3, zc4⟩ := kC.out _ HB_1
  go_wp2_with fail
  refine (few_any Y bn yc B rows bn bc true HF hbn _ (kB.out _ HB_1)).mono ?_
  rintro e w2 ⟨rfl, hb0⟩
  have HB_2 := Lib.hid (below_ext HB_1.out hb0)
  clear zc0 zc1 zc2 zc3 zc4
  clear hb0
  obtain ⟨zc0, zc1, zc2, zc3, zc4⟩ := kC.out _ HB_2
  go_wp2_with fail
  refine (lsimul_ok P Q G Y ys yc B rows bn bc c K ks kn kc hr hc0 hc1 hyn hbn hkn (by omega) hQ _ (kV.out _ HB_2) (kY.out _ HB_2) (kB.out _ HB_2) (kK.out _ HB_2)).mono ?_
  rintro e w3 ⟨A1, ca, Z1, cz, rfl, hA, hZ, hb0⟩
  have HB_3 := Lib.hid (below_ext HB_2.out hb0)
  clear zc0 zc1 zc2 zc3 zc4
  clear hb0
  obtain ⟨zc0, zc1, zc2, zc3, zc4⟩ := kC.out _ HB_3
  have HB_w3_3 : Hid (Below w3.heap.size w3 w3) := Lib.hid (Below.refl _ _)
  have HA1 := Lib.hid hA
  have HZ1 := Lib.hid hZ
  clear hA hZ
  have kA := Lib.hid (show ∀ u : World, Hid (Below w3.heap.size w3 u) → Hid (Sl u A1 (simR P Q c ys rows ks)) from fun u h => Lib.hid (HA1.out.below h.out))
  have kZ := Lib.hid (show ∀ u : World, Hid (Below w3.heap.size w3 u) → Hid (Sl u Z1 ks) from fun u h => Lib.hid (HZ1.out.below h.out))
  have hq := below_box0 w3 (prObjL A1 bn ca c Z1 kn cz)
  have HB_4 := Lib.hid (below_ext HB_3.out hq)
  have HB_w3_4 := Lib.hid (below_ext HB_w3_3.out hq)
  have hc : (w3.alloc (prObjL A1 bn ca c Z1 kn cz)).cell? ⟨w3.heap.size, 0, none⟩ = some (.slice A1 bn ca) ∧ (w3.alloc (prObjL A1 bn ca c Z1 kn cz)).cell? ⟨w3.heap.size, 1, none⟩ = some (.int .i64 c) ∧ (w3.alloc (prObjL A1 bn ca c Z1 kn cz)).cell? ⟨w3.heap.size, 2, none⟩ = some (.slice Z1 kn cz) := ⟨allocs_cell rfl (by rfl), allocs_cell rfl (by rfl), allocs_cell rfl (by rfl)⟩
  have HC4 := Lib.hid hc
  clear zc0 zc1 zc2 zc3 zc4
  clear hq
  obtain ⟨zc0, zc1, zc2, zc3, zc4⟩ := kC.out _ HB_4
  obtain ⟨zq0, zq1, zq2⟩ := hc
  go_wp2_with fail
  obtain ⟨w4, hw⟩ : ∃ x, (w3.alloc (prObjL A1 bn ca c Z1 kn cz)) = x := ⟨_, rfl⟩
  rw [hw] at HC4 HB_4 HB_w3_4 ⊢
  clear zc0 zc1 zc2 zc3 zc4 zq0 zq1 zq2
  clear hw
  have HB_w4_4 : Hid (Below w4.heap.size w4 w4) := Lib.hid (Below.refl _ _)
  have kP := Lib.hid (show ∀ u : World, Hid (Below w4.heap.size w4 u) → u.cell? ⟨w3.heap.size, 0, none⟩ = some (.slice A1 bn ca) ∧ u.cell? ⟨w3.heap.size, 1, none⟩ = some (.int .i64 c) ∧ u.cell? ⟨w3.heap.size, 2, none⟩ = some (.slice Z1 kn cz) from fun u h => ⟨cell_below HC4.out.1 h.out, cell_below HC4.out.2.1 h.out, cell_below HC4.out.2.2 h.out⟩)
  obtain ⟨zc0, zc1, zc2, zc3, zc4⟩ := kC.out _ HB_4
  obtain ⟨kP_0, kP_1, kP_2⟩ := kP.out _ HB_w4_4
  go_wp2_with fail
  refine (fault_any P Q G Y ys bn yc B rows bn bc K ks kn kc c 0 hr hyn hbn hkn (by omega) hQ _ (kY.out _ HB_4) (kB.out _ HB_4) (kK.out _ HB_4)).mono ?_
  rintro e w5 ⟨rfl, hb0⟩
  have HB_5 := Lib.hid (below_ext HB_4.out hb0)
  have HB_w3_5 := Lib.hid (below_ext HB_w3_4.out hb0)
  have HB_w4_5 := Lib.hid (below_ext HB_w4_4.out hb0)
  clear zc0 zc1 zc2 zc3 zc4 kP_0 kP_1 kP_2
  clear hb0
  obtain ⟨zc0, zc1, zc2, zc3, zc4⟩ := kC.out _ HB_5
  obtain ⟨kP_0, kP_1, kP_2⟩ := kP.out _ HB_w4_5
  have hS := Lib.hid (show ∀ u1 u2 : World, (Hid (Below w0.heap.size w0 u1) ∧ Hid (Below w3.heap.size w3 u1) ∧ Hid (Below w4.heap.size w4 u1)) → Below u1.heap.size u1 u2 → (u2.cell? ⟨w.heap.size, 0, none⟩ = some (.int .i64 P) ∧ u2.cell? ⟨w.heap.size, 1, none⟩ = some (.int .i64 Q) ∧ u2.cell? ⟨w.heap.size, 2, none⟩ = some (.int .i64 G) ∧ u2.cell? ⟨w.heap.size + 1, 0, none⟩ = some (.slice Y bn yc) ∧ u2.cell? ⟨w.heap.size + 1, 1, none⟩ = some (.slice B bn bc) ∧ u2.cell? ⟨w3.heap.size, 0, none⟩ = some (.slice A1 bn ca) ∧ u2.cell? ⟨w3.heap.size, 1, none⟩ = some (.int .i64 c) ∧ u2.cell? ⟨w3.heap.size, 2, none⟩ = some (.slice Z1 kn cz) ∧ Hid (Below w0.heap.size w0 u2) ∧ Hid (Below w3.heap.size w3 u2) ∧ Hid (Below w4.heap.size w4 u2)) from fun u1 u2 h1 h2 => by
    obtain ⟨q0, q1, q2⟩ := h1
    have r0 := Lib.hid (below_ext q0.out h2)
    have r1 := Lib.hid (below_ext q1.out h2)
    have r2 := Lib.hid (below_ext q2.out h2)
    obtain ⟨y0, y1, y2, y3, y4⟩ := kC.out _ r0
    obtain ⟨y5, y6, y7⟩ := kP.out _ r2
    exact ⟨y0, y1, y2, y3, y4, y5, y6, y7, r0, r1, r2⟩)
  have hR : Hid (Below w0.heap.size w0 w5) ∧ Hid (Below w3.heap.size w3 w5) ∧ Hid (Below w4.heap.size w4 w5) := ⟨HB_5, HB_w3_5, HB_w4_5⟩
  have HR_ := Lib.hid hR
  clear hR
  clear zc0 zc1 zc2 zc3 zc4 kP_0 kP_1 kP_2
  go_wp2_with fail
  go_region_held3 (fun w' => w'.cell? ⟨w.heap.size, 0, none⟩ = some (.int .i64 P) ∧ w'.cell? ⟨w.heap.size, 1, none⟩ = some (.int .i64 Q) ∧ w'.cell? ⟨w.heap.size, 2, none⟩ = some (.int .i64 G) ∧ w'.cell? ⟨w.heap.size + 1, 0, none⟩ = some (.slice Y bn yc) ∧ w'.cell? ⟨w.heap.size + 1, 1, none⟩ = some (.slice B bn bc) ∧ w'.cell? ⟨w3.heap.size, 0, none⟩ = some (.slice A1 bn ca) ∧ w'.cell? ⟨w3.heap.size, 1, none⟩ = some (.int .i64 c) ∧ w'.cell? ⟨w3.heap.size, 2, none⟩ = some (.slice Z1 kn cz) ∧ Hid (Below w0.heap.size w0 w') ∧ Hid (Below w3.heap.size w3 w') ∧ Hid (Below w4.heap.size w4 w'))
    (first | exact hS.out _ _ HR_.out ((Below.refl _ _).drew) | (exact hS.out _ _ (by go_split_ands; exact ⟨(by assumption), (by assumption), (by assumption)⟩) hbA) | go_keep)
    ((first
      | (go_at_call 22; (with_reducible refine (rsim17_ok P Q G Y ys yc B rows bn bc c K ks kn kc HVL hyn hbn hkn k2 Hl hc0 hc1 hQ _ ?_ ?_ ?_).mono ?_); (go_split_ands; exact kY.out _ (by assumption)); (go_split_ands; exact kB.out _ (by assumption)); (go_split_ands; exact kK.out _ (by assumption)); rintro e wA ⟨A2, ca2, Z2, cz2, rfl, hA2, hZ2, hbA⟩; have HA2 := Lib.hid hA2; have HZ2 := Lib.hid hZ2; clear hA2 hZ2)
      | (go_at_call 21; (with_reducible refine (rsamep_true A1 ca Z1 cz A2 ca2 Z2 cz2 (simR P Q c ys rows ks) bn c ks kn hsl hkn (by omega) (by omega) _ ?_ ?_ HA2 HZ2).mono ?_); (go_split_ands; exact kA.out _ (by assumption)); (go_split_ands; exact kZ.out _ (by assumption)); rintro e wA ⟨rfl, hbA⟩)))
  rename_i hHeld
  obtain ⟨x0, x1, x2, x3, x4, x5, x6, x7, HN0, HN1, HN2⟩ := hHeld
  clear x0 x1 x2 x3 x4 x5 x6 x7
  obtain ⟨zc0, zc1, zc2, zc3, zc4⟩ := kC.out _ HN0
  obtain ⟨kP_0, kP_1, kP_2⟩ := kP.out _ HN2
  go_wp2_with fail
  refine (lrespond_ok P Q G K ks kn kc c X xs xc HVB hkn hxn h1 h2 HKB HXB hc0 hc1 hQ _ (kV.out _ HN0) (kK.out _ HN0) (kX.out _ HN0)).mono ?_
  rintro e w6 ⟨v, rfl, ho, hb0⟩
  have HB_6 := Lib.hid (below_ext HN0.out hb0)
  have HB_w3_6 := Lib.hid (below_ext HN1.out hb0)
  have HB_w4_6 := Lib.hid (below_ext HN2.out hb0)
  clear zc0 zc1 zc2 zc3 zc4 kP_0 kP_1 kP_2
  clear hb0
  obtain ⟨zc0, zc1, zc2, zc3, zc4⟩ := kC.out _ HB_6
  obtain ⟨kP_0, kP_1, kP_2⟩ := kP.out _ HB_w4_6
  have HB_w6_6 : Hid (Below w6.heap.size w6 w6) := Lib.hid (Below.refl _ _)
  obtain ⟨Z3, c3, hv3, hz3, _⟩ := OwnL.sl ho
  rw [rspL_length] at hv3
  subst hv3
  have HZ3 := Lib.hid hz3
  clear ho hz3
  have kR3 := Lib.hid (show ∀ u : World, Hid (Below w6.heap.size w6 u) → Hid (Sl u Z3 (rspL Q c ks xs kn)) from fun u h => Lib.hid (HZ3.out.below h.out))
  obtain ⟨hq1, hq2, hq3⟩ := one_rel w6 3 3 24
  have HY1 := Lib.hid hq1
  have HW1 := Lib.hid hq2
  have HVO : Hid (validR P Q G [1] [⟨some ⟨w6.heap.size + 1, 0, none⟩, 1, 1, [1]⟩] = true) := Lib.hid ((validR_one _).trans HVB.out)
  have HB_7 := Lib.hid (below_ext HB_6.out hq3)
  have HB_w3_7 := Lib.hid (below_ext HB_w3_6.out hq3)
  have HB_w4_7 := Lib.hid (below_ext HB_w4_6.out hq3)
  have HB_w6_7 := Lib.hid (below_ext HB_w6_6.out hq3)
  clear hq1 hq2 hq3
  go_wp2_with fail
  refine (rvalid17_any P Q G (some ⟨w6.heap.size, 0, none⟩) [1] 1 1 (some ⟨w6.heap.size + 1 + 1, 0, none⟩) [⟨some ⟨w6.heap.size + 1, 0, none⟩, 1, 1, [1]⟩] 1 1 true HVO (Lib.hid rfl) (Lib.hid rfl) hQ _ HY1 HW1).mono ?_
  rintro e w8 ⟨rfl, hb0⟩
  have HB_8 := Lib.hid (below_ext HB_7.out hb0)
  have HB_w3_8 := Lib.hid (below_ext HB_w3_7.out hb0)
  have HB_w4_8 := Lib.hid (below_ext HB_w4_7.out hb0)
  have HB_w6_8 := Lib.hid (below_ext HB_w6_7.out hb0)
  clear zc0 zc1 zc2 zc3 zc4 kP_0 kP_1 kP_2
  clear hb0
  obtain ⟨zc0, zc1, zc2, zc3, zc4⟩ := kC.out _ HB_8
  obtain ⟨kP_0, kP_1, kP_2⟩ := kP.out _ HB_w4_8
  go_wp2_with fail
  refine (rscalars_any P Q G K ks kn kc true HKB hkn (by omega) _ (kK.out _ HB_8)).mono ?_
  rintro e w9 ⟨rfl, hb0⟩
  have HB_9 := Lib.hid (below_ext HB_8.out hb0)
  have HB_w3_9 := Lib.hid (below_ext HB_w3_8.out hb0)
  have HB_w4_9 := Lib.hid (below_ext HB_w4_8.out hb0)
  have HB_w6_9 := Lib.hid (below_ext HB_w6_8.out hb0)
  clear zc0 zc1 zc2 zc3 zc4 kP_0 kP_1 kP_2
  clear hb0
  obtain ⟨zc0, zc1, zc2, zc3, zc4⟩ := kC.out _ HB_9
  obtain ⟨kP_0, kP_1, kP_2⟩ := kP.out _ HB_w4_9
  go_wp2_with fail
  refine (rscalars_any P Q G X xs kn xc true HXB hxn (by omega) _ (kX.out _ HB_9)).mono ?_
  rintro e w10 ⟨rfl, hb0⟩
  have HB_10 := Lib.hid (below_ext HB_9.out hb0)
  have HB_w3_10 := Lib.hid (below_ext HB_w3_9.out hb0)
  have HB_w4_10 := Lib.hid (below_ext HB_w4_9.out hb0)
  have HB_w6_10 := Lib.hid (below_ext HB_w6_9.out hb0)
  clear zc0 zc1 zc2 zc3 zc4 kP_0 kP_1 kP_2
  clear hb0
  obtain ⟨zc0, zc1, zc2, zc3, zc4⟩ := kC.out _ HB_10
  obtain ⟨kP_0, kP_1, kP_2⟩ := kP.out _ HB_w4_10
  have hq := below_box0 w10 (.cells #[.int .i64 c] 3)
  have HO := Lib.hid (sl_of_cells (cells1 w10 3 c))
  have HB_11 := Lib.hid (below_ext HB_10.out hq)
  have HB_w3_11 := Lib.hid (below_ext HB_w3_10.out hq)
  have HB_w4_11 := Lib.hid (below_ext HB_w4_10.out hq)
  have HB_w6_11 := Lib.hid (below_ext HB_w6_10.out hq)
  clear hq
  go_wp2_with fail
  refine (rscalars_any P Q G (some ⟨w10.heap.size, 0, none⟩) [c] 1 1 true (Lib.hid (all_single.trans HCB.out)) (Lib.hid rfl) (by omega) _ HO).mono ?_
  rintro e w12 ⟨rfl, hb0⟩
  have HB_12 := Lib.hid (below_ext HB_11.out hb0)
  have HB_w3_12 := Lib.hid (below_ext HB_w3_11.out hb0)
  have HB_w4_12 := Lib.hid (below_ext HB_w4_11.out hb0)
  have HB_w6_12 := Lib.hid (below_ext HB_w6_11.out hb0)
  clear zc0 zc1 zc2 zc3 zc4 kP_0 kP_1 kP_2
  clear hb0
  obtain ⟨zc0, zc1, zc2, zc3, zc4⟩ := kC.out _ HB_12
  obtain ⟨kP_0, kP_1, kP_2⟩ := kP.out _ HB_w4_12
  go_wp2_with fail
  refine (rrespond17_ok P Q G K ks kn kc c X xs xc hkn hxn h2 HKB HXB hc0 hc1 hQ2 _ (kK.out _ HB_12) (kX.out _ HB_12)).mono ?_
  rintro e w13 ⟨v4, rfl, ho, hb0⟩
  have HB_13 := Lib.hid (below_ext HB_12.out hb0)
  have HB_w3_13 := Lib.hid (below_ext HB_w3_12.out hb0)
  have HB_w4_13 := Lib.hid (below_ext HB_w4_12.out hb0)
  have HB_w6_13 := Lib.hid (below_ext HB_w6_12.out hb0)
  clear zc0 zc1 zc2 zc3 zc4 kP_0 kP_1 kP_2
  clear hb0
  obtain ⟨zc0, zc1, zc2, zc3, zc4⟩ := kC.out _ HB_13
  obtain ⟨kP_0, kP_1, kP_2⟩ := kP.out _ HB_w4_13
  obtain ⟨Z4, c4, hv4, hz4, _⟩ := OwnL.sl ho
  rw [rspL_length] at hv4
  subst hv4
  have HZ4 := Lib.hid hz4
  clear ho hz4
  go_wp2_with fail
  refine (eqs_any Z3 (rspL Q c ks xs kn) kn c3 Z4 (rspL Q c ks xs kn) kn c4 true (Lib.hid (by simp)) (Lib.hid (rspL_length _ _ _ _ _)) (Lib.hid (rspL_length _ _ _ _ _)) (by omega) (by omega) _ (kR3.out _ HB_w6_13) HZ4).mono ?_
  rintro e w14 ⟨rfl, hb0⟩
  have HB_14 := Lib.hid (below_ext HB_13.out hb0)
  have HB_w3_14 := Lib.hid (below_ext HB_w3_13.out hb0)
  have HB_w4_14 := Lib.hid (below_ext HB_w4_13.out hb0)
  have HB_w6_14 := Lib.hid (below_ext HB_w6_13.out hb0)
  clear zc0 zc1 zc2 zc3 zc4 kP_0 kP_1 kP_2
  clear hb0
  obtain ⟨zc0, zc1, zc2, zc3, zc4⟩ := kC.out _ HB_14
  obtain ⟨kP_0, kP_1, kP_2⟩ := kP.out _ HB_w4_14
  have hbF := below_ext HBw.out HB_14.out
  go_wp2
  go_ret
  exact ⟨rfl, hbF⟩

/-- THE LAW: true for every input. -/
theorem lr_true (P Q G : Int) (Y : Option Addr) (ys : List Int) (yn yc : Nat) (B : Option Addr) (rows : List Row) (bn bc : Nat) (K : Option Addr) (ks : List Int) (kn kc : Nat) (c : Int) (X : Option Addr) (xs : List Int) (xn xc : Nat) (hyn : Hid (ys.length = yn)) (hbn : Hid (rows.length = bn)) (hkn : Hid (ks.length = kn)) (hxn : Hid (xs.length = xn)) (hQ : Q < 9223372036854775808) (w : World) (hv : Hid (Vars w)) (hY : Hid (Sl w Y ys)) (hB : Hid (Rw w B rows)) (hK : Hid (Sl w K ks)) (hX : Hid (Sl w X xs)) :
    Calls Tryd.prog 4 #[gv P Q G, relV Y yn yc B bn bc, .slice K kn kc, .int .i64 c, .slice X xn xc] w fun e' w' => e' = .returned (.bool true) ∧ Below w.heap.size w w' := by
  cases hf : fewB yn bn rows with
  | false => exact lr_early P Q G Y ys yn yc B rows bn bc K ks kn kc c X xs xn xc hyn hbn hkn hxn hQ false (Lib.hid hf) (Or.inl rfl) w hv hY hB hK hX
  | true =>
    by_cases hl : 30 < kn ∨ 30 < xn
    · exact lr_early P Q G Y ys yn yc B rows bn bc K ks kn kc c X xs xn xc hyn hbn hkn hxn hQ true (Lib.hid hf) (Or.inr hl) w hv hY hB hK hX
    · obtain ⟨r, hr⟩ : ∃ r, chkR P Q G ys rows ks [c] = r := ⟨_, rfl⟩
      obtain ⟨r2, hr2⟩ : ∃ r, rspE P Q G ks c xs = r := ⟨_, rfl⟩
      have hk30 : kn ≤ 30 := by omega
      have hx30 : xn ≤ 30 := by omega
      cases h0 : r != 0 with
      | true =>
        cases h2 : r2 != 0 with
        | true => exact lr_bad_bad P Q G Y ys yn yc B rows bn bc K ks kn kc c X xs xn xc hyn hbn hkn hxn hQ (Lib.hid hf) hk30 hx30 r (Lib.hid hr) h0 r2 (Lib.hid hr2) h2 w hv hY hB hK hX
        | false =>
          obtain rfl : r2 = 0 := by simpa using h2
          exact lr_bad_ok P Q G Y ys yn yc B rows bn bc K ks kn kc c X xs xn xc hyn hbn hkn hxn hQ (Lib.hid hf) hk30 hx30 r (Lib.hid hr) h0 (Lib.hid hr2) w hv hY hB hK hX
      | false =>
        obtain rfl : r = 0 := by simpa using h0
        obtain rfl : bn = yn := by rw [← hbn.out, ← hyn.out]; exact (validR_parts (chkR_0 hr).1).2.2.2.1
        cases h2 : r2 != 0 with
        | true => exact lr_ok_bad P Q G Y ys yc B rows bn bc K ks kn kc c X xs xn xc hyn hbn hkn hxn hQ (Lib.hid hf) hk30 hx30 (Lib.hid hr) r2 (Lib.hid hr2) h2 w hv hY hB hK hX
        | false =>
          obtain rfl : r2 = 0 := by simpa using h2
          exact lr_ok_ok P Q G Y ys yc B rows bn bc K ks kn kc c X xs xn xc hyn hbn hkn hxn hQ (Lib.hid hf) hk30 hx30 (Lib.hid hr) (Lib.hid hr2) w hv hY hB hK hX
end Go.Proofs.YtijedphpcocfnaaDoor
