/- The walk of the law LinearZero. -/
import Derived.Test.YtijedphpcocfnaaDoorLinW
import Derived.Test.YtijedphpcocfnaaDoorLinX
namespace Go.Proofs.YtijedphpcocfnaaDoor
open Go.RowKit SpM
set_option linter.unusedVariables false
set_option linter.unusedSimpArgs false
set_option maxRecDepth 100000

theorem rspL_all {Q n : Int} {ks xs : List Int} {m : Nat} (hQ : 1 ≤ Q) : (rspL Q n ks xs m).all (scB Q) = true := by
  rw [List.all_eq_true]
  intro z hz
  simp only [rspL, List.mem_map] at hz
  obtain ⟨i, _, rfl⟩ := hz
  have h0 := Int.emod_nonneg (ks.getD i 0 + n * xs.getD i 0 % Q) (show Q ≠ 0 by omega)
  have h1 := Int.emod_lt_of_pos (ks.getD i 0 + n * xs.getD i 0 % Q) (show 0 < Q by omega)
  simp only [scB, Bool.and_eq_true, decide_eq_true_eq]
  exact ⟨h0, h1⟩
theorem chkR_ok {P Q G : Int} {ys : List Int} {rows : List Row} {ls os : List Int} (h1 : validR P Q G ys rows = true) (h2 : ls.length = rowN rows) (h3 : ls.all (scB Q) = true) (h4 : os.all (scB Q) = true) : chkR P Q G ys rows ls os = 0 := by
  unfold chkR
  rw [if_pos h1, if_pos h2, if_pos h3, if_pos h4]
theorem holdsB_parts {P Q G : Int} {ys : List Int} {rows : List Row} {xs : List Int} (h : holdsB P Q G ys rows xs = true) : validR P Q G ys rows = true ∧ xs.length = rowN rows ∧ xs.all (scB Q) = true ∧ ((rows.map fun r => prodF P 1 r.xs xs) == ys) = true := by
  simp only [holdsB, Bool.and_eq_true, decide_eq_true_eq] at h
  exact ⟨h.1, h.2.1, h.2.2.1, h.2.2.2⟩

set_option maxHeartbeats 25600000 in
theorem lz_early (P Q G : Int) (Y : Option Addr) (ys : List Int) (yn yc : Nat) (B : Option Addr) (rows : List Row) (bn bc : Nat) (X : Option Addr) (xs : List Int) (xn xc : Nat) (K : Option Addr) (ks : List Int) (kn kc : Nat) (c : Int) (A : Option Addr) (al : List Int) (na ca : Nat) (C : Int) (Z : Option Addr) (zs : List Int) (nz cz : Nat) (hyn : Hid (ys.length = yn)) (hbn : Hid (rows.length = bn)) (hxn : Hid (xs.length = xn)) (hkn : Hid (ks.length = kn)) (han : Hid (al.length = na)) (hzn : Hid (zs.length = nz)) (hQ : Q < 9223372036854775808) (fb : Bool) (HF : Hid (fewB yn bn rows = fb)) (sb : Bool) (HS : Hid ((decide (na ≤ 30) && decide (nz ≤ 30)) = sb)) (vb : Bool) (HVB : Hid (validR P Q G ys rows = vb)) (hne : fb = false ∨ 30 < kn ∨ 30 < xn ∨ sb = false ∨ vb = false) (w : World) (hv : Hid (Vars w)) (hY : Hid (Sl w Y ys)) (hB : Hid (Rw w B rows)) (hX : Hid (Sl w X xs)) (hK : Hid (Sl w K ks)) (hA : Hid (Sl w A al)) (hZ : Hid (Sl w Z zs)) :
    Calls Tryd.prog 5 #[gv P Q G, relV Y yn yc B bn bc, .slice X xn xc, .slice K kn kc, .int .u32 c, prvL A na ca C Z nz cz] w fun e' w' => e' = .returned (.bool true) ∧ Below w.heap.size w w' := by
  obtain ⟨w0, hW⟩ : ∃ W, (((w.alloc (gObj P Q G)).alloc (relO Y yn yc B bn bc)).alloc (prObjL A na ca C Z nz cz)) = W := ⟨_, rfl⟩
  have HBw : Hid (Below w.heap.size w w0) := Lib.hid (by rw [← hW]; exact (((Below.refl _ _).alloc (Nat.le_refl _) _).alloc (by simp) _).alloc (by simp; omega) _)
  have hc : w0.cell? ⟨w.heap.size, 0, none⟩ = some (.int .i64 P) ∧ w0.cell? ⟨w.heap.size, 1, none⟩ = some (.int .i64 Q) ∧ w0.cell? ⟨w.heap.size, 2, none⟩ = some (.int .i64 G) ∧ w0.cell? ⟨w.heap.size + 1, 0, none⟩ = some (.slice Y yn yc) ∧ w0.cell? ⟨w.heap.size + 1, 1, none⟩ = some (.slice B bn bc) ∧ w0.cell? ⟨w.heap.size + 2, 0, none⟩ = some (.slice A na ca) ∧ w0.cell? ⟨w.heap.size + 2, 1, none⟩ = some (.int .i64 C) ∧ w0.cell? ⟨w.heap.size + 2, 2, none⟩ = some (.slice Z nz cz) := by rw [← hW]; exact ⟨cell_below (cell_below (allocs_cell (by simp) (by rfl)) (below_box0 _ _)) (below_box0 _ _), cell_below (cell_below (allocs_cell (by simp) (by rfl)) (below_box0 _ _)) (below_box0 _ _), cell_below (cell_below (allocs_cell (by simp) (by rfl)) (below_box0 _ _)) (below_box0 _ _), cell_below (allocs_cell (by simp) (by rfl)) (below_box0 _ _), cell_below (allocs_cell (by simp) (by rfl)) (below_box0 _ _), allocs_cell (by simp) (by rfl), allocs_cell (by simp) (by rfl), allocs_cell (by simp) (by rfl)⟩
  have kC := Lib.hid (show ∀ u : World, Hid (Below w0.heap.size w0 u) → u.cell? ⟨w.heap.size, 0, none⟩ = some (.int .i64 P) ∧ u.cell? ⟨w.heap.size, 1, none⟩ = some (.int .i64 Q) ∧ u.cell? ⟨w.heap.size, 2, none⟩ = some (.int .i64 G) ∧ u.cell? ⟨w.heap.size + 1, 0, none⟩ = some (.slice Y yn yc) ∧ u.cell? ⟨w.heap.size + 1, 1, none⟩ = some (.slice B bn bc) ∧ u.cell? ⟨w.heap.size + 2, 0, none⟩ = some (.slice A na ca) ∧ u.cell? ⟨w.heap.size + 2, 1, none⟩ = some (.int .i64 C) ∧ u.cell? ⟨w.heap.size + 2, 2, none⟩ = some (.slice Z nz cz) from fun u h => ⟨cell_below hc.1 h.out, cell_below hc.2.1 h.out, cell_below hc.2.2.1 h.out, cell_below hc.2.2.2.1 h.out, cell_below hc.2.2.2.2.1 h.out, cell_below hc.2.2.2.2.2.1 h.out, cell_below hc.2.2.2.2.2.2.1 h.out, cell_below hc.2.2.2.2.2.2.2 h.out⟩)
  have kV := Lib.hid (show ∀ u : World, Hid (Below w0.heap.size w0 u) → Hid (Vars u) from fun u h => Lib.hid ((hv.out.below) (below_ext HBw.out h.out)))
  have kY := Lib.hid (show ∀ u : World, Hid (Below w0.heap.size w0 u) → Hid (Sl u Y ys) from fun u h => Lib.hid ((hY.out.below) (below_ext HBw.out h.out)))
  have kB := Lib.hid (show ∀ u : World, Hid (Below w0.heap.size w0 u) → Hid (Rw u B rows) from fun u h => Lib.hid ((hB.out.below) (below_ext HBw.out h.out)))
  have kX := Lib.hid (show ∀ u : World, Hid (Below w0.heap.size w0 u) → Hid (Sl u X xs) from fun u h => Lib.hid ((hX.out.below) (below_ext HBw.out h.out)))
  have kK := Lib.hid (show ∀ u : World, Hid (Below w0.heap.size w0 u) → Hid (Sl u K ks) from fun u h => Lib.hid ((hK.out.below) (below_ext HBw.out h.out)))
  have kA := Lib.hid (show ∀ u : World, Hid (Below w0.heap.size w0 u) → Hid (Sl u A al) from fun u h => Lib.hid ((hA.out.below) (below_ext HBw.out h.out)))
  have kZ := Lib.hid (show ∀ u : World, Hid (Below w0.heap.size w0 u) → Hid (Sl u Z zs) from fun u h => Lib.hid ((hZ.out.below) (below_ext HBw.out h.out)))
  have HB_0 : Hid (Below w0.heap.size w0 w0) := Lib.hid (Below.refl _ _)
  have HW := Lib.hid hW
  clear hW hc hv hY hB hX hK hA hZ
  go_enter Tryd.func5, Tryd.ntmps5
  go_wp2_with fail
  rw [HW.out]
  obtain ⟨zc0, zc1, zc2, zc3, zc4, zc5, zc6, zc7⟩ := kC.out _ HB_0
  go_wp2_with fail
  refine (awake17 _ (kV.out _ HB_0)).mono ?_
  rintro e w1 ⟨rfl, hb0⟩
  have HB_1 := Lib.hid (below_ext HB_0.out hb0)
  clear zc0 zc1 zc2 zc3 zc4 zc5 zc6 zc7
  clear hb0
  obtain ⟨zc0, zc1, zc2, zc3, zc4, zc5, zc6, zc7⟩ := kC.out _ HB_1
  go_wp2_with fail
  refine (few_any Y yn yc B rows bn bc fb HF hbn _ (kB.out _ HB_1)).mono ?_
  rintro e w2 ⟨rfl, hb0⟩
  have HB_2 := Lib.hid (below_ext HB_1.out hb0)
  clear zc0 zc1 zc2 zc3 zc4 zc5 zc6 zc7
  clear hb0
  obtain ⟨zc0, zc1, zc2, zc3, zc4, zc5, zc6, zc7⟩ := kC.out _ HB_2
  cases fb with
  | false =>
    clear hne
    have hbF := below_ext HBw.out HB_2.out
    go_wp2
    go_ret
    exact ⟨rfl, hbF⟩
  | true =>
    by_cases h1 : 30 < xn
    · skip
      have d1 : decide ((30 : Int) < (xn : Int)) = true := by simp; omega
      clear hne
      have hbF := below_ext HBw.out HB_2.out
      go_wp2
      go_ret
      exact ⟨rfl, hbF⟩
    · skip
      have d1 : decide ((30 : Int) < (xn : Int)) = false := by simp; omega
      by_cases h2 : 30 < kn
      · skip
        have d2 : decide ((30 : Int) < (kn : Int)) = true := by simp; omega
        clear hne
        have hbF := below_ext HBw.out HB_2.out
        go_wp2
        go_ret
        exact ⟨rfl, hbF⟩
      · skip
        have d2 : decide ((30 : Int) < (kn : Int)) = false := by simp; omega
        go_wp2_with fail
        refine (short_any A na ca C Z nz cz sb HS _).mono ?_
        rintro e w3 ⟨rfl, hb0⟩
        have HB_3 := Lib.hid (below_ext HB_2.out hb0)
        clear zc0 zc1 zc2 zc3 zc4 zc5 zc6 zc7
        clear hb0
        obtain ⟨zc0, zc1, zc2, zc3, zc4, zc5, zc6, zc7⟩ := kC.out _ HB_3
        cases sb with
        | false =>
          clear hne
          have hbF := below_ext HBw.out HB_3.out
          go_wp2
          go_ret
          exact ⟨rfl, hbF⟩
        | true =>
          go_wp2_with fail
          refine (rvalid17_any P Q G Y ys yn yc B rows bn bc vb HVB hyn hbn hQ _ (kY.out _ HB_3) (kB.out _ HB_3)).mono ?_
          rintro e w4 ⟨rfl, hb0⟩
          have HB_4 := Lib.hid (below_ext HB_3.out hb0)
          clear zc0 zc1 zc2 zc3 zc4 zc5 zc6 zc7
          clear hb0
          obtain ⟨zc0, zc1, zc2, zc3, zc4, zc5, zc6, zc7⟩ := kC.out _ HB_4
          cases vb with
          | false =>
            clear hne
            have hbF := below_ext HBw.out HB_4.out
            go_wp2
            go_ret
            exact ⟨rfl, hbF⟩
          | true =>
            exact absurd hne (by simp; omega)

set_option maxHeartbeats 25600000 in
theorem lz_false (P Q G : Int) (Y : Option Addr) (ys : List Int) (yc : Nat) (B : Option Addr) (rows : List Row) (bn bc : Nat) (X : Option Addr) (xs : List Int) (xn xc : Nat) (K : Option Addr) (ks : List Int) (kn kc : Nat) (c : Int) (A : Option Addr) (al : List Int) (na ca : Nat) (C : Int) (Z : Option Addr) (zs : List Int) (nz cz : Nat) (hyn : Hid (ys.length = bn)) (hbn : Hid (rows.length = bn)) (hxn : Hid (xs.length = xn)) (hkn : Hid (ks.length = kn)) (han : Hid (al.length = na)) (hzn : Hid (zs.length = nz)) (hQ : Q < 9223372036854775808) (HVL : Hid (validR P Q G ys rows = true)) (HF : Hid (fewB bn bn rows = true)) (hk30 : kn ≤ 30) (hx30 : xn ≤ 30) (hna : na ≤ 30) (hnz : nz ≤ 30) (HS : Hid ((decide (na ≤ 30) && decide (nz ≤ 30)) = true)) (hcl : 0 ≤ c) (hch : c ≤ 4294967295) (HCB : Hid (checkB P Q C ys rows al zs = false)) (w : World) (hv : Hid (Vars w)) (hY : Hid (Sl w Y ys)) (hB : Hid (Rw w B rows)) (hX : Hid (Sl w X xs)) (hK : Hid (Sl w K ks)) (hA : Hid (Sl w A al)) (hZ : Hid (Sl w Z zs)) :
    Calls Tryd.prog 5 #[gv P Q G, relV Y bn yc B bn bc, .slice X xn xc, .slice K kn kc, .int .u32 c, prvL A na ca C Z nz cz] w fun e' w' => e' = .returned (.bool true) ∧ Below w.heap.size w w' := by
  have HVG : Hid (validG P Q G = true) := Lib.hid (validR_parts HVL.out).1
  obtain ⟨hp2, hp, hq3, hqp⟩ := validG_P HVG.out
  have hr12 := (validR_parts HVL.out).2.2.2.2.2.2.1
  have hr1 := (validR_parts HVL.out).2.2.2.2.2.1
  have hb8 : bn ≤ 8 := by have := (validR_parts HVL.out).2.2.1; have := hyn.out; omega
  have HOK : Hid (∀ i, i < rows.length → (rows.getD i noRow).xs.length = (rows.getD i noRow).n) := Lib.hid (fun i hi => (hB.out i hi).2.1)
  have d1 : decide ((30 : Int) < (xn : Int)) = false := by simp; omega
  have d2 : decide ((30 : Int) < (kn : Int)) = false := by simp; omega
  obtain ⟨hb, hhb⟩ : ∃ b, holdsB P Q G ys rows xs = b := ⟨_, rfl⟩
  obtain ⟨kb, hkb⟩ : ∃ b, ks.all (scB Q) = b := ⟨_, rfl⟩
  have HHB := Lib.hid hhb
  have HKB := Lib.hid hkb
  clear hhb hkb
  obtain ⟨w0, hW⟩ : ∃ W, (((w.alloc (gObj P Q G)).alloc (relO Y bn yc B bn bc)).alloc (prObjL A na ca C Z nz cz)) = W := ⟨_, rfl⟩
  have HBw : Hid (Below w.heap.size w w0) := Lib.hid (by rw [← hW]; exact (((Below.refl _ _).alloc (Nat.le_refl _) _).alloc (by simp) _).alloc (by simp; omega) _)
  have hc : w0.cell? ⟨w.heap.size, 0, none⟩ = some (.int .i64 P) ∧ w0.cell? ⟨w.heap.size, 1, none⟩ = some (.int .i64 Q) ∧ w0.cell? ⟨w.heap.size, 2, none⟩ = some (.int .i64 G) ∧ w0.cell? ⟨w.heap.size + 1, 0, none⟩ = some (.slice Y bn yc) ∧ w0.cell? ⟨w.heap.size + 1, 1, none⟩ = some (.slice B bn bc) ∧ w0.cell? ⟨w.heap.size + 2, 0, none⟩ = some (.slice A na ca) ∧ w0.cell? ⟨w.heap.size + 2, 1, none⟩ = some (.int .i64 C) ∧ w0.cell? ⟨w.heap.size + 2, 2, none⟩ = some (.slice Z nz cz) := by rw [← hW]; exact ⟨cell_below (cell_below (allocs_cell (by simp) (by rfl)) (below_box0 _ _)) (below_box0 _ _), cell_below (cell_below (allocs_cell (by simp) (by rfl)) (below_box0 _ _)) (below_box0 _ _), cell_below (cell_below (allocs_cell (by simp) (by rfl)) (below_box0 _ _)) (below_box0 _ _), cell_below (allocs_cell (by simp) (by rfl)) (below_box0 _ _), cell_below (allocs_cell (by simp) (by rfl)) (below_box0 _ _), allocs_cell (by simp) (by rfl), allocs_cell (by simp) (by rfl), allocs_cell (by simp) (by rfl)⟩
  have kC := Lib.hid (show ∀ u : World, Hid (Below w0.heap.size w0 u) → u.cell? ⟨w.heap.size, 0, none⟩ = some (.int .i64 P) ∧ u.cell? ⟨w.heap.size, 1, none⟩ = some (.int .i64 Q) ∧ u.cell? ⟨w.heap.size, 2, none⟩ = some (.int .i64 G) ∧ u.cell? ⟨w.heap.size + 1, 0, none⟩ = some (.slice Y bn yc) ∧ u.cell? ⟨w.heap.size + 1, 1, none⟩ = some (.slice B bn bc) ∧ u.cell? ⟨w.heap.size + 2, 0, none⟩ = some (.slice A na ca) ∧ u.cell? ⟨w.heap.size + 2, 1, none⟩ = some (.int .i64 C) ∧ u.cell? ⟨w.heap.size + 2, 2, none⟩ = some (.slice Z nz cz) from fun u h => ⟨cell_below hc.1 h.out, cell_below hc.2.1 h.out, cell_below hc.2.2.1 h.out, cell_below hc.2.2.2.1 h.out, cell_below hc.2.2.2.2.1 h.out, cell_below hc.2.2.2.2.2.1 h.out, cell_below hc.2.2.2.2.2.2.1 h.out, cell_below hc.2.2.2.2.2.2.2 h.out⟩)
  have kV := Lib.hid (show ∀ u : World, Hid (Below w0.heap.size w0 u) → Hid (Vars u) from fun u h => Lib.hid ((hv.out.below) (below_ext HBw.out h.out)))
  have kY := Lib.hid (show ∀ u : World, Hid (Below w0.heap.size w0 u) → Hid (Sl u Y ys) from fun u h => Lib.hid ((hY.out.below) (below_ext HBw.out h.out)))
  have kB := Lib.hid (show ∀ u : World, Hid (Below w0.heap.size w0 u) → Hid (Rw u B rows) from fun u h => Lib.hid ((hB.out.below) (below_ext HBw.out h.out)))
  have kX := Lib.hid (show ∀ u : World, Hid (Below w0.heap.size w0 u) → Hid (Sl u X xs) from fun u h => Lib.hid ((hX.out.below) (below_ext HBw.out h.out)))
  have kK := Lib.hid (show ∀ u : World, Hid (Below w0.heap.size w0 u) → Hid (Sl u K ks) from fun u h => Lib.hid ((hK.out.below) (below_ext HBw.out h.out)))
  have kA := Lib.hid (show ∀ u : World, Hid (Below w0.heap.size w0 u) → Hid (Sl u A al) from fun u h => Lib.hid ((hA.out.below) (below_ext HBw.out h.out)))
  have kZ := Lib.hid (show ∀ u : World, Hid (Below w0.heap.size w0 u) → Hid (Sl u Z zs) from fun u h => Lib.hid ((hZ.out.below) (below_ext HBw.out h.out)))
  have HB_0 : Hid (Below w0.heap.size w0 w0) := Lib.hid (Below.refl _ _)
  have HW := Lib.hid hW
  clear hW hc hv hY hB hX hK hA hZ
  go_enter Tryd.func5, Tryd.ntmps5
  go_wp2_with fail
  rw [HW.out]
  obtain ⟨zc0, zc1, zc2, zc3, zc4, zc5, zc6, zc7⟩ := kC.out _ HB_0
  go_wp2_with fail
  refine (awake17 _ (kV.out _ HB_0)).mono ?_
  rintro e w1 ⟨rfl, hb0⟩
  have HB_1 := Lib.hid (below_ext HB_0.out hb0)
  clear zc0 zc1 zc2 zc3 zc4 zc5 zc6 zc7
  clear hb0
  obtain ⟨zc0, zc1, zc2, zc3, zc4, zc5, zc6, zc7⟩ := kC.out _ HB_1
  go_wp2_with fail
  refine (few_any Y bn yc B rows bn bc true HF hbn _ (kB.out _ HB_1)).mono ?_
  rintro e w2 ⟨rfl, hb0⟩
  have HB_2 := Lib.hid (below_ext HB_1.out hb0)
  clear zc0 zc1 zc2 zc3 zc4 zc5 zc6 zc7
  clear hb0
  obtain ⟨zc0, zc1, zc2, zc3, zc4, zc5, zc6, zc7⟩ := kC.out _ HB_2
  go_wp2_with fail
  refine (short_any A na ca C Z nz cz true HS _).mono ?_
  rintro e w3 ⟨rfl, hb0⟩
  have HB_3 := Lib.hid (below_ext HB_2.out hb0)
  clear zc0 zc1 zc2 zc3 zc4 zc5 zc6 zc7
  clear hb0
  obtain ⟨zc0, zc1, zc2, zc3, zc4, zc5, zc6, zc7⟩ := kC.out _ HB_3
  go_wp2_with fail
  refine (rvalid17_any P Q G Y ys bn yc B rows bn bc true HVL hyn hbn hQ _ (kY.out _ HB_3) (kB.out _ HB_3)).mono ?_
  rintro e w4 ⟨rfl, hb0⟩
  have HB_4 := Lib.hid (below_ext HB_3.out hb0)
  clear zc0 zc1 zc2 zc3 zc4 zc5 zc6 zc7
  clear hb0
  obtain ⟨zc0, zc1, zc2, zc3, zc4, zc5, zc6, zc7⟩ := kC.out _ HB_4
  go_wp2_with fail
  refine (lcheckp_any P Q G Y ys bn yc B rows bc A al na ca C Z zs nz cz HVL hyn hbn han hzn (by omega) (by omega) hQ false HCB _ (kV.out _ HB_4) (kY.out _ HB_4) (kB.out _ HB_4) (kA.out _ HB_4) (kZ.out _ HB_4)).mono ?_
  rintro e w5 ⟨rfl, hb0⟩
  have HB_5 := Lib.hid (below_ext HB_4.out hb0)
  clear zc0 zc1 zc2 zc3 zc4 zc5 zc6 zc7
  clear hb0
  obtain ⟨zc0, zc1, zc2, zc3, zc4, zc5, zc6, zc7⟩ := kC.out _ HB_5
  go_wp2_with fail
  refine (rholds_any P Q G Y ys bn yc B rows bn bc X xs xn xc hb HHB hyn hbn hxn (by omega) hQ _ (kY.out _ HB_5) (kB.out _ HB_5) (kX.out _ HB_5)).mono ?_
  rintro e w6 ⟨rfl, hb0⟩
  have HB_6 := Lib.hid (below_ext HB_5.out hb0)
  clear zc0 zc1 zc2 zc3 zc4 zc5 zc6 zc7
  clear hb0
  obtain ⟨zc0, zc1, zc2, zc3, zc4, zc5, zc6, zc7⟩ := kC.out _ HB_6
  cases hb with
  | false =>
    have hbF := below_ext HBw.out HB_6.out
    go_wp2
    go_ret
    exact ⟨rfl, hbF⟩
  | true =>
    by_cases heq : kn = xn
    · skip
      have e1 : ((kn : Int) != (xn : Int)) = false := by simp; omega
      have HEQ := Lib.hid heq
      clear heq
      go_wp2_with fail
      refine (rscalars_any P Q G K ks kn kc kb HKB hkn (by omega) _ (kK.out _ HB_6)).mono ?_
      rintro e w7 ⟨rfl, hb0⟩
      have HB_7 := Lib.hid (below_ext HB_6.out hb0)
      clear zc0 zc1 zc2 zc3 zc4 zc5 zc6 zc7
      clear hb0
      obtain ⟨zc0, zc1, zc2, zc3, zc4, zc5, zc6, zc7⟩ := kC.out _ HB_7
      cases kb with
      | false =>
        have hbF := below_ext HBw.out HB_7.out
        go_wp2
        go_ret
        exact ⟨rfl, hbF⟩
      | true =>
        obtain ⟨m1, m2, m3, m4⟩ := holdsB_parts HHB.out
        have HM4 := Lib.hid m4
        have HM3 := Lib.hid m3
        have HM2 := Lib.hid m2
        have HCK : Hid (chkR P Q G ys rows ks [] = 0) := Lib.hid (chkR_ok m1 (by rw [hkn.out, HEQ.out, ← hxn.out]; exact m2) HKB.out rfl)
        have HLX : Hid (xs.length = kn) := Lib.hid (hxn.out.trans HEQ.out.symm)
        have hxk : kn = xn := HEQ.out
        clear m1 m2 m3 m4
        subst hxk
        obtain ⟨n, hem⟩ : ∃ n, c % Q = n := ⟨_, rfl⟩
        have hn0 : 0 ≤ n := by rw [← hem]; exact Int.emod_nonneg _ (by omega)
        have hn1 : n < Q := by rw [← hem]; exact Int.emod_lt_of_pos _ (by omega)
        have htm : c.tmod Q = n := by rw [Int.tmod_eq_emod_of_nonneg (by omega), hem]
        have hwc : IntKind.i64.wrap c = c := IntWalk.i64_in _ (by omega)
        have hwn : IntKind.i64.wrap n = n := IntWalk.i64_in _ (by omega)
        have hQn : ¬ (Q = 0) := by omega
        have hQz : ((Q : Int) == 0) = false := by simp; omega
        have HKL : Hid (rowN rows = kn) := Lib.hid (HM2.out.symm.trans HLX.out)
        go_wp2_with fail
        refine (lcommit_ok P Q G Y ys bn yc B rows bn bc K ks kn kc HCK hyn hbn hkn (by omega) hQ _ (kV.out _ HB_7) (kY.out _ HB_7) (kB.out _ HB_7) (kK.out _ HB_7)).mono ?_
        rintro e w8 ⟨v, rfl, ho, hb0⟩
        have HB_8 := Lib.hid (below_ext HB_7.out hb0)
        clear zc0 zc1 zc2 zc3 zc4 zc5 zc6 zc7
        clear hb0
        obtain ⟨zc0, zc1, zc2, zc3, zc4, zc5, zc6, zc7⟩ := kC.out _ HB_8
        clear hem htm hwc hwn hQn hQz
        have HB_w8_8 : Hid (Below w8.heap.size w8 w8) := Lib.hid (Below.refl _ _)
        obtain ⟨A3, c3, hv3, ha3, _⟩ := OwnL.sl ho
        rw [List.length_map, hbn.out] at hv3
        subst hv3
        have HA3 := Lib.hid ha3
        clear ho ha3
        have kA3 := Lib.hid (show ∀ u : World, Hid (Below w8.heap.size w8 u) → Hid (Sl u A3 (rows.map fun r => prodF P 1 r.xs ks)) from fun u h => Lib.hid (HA3.out.below h.out))
        go_wp2_with fail
        refine (lrespond_ok P Q G K ks kn kc n X xs xc HVG hkn HLX (by have := HKL.out; omega) (by have := HKL.out; omega) HKB HM3 hn0 hn1 hQ _ (kV.out _ HB_8) (kK.out _ HB_8) (kX.out _ HB_8)).mono ?_
        rintro e w9 ⟨v4, rfl, ho, hb0⟩
        have HB_9 := Lib.hid (below_ext HB_8.out hb0)
        have HB_w8_9 := Lib.hid (below_ext HB_w8_8.out hb0)
        clear zc0 zc1 zc2 zc3 zc4 zc5 zc6 zc7
        clear hb0
        obtain ⟨zc0, zc1, zc2, zc3, zc4, zc5, zc6, zc7⟩ := kC.out _ HB_9
        have HB_w9_9 : Hid (Below w9.heap.size w9 w9) := Lib.hid (Below.refl _ _)
        obtain ⟨Z4, c4, hv4, hz4, _⟩ := OwnL.sl ho
        rw [rspL_length] at hv4
        subst hv4
        have HZ4 := Lib.hid hz4
        clear ho hz4
        have kZ4 := Lib.hid (show ∀ u : World, Hid (Below w9.heap.size w9 u) → Hid (Sl u Z4 (rspL Q n ks xs kn)) from fun u h => Lib.hid (HZ4.out.below h.out))
        have HCS : Hid (chkR P Q G ys rows (rspL Q n ks xs kn) [n] = 0) := Lib.hid (chkR_ok HVL.out (by rw [rspL_length]; exact HKL.out.symm) (rspL_all (by omega)) (scB_one hn0 hn1))
        have HRL : Hid ((rspL Q n ks xs kn).length = kn) := Lib.hid (rspL_length _ _ _ _ _)
        go_wp2_with fail
        refine (lsimul_ok P Q G Y ys yc B rows bn bc n Z4 (rspL Q n ks xs kn) kn c4 HCS hn0 hn1 hyn hbn HRL (by omega) hQ _ (kV.out _ HB_9) (kY.out _ HB_9) (kB.out _ HB_9) (kZ4.out _ HB_w9_9)).mono ?_
        rintro e w10 ⟨A5, ca5, Z5, cz5, rfl, hA5, hZ5, hb0⟩
        have HB_10 := Lib.hid (below_ext HB_9.out hb0)
        have HB_w8_10 := Lib.hid (below_ext HB_w8_9.out hb0)
        have HB_w9_10 := Lib.hid (below_ext HB_w9_9.out hb0)
        clear zc0 zc1 zc2 zc3 zc4 zc5 zc6 zc7
        clear hb0
        obtain ⟨zc0, zc1, zc2, zc3, zc4, zc5, zc6, zc7⟩ := kC.out _ HB_10
        have HB_w10_10 : Hid (Below w10.heap.size w10 w10) := Lib.hid (Below.refl _ _)
        have HA5 := Lib.hid hA5
        have HZ5 := Lib.hid hZ5
        clear hA5 hZ5
        have kA5 := Lib.hid (show ∀ u : World, Hid (Below w10.heap.size w10 u) → Hid (Sl u A5 (simR P Q n ys rows (rspL Q n ks xs kn))) from fun u h => Lib.hid (HA5.out.below h.out))
        have kZ5 := Lib.hid (show ∀ u : World, Hid (Below w10.heap.size w10 u) → Hid (Sl u Z5 (rspL Q n ks xs kn)) from fun u h => Lib.hid (HZ5.out.below h.out))
        have eN : ((n : Int) == n) = true := by simp
        have hq := below_box0 w10 (prObjL A5 bn ca5 n Z5 kn cz5)
        have HB_11 := Lib.hid (below_ext HB_10.out hq)
        have HB_w8_11 := Lib.hid (below_ext HB_w8_10.out hq)
        have HB_w9_11 := Lib.hid (below_ext HB_w9_10.out hq)
        have HB_w10_11 := Lib.hid (below_ext HB_w10_10.out hq)
        have hc : (w10.alloc (prObjL A5 bn ca5 n Z5 kn cz5)).cell? ⟨w10.heap.size, 0, none⟩ = some (.slice A5 bn ca5) ∧ (w10.alloc (prObjL A5 bn ca5 n Z5 kn cz5)).cell? ⟨w10.heap.size, 1, none⟩ = some (.int .i64 n) ∧ (w10.alloc (prObjL A5 bn ca5 n Z5 kn cz5)).cell? ⟨w10.heap.size, 2, none⟩ = some (.slice Z5 kn cz5) := ⟨allocs_cell rfl (by rfl), allocs_cell rfl (by rfl), allocs_cell rfl (by rfl)⟩
        have HC11 := Lib.hid hc
        clear zc0 zc1 zc2 zc3 zc4 zc5 zc6 zc7
        clear hq
        obtain ⟨zc0, zc1, zc2, zc3, zc4, zc5, zc6, zc7⟩ := kC.out _ HB_11
        obtain ⟨zq0, zq1, zq2⟩ := hc
        go_wp2_with fail
        obtain ⟨w11, hw⟩ : ∃ x, (w10.alloc (prObjL A5 bn ca5 n Z5 kn cz5)) = x := ⟨_, rfl⟩
        rw [hw] at HC11 HB_11 HB_w8_11 HB_w9_11 HB_w10_11 ⊢
        clear zc0 zc1 zc2 zc3 zc4 zc5 zc6 zc7 zq0 zq1 zq2
        clear hw
        have HB_w11_11 : Hid (Below w11.heap.size w11 w11) := Lib.hid (Below.refl _ _)
        have kS5 := Lib.hid (show ∀ u : World, Hid (Below w11.heap.size w11 u) → u.cell? ⟨w10.heap.size, 0, none⟩ = some (.slice A5 bn ca5) ∧ u.cell? ⟨w10.heap.size, 1, none⟩ = some (.int .i64 n) ∧ u.cell? ⟨w10.heap.size, 2, none⟩ = some (.slice Z5 kn cz5) from fun u h => ⟨cell_below HC11.out.1 h.out, cell_below HC11.out.2.1 h.out, cell_below HC11.out.2.2 h.out⟩)
        obtain ⟨zc0, zc1, zc2, zc3, zc4, zc5, zc6, zc7⟩ := kC.out _ HB_11
        obtain ⟨kS5_0, kS5_1, kS5_2⟩ := kS5.out _ HB_w11_11
        have HEQS : Hid ((simR P Q n ys rows (rspL Q n ks xs kn) == rows.map fun r => prodF P 1 r.xs ks) = true) := Lib.hid (by rw [zero_sim HVL.out HKL.out hn0 hn1 hkn.out HLX.out HKB.out HM3.out HM4.out HOK.out]; simp)
        go_wp2_with fail
        refine (eqs_any A5 (simR P Q n ys rows (rspL Q n ks xs kn)) bn ca5 A3 (rows.map fun r => prodF P 1 r.xs ks) bn c3 true HEQS (Lib.hid (by rw [simR_length]; exact hbn.out)) (Lib.hid (by rw [List.length_map]; exact hbn.out)) (by omega) (by omega) _ (kA5.out _ HB_w10_11) (kA3.out _ HB_w8_11)).mono ?_
        rintro e w12 ⟨rfl, hb0⟩
        have HB_12 := Lib.hid (below_ext HB_11.out hb0)
        have HB_w8_12 := Lib.hid (below_ext HB_w8_11.out hb0)
        have HB_w9_12 := Lib.hid (below_ext HB_w9_11.out hb0)
        have HB_w10_12 := Lib.hid (below_ext HB_w10_11.out hb0)
        have HB_w11_12 := Lib.hid (below_ext HB_w11_11.out hb0)
        clear zc0 zc1 zc2 zc3 zc4 zc5 zc6 zc7 kS5_0 kS5_1 kS5_2
        clear hb0
        obtain ⟨zc0, zc1, zc2, zc3, zc4, zc5, zc6, zc7⟩ := kC.out _ HB_12
        obtain ⟨kS5_0, kS5_1, kS5_2⟩ := kS5.out _ HB_w11_12
        go_wp2_with fail
        refine (eqs_any Z5 (rspL Q n ks xs kn) kn cz5 Z4 (rspL Q n ks xs kn) kn c4 true (Lib.hid (by simp)) HRL HRL (by omega) (by omega) _ (kZ5.out _ HB_w10_12) (kZ4.out _ HB_w9_12)).mono ?_
        rintro e w13 ⟨rfl, hb0⟩
        have HB_13 := Lib.hid (below_ext HB_12.out hb0)
        have HB_w8_13 := Lib.hid (below_ext HB_w8_12.out hb0)
        have HB_w9_13 := Lib.hid (below_ext HB_w9_12.out hb0)
        have HB_w10_13 := Lib.hid (below_ext HB_w10_12.out hb0)
        have HB_w11_13 := Lib.hid (below_ext HB_w11_12.out hb0)
        clear zc0 zc1 zc2 zc3 zc4 zc5 zc6 zc7 kS5_0 kS5_1 kS5_2
        clear hb0
        obtain ⟨zc0, zc1, zc2, zc3, zc4, zc5, zc6, zc7⟩ := kC.out _ HB_13
        obtain ⟨kS5_0, kS5_1, kS5_2⟩ := kS5.out _ HB_w11_13
        have hbF := below_ext HBw.out HB_13.out
        go_wp2
        go_ret
        exact ⟨rfl, hbF⟩
    · skip
      have e1 : ((kn : Int) != (xn : Int)) = true := by simp; omega
      have hbF := below_ext HBw.out HB_6.out
      go_wp2
      go_ret
      exact ⟨rfl, hbF⟩

set_option maxHeartbeats 25600000 in
theorem lz_true' (P Q G : Int) (Y : Option Addr) (ys : List Int) (yc : Nat) (B : Option Addr) (rows : List Row) (bn bc : Nat) (X : Option Addr) (xs : List Int) (xn xc : Nat) (K : Option Addr) (ks : List Int) (kn kc : Nat) (c : Int) (A : Option Addr) (al : List Int) (na ca : Nat) (C : Int) (Z : Option Addr) (zs : List Int) (nz cz : Nat) (hyn : Hid (ys.length = bn)) (hbn : Hid (rows.length = bn)) (hxn : Hid (xs.length = xn)) (hkn : Hid (ks.length = kn)) (han : Hid (al.length = na)) (hzn : Hid (zs.length = nz)) (hQ : Q < 9223372036854775808) (HVL : Hid (validR P Q G ys rows = true)) (HF : Hid (fewB bn bn rows = true)) (hk30 : kn ≤ 30) (hx30 : xn ≤ 30) (hna : na ≤ 30) (hnz : nz ≤ 30) (HS : Hid ((decide (na ≤ 30) && decide (nz ≤ 30)) = true)) (hcl : 0 ≤ c) (hch : c ≤ 4294967295) (HCB : Hid (checkB P Q C ys rows al zs = true)) (w : World) (hv : Hid (Vars w)) (hY : Hid (Sl w Y ys)) (hB : Hid (Rw w B rows)) (hX : Hid (Sl w X xs)) (hK : Hid (Sl w K ks)) (hA : Hid (Sl w A al)) (hZ : Hid (Sl w Z zs)) :
    Calls Tryd.prog 5 #[gv P Q G, relV Y bn yc B bn bc, .slice X xn xc, .slice K kn kc, .int .u32 c, prvL A na ca C Z nz cz] w fun e' w' => e' = .returned (.bool true) ∧ Below w.heap.size w w' := by
  have HVG : Hid (validG P Q G = true) := Lib.hid (validR_parts HVL.out).1
  obtain ⟨hp2, hp, hq3, hqp⟩ := validG_P HVG.out
  have hr12 := (validR_parts HVL.out).2.2.2.2.2.2.1
  have hr1 := (validR_parts HVL.out).2.2.2.2.2.1
  have hb8 : bn ≤ 8 := by have := (validR_parts HVL.out).2.2.1; have := hyn.out; omega
  have HOK : Hid (∀ i, i < rows.length → (rows.getD i noRow).xs.length = (rows.getD i noRow).n) := Lib.hid (fun i hi => (hB.out i hi).2.1)
  have d1 : decide ((30 : Int) < (xn : Int)) = false := by simp; omega
  have d2 : decide ((30 : Int) < (kn : Int)) = false := by simp; omega
  obtain ⟨hb, hhb⟩ : ∃ b, holdsB P Q G ys rows xs = b := ⟨_, rfl⟩
  obtain ⟨kb, hkb⟩ : ∃ b, ks.all (scB Q) = b := ⟨_, rfl⟩
  have HHB := Lib.hid hhb
  have HKB := Lib.hid hkb
  clear hhb hkb
  obtain ⟨y1, y2, y3, y4, y5⟩ := checkB_parts HCB.out
  have HCC : Hid (chkR P Q G ys rows zs [C] = 0) := Lib.hid (chkR_ok HVL.out y2 y4 (by simpa using y3))
  have hC0 := scB_lo y3
  have hC1 := scB_hi y3
  have HSA := Lib.hid y5
  obtain rfl : bn = na := by rw [← hbn.out, ← han.out]; exact y1.symm
  have eC : ((C : Int) == C) = true := by simp
  clear y1 y2 y3 y4 y5
  obtain ⟨w0, hW⟩ : ∃ W, (((w.alloc (gObj P Q G)).alloc (relO Y bn yc B bn bc)).alloc (prObjL A bn ca C Z nz cz)) = W := ⟨_, rfl⟩
  have HBw : Hid (Below w.heap.size w w0) := Lib.hid (by rw [← hW]; exact (((Below.refl _ _).alloc (Nat.le_refl _) _).alloc (by simp) _).alloc (by simp; omega) _)
  have hc : w0.cell? ⟨w.heap.size, 0, none⟩ = some (.int .i64 P) ∧ w0.cell? ⟨w.heap.size, 1, none⟩ = some (.int .i64 Q) ∧ w0.cell? ⟨w.heap.size, 2, none⟩ = some (.int .i64 G) ∧ w0.cell? ⟨w.heap.size + 1, 0, none⟩ = some (.slice Y bn yc) ∧ w0.cell? ⟨w.heap.size + 1, 1, none⟩ = some (.slice B bn bc) ∧ w0.cell? ⟨w.heap.size + 2, 0, none⟩ = some (.slice A bn ca) ∧ w0.cell? ⟨w.heap.size + 2, 1, none⟩ = some (.int .i64 C) ∧ w0.cell? ⟨w.heap.size + 2, 2, none⟩ = some (.slice Z nz cz) := by rw [← hW]; exact ⟨cell_below (cell_below (allocs_cell (by simp) (by rfl)) (below_box0 _ _)) (below_box0 _ _), cell_below (cell_below (allocs_cell (by simp) (by rfl)) (below_box0 _ _)) (below_box0 _ _), cell_below (cell_below (allocs_cell (by simp) (by rfl)) (below_box0 _ _)) (below_box0 _ _), cell_below (allocs_cell (by simp) (by rfl)) (below_box0 _ _), cell_below (allocs_cell (by simp) (by rfl)) (below_box0 _ _), allocs_cell (by simp) (by rfl), allocs_cell (by simp) (by rfl), allocs_cell (by simp) (by rfl)⟩
  have kC := Lib.hid (show ∀ u : World, Hid (Below w0.heap.size w0 u) → u.cell? ⟨w.heap.size, 0, none⟩ = some (.int .i64 P) ∧ u.cell? ⟨w.heap.size, 1, none⟩ = some (.int .i64 Q) ∧ u.cell? ⟨w.heap.size, 2, none⟩ = some (.int .i64 G) ∧ u.cell? ⟨w.heap.size + 1, 0, none⟩ = some (.slice Y bn yc) ∧ u.cell? ⟨w.heap.size + 1, 1, none⟩ = some (.slice B bn bc) ∧ u.cell? ⟨w.heap.size + 2, 0, none⟩ = some (.slice A bn ca) ∧ u.cell? ⟨w.heap.size + 2, 1, none⟩ = some (.int .i64 C) ∧ u.cell? ⟨w.heap.size + 2, 2, none⟩ = some (.slice Z nz cz) from fun u h => ⟨cell_below hc.1 h.out, cell_below hc.2.1 h.out, cell_below hc.2.2.1 h.out, cell_below hc.2.2.2.1 h.out, cell_below hc.2.2.2.2.1 h.out, cell_below hc.2.2.2.2.2.1 h.out, cell_below hc.2.2.2.2.2.2.1 h.out, cell_below hc.2.2.2.2.2.2.2 h.out⟩)
  have kV := Lib.hid (show ∀ u : World, Hid (Below w0.heap.size w0 u) → Hid (Vars u) from fun u h => Lib.hid ((hv.out.below) (below_ext HBw.out h.out)))
  have kY := Lib.hid (show ∀ u : World, Hid (Below w0.heap.size w0 u) → Hid (Sl u Y ys) from fun u h => Lib.hid ((hY.out.below) (below_ext HBw.out h.out)))
  have kB := Lib.hid (show ∀ u : World, Hid (Below w0.heap.size w0 u) → Hid (Rw u B rows) from fun u h => Lib.hid ((hB.out.below) (below_ext HBw.out h.out)))
  have kX := Lib.hid (show ∀ u : World, Hid (Below w0.heap.size w0 u) → Hid (Sl u X xs) from fun u h => Lib.hid ((hX.out.below) (below_ext HBw.out h.out)))
  have kK := Lib.hid (show ∀ u : World, Hid (Below w0.heap.size w0 u) → Hid (Sl u K ks) from fun u h => Lib.hid ((hK.out.below) (below_ext HBw.out h.out)))
  have kA := Lib.hid (show ∀ u : World, Hid (Below w0.heap.size w0 u) → Hid (Sl u A al) from fun u h => Lib.hid ((hA.out.below) (below_ext HBw.out h.out)))
  have kZ := Lib.hid (show ∀ u : World, Hid (Below w0.heap.size w0 u) → Hid (Sl u Z zs) from fun u h => Lib.hid ((hZ.out.below) (below_ext HBw.out h.out)))
  have HB_0 : Hid (Below w0.heap.size w0 w0) := Lib.hid (Below.refl _ _)
  have HW := Lib.hid hW
  clear hW hc hv hY hB hX hK hA hZ
  go_enter Tryd.func5, Tryd.ntmps5
  go_wp2_with fail
  rw [HW.out]
  obtain ⟨zc0, zc1, zc2, zc3, zc4, zc5, zc6, zc7⟩ := kC.out _ HB_0
  go_wp2_with fail
  refine (awake17 _ (kV.out _ HB_0)).mono ?_
  rintro e w1 ⟨rfl, hb0⟩
  have HB_1 := Lib.hid (below_ext HB_0.out hb0)
  clear zc0 zc1 zc2 zc3 zc4 zc5 zc6 zc7
  clear hb0
  obtain ⟨zc0, zc1, zc2, zc3, zc4, zc5, zc6, zc7⟩ := kC.out _ HB_1
  go_wp2_with fail
  refine (few_any Y bn yc B rows bn bc true HF hbn _ (kB.out _ HB_1)).mono ?_
  rintro e w2 ⟨rfl, hb0⟩
  have HB_2 := Lib.hid (below_ext HB_1.out hb0)
  clear zc0 zc1 zc2 zc3 zc4 zc5 zc6 zc7
  clear hb0
  obtain ⟨zc0, zc1, zc2, zc3, zc4, zc5, zc6, zc7⟩ := kC.out _ HB_2
  go_wp2_with fail
  refine (short_any A bn ca C Z nz cz true HS _).mono ?_
  rintro e w3 ⟨rfl, hb0⟩
  have HB_3 := Lib.hid (below_ext HB_2.out hb0)
  clear zc0 zc1 zc2 zc3 zc4 zc5 zc6 zc7
  clear hb0
  obtain ⟨zc0, zc1, zc2, zc3, zc4, zc5, zc6, zc7⟩ := kC.out _ HB_3
  go_wp2_with fail
  refine (rvalid17_any P Q G Y ys bn yc B rows bn bc true HVL hyn hbn hQ _ (kY.out _ HB_3) (kB.out _ HB_3)).mono ?_
  rintro e w4 ⟨rfl, hb0⟩
  have HB_4 := Lib.hid (below_ext HB_3.out hb0)
  clear zc0 zc1 zc2 zc3 zc4 zc5 zc6 zc7
  clear hb0
  obtain ⟨zc0, zc1, zc2, zc3, zc4, zc5, zc6, zc7⟩ := kC.out _ HB_4
  go_wp2_with fail
  refine (lcheckp_any P Q G Y ys bn yc B rows bc A al bn ca C Z zs nz cz HVL hyn hbn han hzn (by omega) (by omega) hQ true HCB _ (kV.out _ HB_4) (kY.out _ HB_4) (kB.out _ HB_4) (kA.out _ HB_4) (kZ.out _ HB_4)).mono ?_
  rintro e w5 ⟨rfl, hb0⟩
  have HB_5 := Lib.hid (below_ext HB_4.out hb0)
  clear zc0 zc1 zc2 zc3 zc4 zc5 zc6 zc7
  clear hb0
  obtain ⟨zc0, zc1, zc2, zc3, zc4, zc5, zc6, zc7⟩ := kC.out _ HB_5
  go_wp2_with fail
  refine (lsimul_ok P Q G Y ys yc B rows bn bc C Z zs nz cz HCC hC0 hC1 hyn hbn hzn (by omega) hQ _ (kV.out _ HB_5) (kY.out _ HB_5) (kB.out _ HB_5) (kZ.out _ HB_5)).mono ?_
  rintro e w6 ⟨A1, ca1, Z1, cz1, rfl, hA1, hZ1, hb0⟩
  have HB_6 := Lib.hid (below_ext HB_5.out hb0)
  clear zc0 zc1 zc2 zc3 zc4 zc5 zc6 zc7
  clear hb0
  obtain ⟨zc0, zc1, zc2, zc3, zc4, zc5, zc6, zc7⟩ := kC.out _ HB_6
  have HB_w6_6 : Hid (Below w6.heap.size w6 w6) := Lib.hid (Below.refl _ _)
  rw [HSA.out] at hA1
  have HA1 := Lib.hid hA1
  have HZ1 := Lib.hid hZ1
  clear hA1 hZ1
  have kA1 := Lib.hid (show ∀ u : World, Hid (Below w6.heap.size w6 u) → Hid (Sl u A1 al) from fun u h => Lib.hid (HA1.out.below h.out))
  have kZ1 := Lib.hid (show ∀ u : World, Hid (Below w6.heap.size w6 u) → Hid (Sl u Z1 zs) from fun u h => Lib.hid (HZ1.out.below h.out))
  have hq := below_box0 w6 (prObjL A1 bn ca1 C Z1 nz cz1)
  have HB_7 := Lib.hid (below_ext HB_6.out hq)
  have HB_w6_7 := Lib.hid (below_ext HB_w6_6.out hq)
  have hc : (w6.alloc (prObjL A1 bn ca1 C Z1 nz cz1)).cell? ⟨w6.heap.size, 0, none⟩ = some (.slice A1 bn ca1) ∧ (w6.alloc (prObjL A1 bn ca1 C Z1 nz cz1)).cell? ⟨w6.heap.size, 1, none⟩ = some (.int .i64 C) ∧ (w6.alloc (prObjL A1 bn ca1 C Z1 nz cz1)).cell? ⟨w6.heap.size, 2, none⟩ = some (.slice Z1 nz cz1) := ⟨allocs_cell rfl (by rfl), allocs_cell rfl (by rfl), allocs_cell rfl (by rfl)⟩
  have HC7 := Lib.hid hc
  clear zc0 zc1 zc2 zc3 zc4 zc5 zc6 zc7
  clear hq
  obtain ⟨zc0, zc1, zc2, zc3, zc4, zc5, zc6, zc7⟩ := kC.out _ HB_7
  obtain ⟨zq0, zq1, zq2⟩ := hc
  go_wp2_with fail
  obtain ⟨w7, hw⟩ : ∃ x, (w6.alloc (prObjL A1 bn ca1 C Z1 nz cz1)) = x := ⟨_, rfl⟩
  rw [hw] at HC7 HB_7 HB_w6_7 ⊢
  clear zc0 zc1 zc2 zc3 zc4 zc5 zc6 zc7 zq0 zq1 zq2
  clear hw
  have HB_w7_7 : Hid (Below w7.heap.size w7 w7) := Lib.hid (Below.refl _ _)
  have kS1 := Lib.hid (show ∀ u : World, Hid (Below w7.heap.size w7 u) → u.cell? ⟨w6.heap.size, 0, none⟩ = some (.slice A1 bn ca1) ∧ u.cell? ⟨w6.heap.size, 1, none⟩ = some (.int .i64 C) ∧ u.cell? ⟨w6.heap.size, 2, none⟩ = some (.slice Z1 nz cz1) from fun u h => ⟨cell_below HC7.out.1 h.out, cell_below HC7.out.2.1 h.out, cell_below HC7.out.2.2 h.out⟩)
  obtain ⟨zc0, zc1, zc2, zc3, zc4, zc5, zc6, zc7⟩ := kC.out _ HB_7
  obtain ⟨kS1_0, kS1_1, kS1_2⟩ := kS1.out _ HB_w7_7
  go_wp2_with fail
  refine (rsamep_true A1 ca1 Z1 cz1 A ca Z cz al bn C zs nz han hzn (by omega) (by omega) _ (kA1.out _ HB_w6_7) (kZ1.out _ HB_w6_7) (kA.out _ HB_7) (kZ.out _ HB_7)).mono ?_
  rintro e w8 ⟨rfl, hb0⟩
  have HB_8 := Lib.hid (below_ext HB_7.out hb0)
  have HB_w6_8 := Lib.hid (below_ext HB_w6_7.out hb0)
  have HB_w7_8 := Lib.hid (below_ext HB_w7_7.out hb0)
  clear zc0 zc1 zc2 zc3 zc4 zc5 zc6 zc7 kS1_0 kS1_1 kS1_2
  clear hb0
  obtain ⟨zc0, zc1, zc2, zc3, zc4, zc5, zc6, zc7⟩ := kC.out _ HB_8
  obtain ⟨kS1_0, kS1_1, kS1_2⟩ := kS1.out _ HB_w7_8
  go_wp2_with fail
  refine (rholds_any P Q G Y ys bn yc B rows bn bc X xs xn xc hb HHB hyn hbn hxn (by omega) hQ _ (kY.out _ HB_8) (kB.out _ HB_8) (kX.out _ HB_8)).mono ?_
  rintro e w9 ⟨rfl, hb0⟩
  have HB_9 := Lib.hid (below_ext HB_8.out hb0)
  have HB_w6_9 := Lib.hid (below_ext HB_w6_8.out hb0)
  have HB_w7_9 := Lib.hid (below_ext HB_w7_8.out hb0)
  clear zc0 zc1 zc2 zc3 zc4 zc5 zc6 zc7 kS1_0 kS1_1 kS1_2
  clear hb0
  obtain ⟨zc0, zc1, zc2, zc3, zc4, zc5, zc6, zc7⟩ := kC.out _ HB_9
  obtain ⟨kS1_0, kS1_1, kS1_2⟩ := kS1.out _ HB_w7_9
  cases hb with
  | false =>
    have hbF := below_ext HBw.out HB_9.out
    go_wp2
    go_ret
    exact ⟨rfl, hbF⟩
  | true =>
    by_cases heq : kn = xn
    · skip
      have e1 : ((kn : Int) != (xn : Int)) = false := by simp; omega
      have HEQ := Lib.hid heq
      clear heq
      go_wp2_with fail
      refine (rscalars_any P Q G K ks kn kc kb HKB hkn (by omega) _ (kK.out _ HB_9)).mono ?_
      rintro e w10 ⟨rfl, hb0⟩
      have HB_10 := Lib.hid (below_ext HB_9.out hb0)
      have HB_w6_10 := Lib.hid (below_ext HB_w6_9.out hb0)
      have HB_w7_10 := Lib.hid (below_ext HB_w7_9.out hb0)
      clear zc0 zc1 zc2 zc3 zc4 zc5 zc6 zc7 kS1_0 kS1_1 kS1_2
      clear hb0
      obtain ⟨zc0, zc1, zc2, zc3, zc4, zc5, zc6, zc7⟩ := kC.out _ HB_10
      obtain ⟨kS1_0, kS1_1, kS1_2⟩ := kS1.out _ HB_w7_10
      cases kb with
      | false =>
        have hbF := below_ext HBw.out HB_10.out
        go_wp2
        go_ret
        exact ⟨rfl, hbF⟩
      | true =>
        obtain ⟨m1, m2, m3, m4⟩ := holdsB_parts HHB.out
        have HM4 := Lib.hid m4
        have HM3 := Lib.hid m3
        have HM2 := Lib.hid m2
        have HCK : Hid (chkR P Q G ys rows ks [] = 0) := Lib.hid (chkR_ok m1 (by rw [hkn.out, HEQ.out, ← hxn.out]; exact m2) HKB.out rfl)
        have HLX : Hid (xs.length = kn) := Lib.hid (hxn.out.trans HEQ.out.symm)
        have hxk : kn = xn := HEQ.out
        clear m1 m2 m3 m4
        subst hxk
        obtain ⟨n, hem⟩ : ∃ n, c % Q = n := ⟨_, rfl⟩
        have hn0 : 0 ≤ n := by rw [← hem]; exact Int.emod_nonneg _ (by omega)
        have hn1 : n < Q := by rw [← hem]; exact Int.emod_lt_of_pos _ (by omega)
        have htm : c.tmod Q = n := by rw [Int.tmod_eq_emod_of_nonneg (by omega), hem]
        have hwc : IntKind.i64.wrap c = c := IntWalk.i64_in _ (by omega)
        have hwn : IntKind.i64.wrap n = n := IntWalk.i64_in _ (by omega)
        have hQn : ¬ (Q = 0) := by omega
        have hQz : ((Q : Int) == 0) = false := by simp; omega
        have HKL : Hid (rowN rows = kn) := Lib.hid (HM2.out.symm.trans HLX.out)
        go_wp2_with fail
        refine (lcommit_ok P Q G Y ys bn yc B rows bn bc K ks kn kc HCK hyn hbn hkn (by omega) hQ _ (kV.out _ HB_10) (kY.out _ HB_10) (kB.out _ HB_10) (kK.out _ HB_10)).mono ?_
        rintro e w11 ⟨v, rfl, ho, hb0⟩
        have HB_11 := Lib.hid (below_ext HB_10.out hb0)
        have HB_w6_11 := Lib.hid (below_ext HB_w6_10.out hb0)
        have HB_w7_11 := Lib.hid (below_ext HB_w7_10.out hb0)
        clear zc0 zc1 zc2 zc3 zc4 zc5 zc6 zc7 kS1_0 kS1_1 kS1_2
        clear hb0
        obtain ⟨zc0, zc1, zc2, zc3, zc4, zc5, zc6, zc7⟩ := kC.out _ HB_11
        obtain ⟨kS1_0, kS1_1, kS1_2⟩ := kS1.out _ HB_w7_11
        clear hem htm hwc hwn hQn hQz
        have HB_w11_11 : Hid (Below w11.heap.size w11 w11) := Lib.hid (Below.refl _ _)
        obtain ⟨A3, c3, hv3, ha3, _⟩ := OwnL.sl ho
        rw [List.length_map, hbn.out] at hv3
        subst hv3
        have HA3 := Lib.hid ha3
        clear ho ha3
        have kA3 := Lib.hid (show ∀ u : World, Hid (Below w11.heap.size w11 u) → Hid (Sl u A3 (rows.map fun r => prodF P 1 r.xs ks)) from fun u h => Lib.hid (HA3.out.below h.out))
        go_wp2_with fail
        refine (lrespond_ok P Q G K ks kn kc n X xs xc HVG hkn HLX (by have := HKL.out; omega) (by have := HKL.out; omega) HKB HM3 hn0 hn1 hQ _ (kV.out _ HB_11) (kK.out _ HB_11) (kX.out _ HB_11)).mono ?_
        rintro e w12 ⟨v4, rfl, ho, hb0⟩
        have HB_12 := Lib.hid (below_ext HB_11.out hb0)
        have HB_w6_12 := Lib.hid (below_ext HB_w6_11.out hb0)
        have HB_w7_12 := Lib.hid (below_ext HB_w7_11.out hb0)
        have HB_w11_12 := Lib.hid (below_ext HB_w11_11.out hb0)
        clear zc0 zc1 zc2 zc3 zc4 zc5 zc6 zc7 kS1_0 kS1_1 kS1_2
        clear hb0
        obtain ⟨zc0, zc1, zc2, zc3, zc4, zc5, zc6, zc7⟩ := kC.out _ HB_12
        obtain ⟨kS1_0, kS1_1, kS1_2⟩ := kS1.out _ HB_w7_12
        have HB_w12_12 : Hid (Below w12.heap.size w12 w12) := Lib.hid (Below.refl _ _)
        obtain ⟨Z4, c4, hv4, hz4, _⟩ := OwnL.sl ho
        rw [rspL_length] at hv4
        subst hv4
        have HZ4 := Lib.hid hz4
        clear ho hz4
        have kZ4 := Lib.hid (show ∀ u : World, Hid (Below w12.heap.size w12 u) → Hid (Sl u Z4 (rspL Q n ks xs kn)) from fun u h => Lib.hid (HZ4.out.below h.out))
        have HCS : Hid (chkR P Q G ys rows (rspL Q n ks xs kn) [n] = 0) := Lib.hid (chkR_ok HVL.out (by rw [rspL_length]; exact HKL.out.symm) (rspL_all (by omega)) (scB_one hn0 hn1))
        have HRL : Hid ((rspL Q n ks xs kn).length = kn) := Lib.hid (rspL_length _ _ _ _ _)
        go_wp2_with fail
        refine (lsimul_ok P Q G Y ys yc B rows bn bc n Z4 (rspL Q n ks xs kn) kn c4 HCS hn0 hn1 hyn hbn HRL (by omega) hQ _ (kV.out _ HB_12) (kY.out _ HB_12) (kB.out _ HB_12) (kZ4.out _ HB_w12_12)).mono ?_
        rintro e w13 ⟨A5, ca5, Z5, cz5, rfl, hA5, hZ5, hb0⟩
        have HB_13 := Lib.hid (below_ext HB_12.out hb0)
        have HB_w6_13 := Lib.hid (below_ext HB_w6_12.out hb0)
        have HB_w7_13 := Lib.hid (below_ext HB_w7_12.out hb0)
        have HB_w11_13 := Lib.hid (below_ext HB_w11_12.out hb0)
        have HB_w12_13 := Lib.hid (below_ext HB_w12_12.out hb0)
        clear zc0 zc1 zc2 zc3 zc4 zc5 zc6 zc7 kS1_0 kS1_1 kS1_2
        clear hb0
        obtain ⟨zc0, zc1, zc2, zc3, zc4, zc5, zc6, zc7⟩ := kC.out _ HB_13
        obtain ⟨kS1_0, kS1_1, kS1_2⟩ := kS1.out _ HB_w7_13
        have HB_w13_13 : Hid (Below w13.heap.size w13 w13) := Lib.hid (Below.refl _ _)
        have HA5 := Lib.hid hA5
        have HZ5 := Lib.hid hZ5
        clear hA5 hZ5
        have kA5 := Lib.hid (show ∀ u : World, Hid (Below w13.heap.size w13 u) → Hid (Sl u A5 (simR P Q n ys rows (rspL Q n ks xs kn))) from fun u h => Lib.hid (HA5.out.below h.out))
        have kZ5 := Lib.hid (show ∀ u : World, Hid (Below w13.heap.size w13 u) → Hid (Sl u Z5 (rspL Q n ks xs kn)) from fun u h => Lib.hid (HZ5.out.below h.out))
        have eN : ((n : Int) == n) = true := by simp
        have hq := below_box0 w13 (prObjL A5 bn ca5 n Z5 kn cz5)
        have HB_14 := Lib.hid (below_ext HB_13.out hq)
        have HB_w6_14 := Lib.hid (below_ext HB_w6_13.out hq)
        have HB_w7_14 := Lib.hid (below_ext HB_w7_13.out hq)
        have HB_w11_14 := Lib.hid (below_ext HB_w11_13.out hq)
        have HB_w12_14 := Lib.hid (below_ext HB_w12_13.out hq)
        have HB_w13_14 := Lib.hid (below_ext HB_w13_13.out hq)
        have hc : (w13.alloc (prObjL A5 bn ca5 n Z5 kn cz5)).cell? ⟨w13.heap.size, 0, none⟩ = some (.slice A5 bn ca5) ∧ (w13.alloc (prObjL A5 bn ca5 n Z5 kn cz5)).cell? ⟨w13.heap.size, 1, none⟩ = some (.int .i64 n) ∧ (w13.alloc (prObjL A5 bn ca5 n Z5 kn cz5)).cell? ⟨w13.heap.size, 2, none⟩ = some (.slice Z5 kn cz5) := ⟨allocs_cell rfl (by rfl), allocs_cell rfl (by rfl), allocs_cell rfl (by rfl)⟩
        have HC14 := Lib.hid hc
        clear zc0 zc1 zc2 zc3 zc4 zc5 zc6 zc7 kS1_0 kS1_1 kS1_2
        clear hq
        obtain ⟨zc0, zc1, zc2, zc3, zc4, zc5, zc6, zc7⟩ := kC.out _ HB_14
        obtain ⟨kS1_0, kS1_1, kS1_2⟩ := kS1.out _ HB_w7_14
        obtain ⟨zq0, zq1, zq2⟩ := hc
        go_wp2_with fail
        obtain ⟨w14, hw⟩ : ∃ x, (w13.alloc (prObjL A5 bn ca5 n Z5 kn cz5)) = x := ⟨_, rfl⟩
        rw [hw] at HC14 HB_14 HB_w6_14 HB_w7_14 HB_w11_14 HB_w12_14 HB_w13_14 ⊢
        clear zc0 zc1 zc2 zc3 zc4 zc5 zc6 zc7 kS1_0 kS1_1 kS1_2 zq0 zq1 zq2
        clear hw
        have HB_w14_14 : Hid (Below w14.heap.size w14 w14) := Lib.hid (Below.refl _ _)
        have kS5 := Lib.hid (show ∀ u : World, Hid (Below w14.heap.size w14 u) → u.cell? ⟨w13.heap.size, 0, none⟩ = some (.slice A5 bn ca5) ∧ u.cell? ⟨w13.heap.size, 1, none⟩ = some (.int .i64 n) ∧ u.cell? ⟨w13.heap.size, 2, none⟩ = some (.slice Z5 kn cz5) from fun u h => ⟨cell_below HC14.out.1 h.out, cell_below HC14.out.2.1 h.out, cell_below HC14.out.2.2 h.out⟩)
        obtain ⟨zc0, zc1, zc2, zc3, zc4, zc5, zc6, zc7⟩ := kC.out _ HB_14
        obtain ⟨kS1_0, kS1_1, kS1_2⟩ := kS1.out _ HB_w7_14
        obtain ⟨kS5_0, kS5_1, kS5_2⟩ := kS5.out _ HB_w14_14
        have HEQS : Hid ((simR P Q n ys rows (rspL Q n ks xs kn) == rows.map fun r => prodF P 1 r.xs ks) = true) := Lib.hid (by rw [zero_sim HVL.out HKL.out hn0 hn1 hkn.out HLX.out HKB.out HM3.out HM4.out HOK.out]; simp)
        go_wp2_with fail
        refine (eqs_any A5 (simR P Q n ys rows (rspL Q n ks xs kn)) bn ca5 A3 (rows.map fun r => prodF P 1 r.xs ks) bn c3 true HEQS (Lib.hid (by rw [simR_length]; exact hbn.out)) (Lib.hid (by rw [List.length_map]; exact hbn.out)) (by omega) (by omega) _ (kA5.out _ HB_w13_14) (kA3.out _ HB_w11_14)).mono ?_
        rintro e w15 ⟨rfl, hb0⟩
        have HB_15 := Lib.hid (below_ext HB_14.out hb0)
        have HB_w6_15 := Lib.hid (below_ext HB_w6_14.out hb0)
        have HB_w7_15 := Lib.hid (below_ext HB_w7_14.out hb0)
        have HB_w11_15 := Lib.hid (below_ext HB_w11_14.out hb0)
        have HB_w12_15 := Lib.hid (below_ext HB_w12_14.out hb0)
        have HB_w13_15 := Lib.hid (below_ext HB_w13_14.out hb0)
        have HB_w14_15 := Lib.hid (below_ext HB_w14_14.out hb0)
        clear zc0 zc1 zc2 zc3 zc4 zc5 zc6 zc7 kS1_0 kS1_1 kS1_2 kS5_0 kS5_1 kS5_2
        clear hb0
        obtain ⟨zc0, zc1, zc2, zc3, zc4, zc5, zc6, zc7⟩ := kC.out _ HB_15
        obtain ⟨kS1_0, kS1_1, kS1_2⟩ := kS1.out _ HB_w7_15
        obtain ⟨kS5_0, kS5_1, kS5_2⟩ := kS5.out _ HB_w14_15
        go_wp2_with fail
        refine (eqs_any Z5 (rspL Q n ks xs kn) kn cz5 Z4 (rspL Q n ks xs kn) kn c4 true (Lib.hid (by simp)) HRL HRL (by omega) (by omega) _ (kZ5.out _ HB_w13_15) (kZ4.out _ HB_w12_15)).mono ?_
        rintro e w16 ⟨rfl, hb0⟩
        have HB_16 := Lib.hid (below_ext HB_15.out hb0)
        have HB_w6_16 := Lib.hid (below_ext HB_w6_15.out hb0)
        have HB_w7_16 := Lib.hid (below_ext HB_w7_15.out hb0)
        have HB_w11_16 := Lib.hid (below_ext HB_w11_15.out hb0)
        have HB_w12_16 := Lib.hid (below_ext HB_w12_15.out hb0)
        have HB_w13_16 := Lib.hid (below_ext HB_w13_15.out hb0)
        have HB_w14_16 := Lib.hid (below_ext HB_w14_15.out hb0)
        clear zc0 zc1 zc2 zc3 zc4 zc5 zc6 zc7 kS1_0 kS1_1 kS1_2 kS5_0 kS5_1 kS5_2
        clear hb0
        obtain ⟨zc0, zc1, zc2, zc3, zc4, zc5, zc6, zc7⟩ := kC.out _ HB_16
        obtain ⟨kS1_0, kS1_1, kS1_2⟩ := kS1.out _ HB_w7_16
        obtain ⟨kS5_0, kS5_1, kS5_2⟩ := kS5.out _ HB_w14_16
        have hbF := below_ext HBw.out HB_16.out
        go_wp2
        go_ret
        exact ⟨rfl, hbF⟩
    · skip
      have e1 : ((kn : Int) != (xn : Int)) = true := by simp; omega
      have hbF := below_ext HBw.out HB_9.out
      go_wp2
      go_ret
      exact ⟨rfl, hbF⟩

/-- THE LAW: true for every input. -/
theorem lz_true (P Q G : Int) (Y : Option Addr) (ys : List Int) (yn yc : Nat) (B : Option Addr) (rows : List Row) (bn bc : Nat) (X : Option Addr) (xs : List Int) (xn xc : Nat) (K : Option Addr) (ks : List Int) (kn kc : Nat) (c : Int) (A : Option Addr) (al : List Int) (na ca : Nat) (C : Int) (Z : Option Addr) (zs : List Int) (nz cz : Nat) (hyn : Hid (ys.length = yn)) (hbn : Hid (rows.length = bn)) (hxn : Hid (xs.length = xn)) (hkn : Hid (ks.length = kn)) (han : Hid (al.length = na)) (hzn : Hid (zs.length = nz)) (hQ : Q < 9223372036854775808) (hcl : 0 ≤ c) (hch : c ≤ 4294967295) (w : World) (hv : Hid (Vars w)) (hY : Hid (Sl w Y ys)) (hB : Hid (Rw w B rows)) (hX : Hid (Sl w X xs)) (hK : Hid (Sl w K ks)) (hA : Hid (Sl w A al)) (hZ : Hid (Sl w Z zs)) :
    Calls Tryd.prog 5 #[gv P Q G, relV Y yn yc B bn bc, .slice X xn xc, .slice K kn kc, .int .u32 c, prvL A na ca C Z nz cz] w fun e' w' => e' = .returned (.bool true) ∧ Below w.heap.size w w' := by
  obtain ⟨fb, hf⟩ : ∃ b, fewB yn bn rows = b := ⟨_, rfl⟩
  obtain ⟨sb, hs⟩ : ∃ b, (decide (na ≤ 30) && decide (nz ≤ 30)) = b := ⟨_, rfl⟩
  obtain ⟨vb, hvb⟩ : ∃ b, validR P Q G ys rows = b := ⟨_, rfl⟩
  by_cases hne : fb = false ∨ 30 < kn ∨ 30 < xn ∨ sb = false ∨ vb = false
  · exact lz_early P Q G Y ys yn yc B rows bn bc X xs xn xc K ks kn kc c A al na ca C Z zs nz cz hyn hbn hxn hkn han hzn hQ fb (Lib.hid hf) sb (Lib.hid hs) vb (Lib.hid hvb) hne w hv hY hB hX hK hA hZ
  · obtain ⟨n1, n2⟩ := not_or.1 hne
    obtain ⟨n2, n3⟩ := not_or.1 n2
    obtain ⟨n3, n4⟩ := not_or.1 n3
    obtain ⟨n4, n5⟩ := not_or.1 n4
    have e1 : fb = true := by simpa using n1
    have e4 : sb = true := by simpa using n4
    have e5 : vb = true := by simpa using n5
    rw [e1] at hf
    rw [e4] at hs
    rw [e5] at hvb
    simp only [Bool.and_eq_true, decide_eq_true_eq] at hs
    have hs2 : (decide (na ≤ 30) && decide (nz ≤ 30)) = true := by rw [decide_eq_true hs.1, decide_eq_true hs.2]; rfl
    obtain rfl : bn = yn := by rw [← hbn.out, ← hyn.out]; exact (validR_parts hvb).2.2.2.1
    cases hcb : checkB P Q C ys rows al zs with
    | false => exact lz_false P Q G Y ys yc B rows bn bc X xs xn xc K ks kn kc c A al na ca C Z zs nz cz hyn hbn hxn hkn han hzn hQ (Lib.hid hvb) (Lib.hid hf) (by omega) (by omega) hs.1 hs.2 (Lib.hid hs2) hcl hch (Lib.hid hcb) w hv hY hB hX hK hA hZ
    | true => exact lz_true' P Q G Y ys yc B rows bn bc X xs xn xc K ks kn kc c A al na ca C Z zs nz cz hyn hbn hxn hkn han hzn hQ (Lib.hid hvb) (Lib.hid hf) (by omega) (by omega) hs.1 hs.2 (Lib.hid hs2) hcl hch (Lib.hid hcb) w hv hY hB hX hK hA hZ
end Go.Proofs.YtijedphpcocfnaaDoor
