/- Contracts and lemmas: LinI, LinJ, LinK, LinM, LinO, LinP, LinQ, LinS. -/
import Derived.Test.YtcmidgdhihmppaaGreatDoorCk4
namespace Go.Proofs.YtcmidgdhihmppaaGreatDoor
open Go.RowKit SpM
set_option linter.unusedVariables false
set_option linter.unusedSimpArgs false
set_option maxRecDepth 100000
theorem allR_step {f : Row → Bool} {xs : List Row} {k : Nat} (hk : k < xs.length) : (xs.drop k).all f = (f (xs.getD k noRow) && (xs.drop (k + 1)).all f) := by
  rw [List.drop_eq_getElem_cons hk, List.all_cons, List.getD_eq_getElem?_getD, List.getElem?_eq_getElem hk]
  rfl
theorem allI_step {f : Int → Bool} {xs : List Int} {k : Nat} (hk : k < xs.length) : (xs.drop k).all f = (f (xs.getD k 0) && (xs.drop (k + 1)).all f) := by
  rw [List.drop_eq_getElem_cons hk, List.all_cons, List.getD_eq_getElem?_getD, List.getElem?_eq_getElem hk]
  rfl
/-- what is left to be tested from k on. -/
def leftV (P Q : Int) (n : Nat) (ys : List Int) (rows : List Row) (k : Nat) : Bool := (ys.drop k).all (memG P Q) && (rows.drop k).all (rowB P Q n)
theorem leftV_step {P Q : Int} {n : Nat} {ys : List Int} {rows : List Row} {k : Nat} (hk : k < ys.length) (hr : k < rows.length) :
    leftV P Q n ys rows k = (memG P Q (ys.getD k 0) && (rowB P Q n (rows.getD k noRow) && leftV P Q n ys rows (k + 1))) := by
  rw [leftV, allI_step hk, allR_step hr, leftV]
  cases memG P Q (ys.getD k 0) <;> cases rowB P Q n (rows.getD k noRow) <;> simp
set_option maxHeartbeats 12800000 in
theorem rvloop17 (P Q G : Int) (Y : Option Addr) (ys : List Int) (yn yc : Nat) (B : Option Addr) (rows : List Row) (bc n0 : Nat) (r : Bool) (HG : Hid (validG P Q G = true)) (hr : Hid (leftV P Q n0 ys rows 0 = r)) (hn : Hid (rowN rows = n0)) (hyn : Hid (ys.length = yn)) (hbn : Hid (rows.length = yn))
    (h1 : 1 ≤ yn) (h2 : yn ≤ 8) (h3 : 1 ≤ n0) (h4 : n0 ≤ 12) (hQ : Q < 9223372036854775808) (w : World) (hY : Hid (Sl w Y ys)) (hB : Hid (Rw w B rows)) :
    Calls Tryz.prog 49 #[gv P Q G, relV Y yn yc B yn bc] w fun e' w' => e' = .returned (.bool r) ∧ Below w.heap.size w w' := by
  obtain ⟨hp2, hp, hq3, hqp⟩ := validG_P HG.out
  obtain ⟨b, o, rfl⟩ := hB.out.some (by rw [hbn.out]; omega)
  obtain ⟨b1, o1, rfl, _⟩ := hY.out 0 (by rw [hyn.out]; omega)
  obtain ⟨w0, hW⟩ : ∃ W, (w.alloc (gObj P Q G)).alloc (relO (some ⟨b1, o1, none⟩) yn yc (some ⟨b, o, none⟩) yn bc) = W := ⟨_, rfl⟩
  have HBw : Hid (Below w.heap.size w w0) := Lib.hid (by rw [← hW]; exact below_two (Below.refl _ _))
  have HX0 : Hid (GBox w0 w.heap.size P Q G) := Lib.hid (by rw [← hW]; exact (gbox_alloc w P Q G).below (below_box0 _ _))
  have HR0 : Hid (RBox w0 (w.heap.size + 1) (.slice (some ⟨b1, o1, none⟩) yn yc) (.slice (some ⟨b, o, none⟩) yn bc)) := Lib.hid (by rw [← hW]; exact rbox_alloc1 _ _ _ _ _)
  have HY0 := Lib.hid (hY.out.below HBw.out)
  have HA0 := Lib.hid (hB.out.below HBw.out)
  have HW := Lib.hid hW
  have d1 : decide ((yn : Int) < 1) = false := by simp; omega
  have d2 : decide ((8 : Int) < (yn : Int)) = false := by simp; omega
  have d3 : decide ((n0 : Int) < 1) = false := by simp; omega
  have d4 : decide ((12 : Int) < (n0 : Int)) = false := by simp; omega
  clear hW hY hB
  go_enter Tryz.func49, Tryz.ntmps49
  go_wp2_with fail
  rw [HW.out]
  refine (rvalid_any P Q G true HG hQ _).mono ?_
  rintro e w1 ⟨rfl, hb0⟩
  have hb1 := below_ext HBw.out hb0
  have HX1 := Lib.hid (HX0.out.below hb0)
  have HR1 := Lib.hid (HR0.out.below hb0)
  have HY1 := Lib.hid (HY0.out.below hb0)
  have HA1 := Lib.hid (HA0.out.below hb0)
  clear hb0
  obtain ⟨d5, d6⟩ := HR1.out
  obtain ⟨c0, c1, c2⟩ := HX1.out
  go_wp2_with fail
  refine (runknowns_any (some ⟨b1, o1, none⟩) yn yc (some ⟨b, o, none⟩) rows yn bc n0 hbn (by omega) hn _ HA1).mono ?_
  rintro e W ⟨rfl, hb0⟩
  have HBW := Lib.hid (below_ext hb1 hb0)
  have HXW := Lib.hid (HX1.out.below hb0)
  have HRW := Lib.hid (HR1.out.below hb0)
  have HYW := Lib.hid (HY1.out.below hb0)
  have HAW := Lib.hid (HA1.out.below hb0)
  clear hb0 d5 d6 c0 c1 c2
  go_wp2
  go_loopw [6] (fun i wr => ∃ k : Nat, k ≤ yn ∧ i = .int .i64 k ∧ Hid (leftV P Q n0 ys rows k = r) ∧ Hid (Below W.heap.size W wr)) (fun i _ => yn - (intOf i).toNat)
  case atStart => exact ⟨0, by omega, rfl, hr, Lib.hid (Below.refl _ _)⟩
  case round =>
    obtain ⟨k, hk, rfl, HV_, HBr⟩ := hrel
    obtain ⟨wo, rfl⟩ : ∃ wo : World, wo = wr := ⟨_, rfl⟩
    obtain ⟨d5, d6⟩ := HRW.out.below HBr.out
    by_cases hlt : k < yn
    · have hkl : k < ys.length := by rw [hyn.out]; exact hlt
      have hkr : k < rows.length := by rw [hbn.out]; exact hlt
      obtain ⟨bb, oo, e1, hi0⟩ := HYW.out k hkl
      cases e1
      have hrow := HAW.out.at hkr
      have hok := (HAW.out k hkr).2
      have hst := leftV_step (P := P) (Q := Q) (n := n0) hkl hkr
      rw [HV_.out] at hst
      obtain ⟨y, hy⟩ : ∃ x, ys.getD k 0 = x := ⟨_, rfl⟩
      obtain ⟨R, hR⟩ : ∃ R, rows.getD k noRow = R := ⟨_, rfl⟩
      rw [hy] at hi0 hst
      rw [hR] at hrow hok hst
      obtain ⟨p, rn, rc, xs⟩ := R
      dsimp only [Row.val] at hrow
      have HI0 := Lib.hid hi0
      have HI1 := Lib.hid hrow
      have HL := Lib.hid hok.1
      have HS := Lib.hid hok.2
      have hS := Lib.hid (show ∀ u1 : World, Below W.heap.size W u1 → (u1.cell? ⟨w.heap.size, 0, none⟩ = some (.int .i64 P) ∧ u1.cell? ⟨w.heap.size, 1, none⟩ = some (.int .i64 Q) ∧ u1.cell? ⟨w.heap.size, 2, none⟩ = some (.int .i64 G) ∧ u1.cell? ⟨w.heap.size + 1, 0, none⟩ = some (.slice (some ⟨b1, o1, none⟩) yn yc) ∧ u1.cell? ⟨w.heap.size + 1, 1, none⟩ = some (.slice (some ⟨b, o, none⟩) yn bc) ∧ u1.cell? ⟨b1, o1 + k, none⟩ = some (.int .i64 y) ∧ u1.cell? ⟨b, o + k, none⟩ = some (.slice p rn rc) ∧ Hid (Below W.heap.size W u1)) from fun u1 h1 => ⟨(HXW.out.below h1).1, (HXW.out.below h1).2.1, (HXW.out.below h1).2.2, (HRW.out.below h1).1, (HRW.out.below h1).2, cell_below HI0.out h1, cell_below HI1.out h1, Lib.hid h1⟩)
      clear hi0 hrow hok hy hR hkl hkr
      cases hmy : memG P Q y with
      | false =>
        rw [hmy, Bool.false_and] at hst
        obtain rfl : r = false := hst
        have HM := Lib.hid hmy
        clear hmy HV_
        go_wp2
        refine wp_region_held_drew (S := fun w' => w'.cell? ⟨w.heap.size, 0, none⟩ = some (.int .i64 P) ∧ w'.cell? ⟨w.heap.size, 1, none⟩ = some (.int .i64 Q) ∧ w'.cell? ⟨w.heap.size, 2, none⟩ = some (.int .i64 G) ∧ w'.cell? ⟨w.heap.size + 1, 0, none⟩ = some (.slice (some ⟨b1, o1, none⟩) yn yc) ∧ w'.cell? ⟨w.heap.size + 1, 1, none⟩ = some (.slice (some ⟨b, o, none⟩) yn bc) ∧ w'.cell? ⟨b1, o1 + k, none⟩ = some (.int .i64 y) ∧ w'.cell? ⟨b, o + k, none⟩ = some (.slice p rn rc) ∧ Hid (Below W.heap.size W w')) (by kernel_rfl) (hS.out _ HBr.out.drew) (fun hHeld => ?_)
        refine wpAnyH_take (i := 0) (oi := _) (v := ?_) rfl (by kernel_rfl) (by kernel_rfl) (by kernel_rfl) (fun _ _ _ h => h) (Or.inl ⟨by rfl, ?_⟩) (by assumption) ?_
        rotate_left; (intro wS hSw; (try dsimp only at hSw); go_simp <;> with_reducible rfl)
        try simp only [List.getElem_toArray, List.getElem_cons_zero, List.getElem_cons_succ, Act.put, List.setIfInBounds_toArray, List.set_cons_zero, List.set_cons_succ]
        refine wpAnyH_take (i := 1) (oi := _) (v := ?_) rfl (by kernel_rfl) (by kernel_rfl) (by kernel_rfl) (fun _ _ _ h => h) (Or.inl ⟨by rfl, ?_⟩) (by assumption) ?_
        rotate_left; (intro wS hSw; (try dsimp only at hSw); go_simp <;> with_reducible rfl)
        try simp only [List.getElem_toArray, List.getElem_cons_zero, List.getElem_cons_succ, Act.put, List.setIfInBounds_toArray, List.set_cons_zero, List.set_cons_succ]
        refine wpAnyH_take (i := 2) (oi := _) (v := ?_) rfl (by kernel_rfl) (by kernel_rfl) (by kernel_rfl) (fun _ _ _ h => h) (Or.inl ⟨by rfl, ?_⟩) (by assumption) ?_
        rotate_left; (intro wS hSw; (try dsimp only at hSw); go_simp <;> with_reducible rfl)
        try simp only [List.getElem_toArray, List.getElem_cons_zero, List.getElem_cons_succ, Act.put, List.setIfInBounds_toArray, List.set_cons_zero, List.set_cons_succ]
        refine wpAnyH_take (i := 3) (oi := _) (v := ?_) rfl (by kernel_rfl) (by kernel_rfl) (by kernel_rfl) (fun _ _ _ h => h) (Or.inl ⟨by rfl, ?_⟩) (by assumption) ?_
        rotate_left; (intro wS hSw; (try dsimp only at hSw); go_simp <;> with_reducible rfl)
        try simp only [List.getElem_toArray, List.getElem_cons_zero, List.getElem_cons_succ, Act.put, List.setIfInBounds_toArray, List.set_cons_zero, List.set_cons_succ]
        refine wpAnyH_take (i := 4) (oi := _) (v := ?_) rfl (by kernel_rfl) (by kernel_rfl) (by kernel_rfl) (fun _ _ _ h => h) (Or.inl ⟨by rfl, ?_⟩) (by assumption) ?_
        rotate_left; (intro wS hSw; (try dsimp only at hSw); go_simp <;> with_reducible rfl)
        try simp only [List.getElem_toArray, List.getElem_cons_zero, List.getElem_cons_succ, Act.put, List.setIfInBounds_toArray, List.set_cons_zero, List.set_cons_succ]
        refine wpAnyH_take (i := 5) (oi := _) (v := ?_) rfl (by kernel_rfl) (by kernel_rfl) (by kernel_rfl) (fun _ _ _ h => h) (Or.inl ⟨by rfl, ?_⟩) (by assumption) ?_
        rotate_left; (intro wS hSw; (try dsimp only at hSw); go_simp <;> with_reducible rfl)
        try simp only [List.getElem_toArray, List.getElem_cons_zero, List.getElem_cons_succ, Act.put, List.setIfInBounds_toArray, List.set_cons_zero, List.set_cons_succ]
        refine wpAnyH_ready (rs := [6]) (by kernel_rfl) (by simp) ?_
        refine AllReadyH.cons rfl (fun K hK => ?_) AllReadyH.nil
        go_simp
        (with_reducible refine (rmember_any P Q G y false HM hp (by omega) hQ _).mono ?_); rintro e wA ⟨rfl, hbA⟩
        refine hK.out _ _ ?_ (fun hHeld => ?_)
        · (go_split_ands; exact hS.out _ (HBr.out.drew.trans (hbA.mono HBr.out.size)))
        clear hK K
        try simp only [List.getElem_toArray, List.getElem_cons_zero, List.getElem_cons_succ, Act.put, List.setIfInBounds_toArray, List.set_cons_zero, List.set_cons_succ]
        refine wpAnyH_take (i := 7) (oi := _) (v := ?_) rfl (by kernel_rfl) (by kernel_rfl) (by kernel_rfl) (fun _ _ _ h => h) (Or.inl ⟨by rfl, ?_⟩) (by assumption) ?_
        rotate_left; (intro wS hSw; (try dsimp only at hSw); go_simp <;> with_reducible rfl)
        try simp only [List.getElem_toArray, List.getElem_cons_zero, List.getElem_cons_succ, Act.put, List.setIfInBounds_toArray, List.set_cons_zero, List.set_cons_succ]
        refine wpAnyH_take (i := 8) (oi := _) (v := ?_) rfl (by kernel_rfl) (by kernel_rfl) (by kernel_rfl) (fun _ _ _ h => h) (Or.inl ⟨by rfl, ?_⟩) (by assumption) ?_
        rotate_left; (intro wS hSw; (try dsimp only at hSw); go_simp <;> with_reducible rfl)
        try simp only [List.getElem_toArray, List.getElem_cons_zero, List.getElem_cons_succ, Act.put, List.setIfInBounds_toArray, List.set_cons_zero, List.set_cons_succ]
        refine wpAnyH_take (i := 9) (oi := _) (v := undef) rfl (by kernel_rfl) (by kernel_rfl) (by kernel_rfl) (fun _ _ _ h => h) (Or.inr ⟨by rfl, rfl⟩) (by assumption) ?_
        try simp only [List.getElem_toArray, List.getElem_cons_zero, List.getElem_cons_succ, Act.put, List.setIfInBounds_toArray, List.set_cons_zero, List.set_cons_succ]
        refine wpAnyH_take (i := 10) (oi := _) (v := undef) rfl (by kernel_rfl) (by kernel_rfl) (by kernel_rfl) (fun _ _ _ h => h) (Or.inr ⟨by rfl, rfl⟩) (by assumption) ?_
        try simp only [List.getElem_toArray, List.getElem_cons_zero, List.getElem_cons_succ, Act.put, List.setIfInBounds_toArray, List.set_cons_zero, List.set_cons_succ]
        refine wpAnyH_take (i := 11) (oi := _) (v := undef) rfl (by kernel_rfl) (by kernel_rfl) (by kernel_rfl) (fun _ _ _ h => h) (Or.inr ⟨by rfl, rfl⟩) (by assumption) ?_
        try simp only [List.getElem_toArray, List.getElem_cons_zero, List.getElem_cons_succ, Act.put, List.setIfInBounds_toArray, List.set_cons_zero, List.set_cons_succ]
        refine wpAnyH_take (i := 12) (oi := _) (v := undef) rfl (by kernel_rfl) (by kernel_rfl) (by kernel_rfl) (fun _ _ _ h => h) (Or.inr ⟨by rfl, rfl⟩) (by assumption) ?_
        try simp only [List.getElem_toArray, List.getElem_cons_zero, List.getElem_cons_succ, Act.put, List.setIfInBounds_toArray, List.set_cons_zero, List.set_cons_succ]
        refine wpAnyH_take (i := 13) (oi := _) (v := undef) rfl (by kernel_rfl) (by kernel_rfl) (by kernel_rfl) (fun _ _ _ h => h) (Or.inr ⟨by rfl, rfl⟩) (by assumption) ?_
        try simp only [List.getElem_toArray, List.getElem_cons_zero, List.getElem_cons_succ, Act.put, List.setIfInBounds_toArray, List.set_cons_zero, List.set_cons_succ]
        refine wpAnyH_take (i := 14) (oi := _) (v := undef) rfl (by kernel_rfl) (by kernel_rfl) (by kernel_rfl) (fun _ _ _ h => h) (Or.inr ⟨by rfl, rfl⟩) (by assumption) ?_
        try simp only [List.getElem_toArray, List.getElem_cons_zero, List.getElem_cons_succ, Act.put, List.setIfInBounds_toArray, List.set_cons_zero, List.set_cons_succ]
        refine wpAnyH_take (i := 15) (oi := _) (v := undef) rfl (by kernel_rfl) (by kernel_rfl) (by kernel_rfl) (fun _ _ _ h => h) (Or.inr ⟨by rfl, rfl⟩) (by assumption) ?_
        try simp only [List.getElem_toArray, List.getElem_cons_zero, List.getElem_cons_succ, Act.put, List.setIfInBounds_toArray, List.set_cons_zero, List.set_cons_succ]
        refine wpAnyH_take (i := 16) (oi := _) (v := undef) rfl (by kernel_rfl) (by kernel_rfl) (by kernel_rfl) (fun _ _ _ h => h) (Or.inr ⟨by rfl, rfl⟩) (by assumption) ?_
        try simp only [List.getElem_toArray, List.getElem_cons_zero, List.getElem_cons_succ, Act.put, List.setIfInBounds_toArray, List.set_cons_zero, List.set_cons_succ]
        refine wpAnyH_take (i := 17) (oi := _) (v := ?_) rfl (by kernel_rfl) (by kernel_rfl) (by kernel_rfl) (fun _ _ _ h => h) (Or.inl ⟨by rfl, ?_⟩) (by assumption) ?_
        rotate_left; (intro wS hSw; (try dsimp only at hSw); go_simp <;> with_reducible rfl)
        try simp only [List.getElem_toArray, List.getElem_cons_zero, List.getElem_cons_succ, Act.put, List.setIfInBounds_toArray, List.set_cons_zero, List.set_cons_succ]
        refine wpAnyH_done (by kernel_rfl) ?_ _
        obtain ⟨x0, x1, x2, x3, x4, x5, x6, HBA⟩ := hHeld
        have hbF := below_ext HBW.out HBA.out
        go_wp2
        go_ret
        exact ⟨rfl, hbF⟩
      | true =>
        rw [hmy, Bool.true_and] at hst
        have HM := Lib.hid hmy
        clear hmy
        by_cases hne : rn = n0
        · subst hne
          have hneq : ((rn : Int) != (rn : Int)) = false := by simp
          obtain ⟨t, ht⟩ : ∃ t, xs.all (memG P Q) = t := ⟨_, rfl⟩
          have hrb : rowB P Q rn ⟨p, rn, rc, xs⟩ = t := by simp [rowB, ht]
          rw [hrb] at hst
          have HST := Lib.hid hst
          have HT : Hid ((xs.drop 0).all (memG P Q) = t) := Lib.hid (by rw [List.drop_zero]; exact ht)
          clear hst hrb ht HV_
          go_wp2
          go_region_held3 (fun w' => w'.cell? ⟨w.heap.size, 0, none⟩ = some (.int .i64 P) ∧ w'.cell? ⟨w.heap.size, 1, none⟩ = some (.int .i64 Q) ∧ w'.cell? ⟨w.heap.size, 2, none⟩ = some (.int .i64 G) ∧ w'.cell? ⟨w.heap.size + 1, 0, none⟩ = some (.slice (some ⟨b1, o1, none⟩) yn yc) ∧ w'.cell? ⟨w.heap.size + 1, 1, none⟩ = some (.slice (some ⟨b, o, none⟩) yn bc) ∧ w'.cell? ⟨b1, o1 + k, none⟩ = some (.int .i64 y) ∧ w'.cell? ⟨b, o + k, none⟩ = some (.slice p rn rc) ∧ Hid (Below W.heap.size W w'))
            (first | exact hS.out _ HBr.out.drew | (go_split_ands; exact hS.out _ (HBr.out.drew.trans (hbA.mono HBr.out.size))) | go_keep)
            ((first | (go_at_call 38; (with_reducible refine (rmember_any P Q G y true HM hp (by omega) hQ _).mono ?_); rintro e wA ⟨rfl, hbA⟩)))
          rename_i hHeld
          obtain ⟨x0, x1, x2, x3, x4, x5, x6, HBA⟩ := hHeld
          clear x0 x1 x2 x3 x4 x5 x6 hS HM hbA
          go_wp2
          go_loopw [7] (fun i wr => ∃ j : Nat, j ≤ rn ∧ i = .int .i64 j ∧ Hid ((xs.drop j).all (memG P Q) = t) ∧ Hid (Below W.heap.size W wr)) (fun i _ => rn - (intOf i).toNat)
          case atStart => exact ⟨0, by omega, rfl, HT, HBA⟩
          case round =>
            obtain ⟨j, hj, rfl, HJ, HBj⟩ := hrel
            obtain ⟨wi, rfl⟩ : ∃ wi : World, wi = wr := ⟨_, rfl⟩
            by_cases hjt : j < rn
            · have hjl : j < xs.length := by rw [HL.out]; exact hjt
              obtain ⟨b2, o2, e2, hi2⟩ := HS.out j hjl
              subst e2
              have hjs := allI_step (f := memG P Q) hjl
              rw [HJ.out] at hjs
              obtain ⟨x, hx⟩ : ∃ x, xs.getD j 0 = x := ⟨_, rfl⟩
              rw [hx] at hi2 hjs
              have HI2 := Lib.hid hi2
              have hS := Lib.hid (show ∀ u1 : World, Below W.heap.size W u1 → (u1.cell? ⟨w.heap.size, 0, none⟩ = some (.int .i64 P) ∧ u1.cell? ⟨w.heap.size, 1, none⟩ = some (.int .i64 Q) ∧ u1.cell? ⟨w.heap.size, 2, none⟩ = some (.int .i64 G) ∧ u1.cell? ⟨w.heap.size + 1, 0, none⟩ = some (.slice (some ⟨b1, o1, none⟩) yn yc) ∧ u1.cell? ⟨w.heap.size + 1, 1, none⟩ = some (.slice (some ⟨b, o, none⟩) yn bc) ∧ u1.cell? ⟨b, o + k, none⟩ = some (.slice (some ⟨b2, o2, none⟩) rn rc) ∧ u1.cell? ⟨b2, o2 + j, none⟩ = some (.int .i64 x) ∧ Hid (Below W.heap.size W u1)) from fun u1 h1 => ⟨(HXW.out.below h1).1, (HXW.out.below h1).2.1, (HXW.out.below h1).2.2, (HRW.out.below h1).1, (HRW.out.below h1).2, cell_below HI1.out h1, cell_below HI2.out h1, Lib.hid h1⟩)
              clear hi2 hx hjl
              cases hmx : memG P Q x with
              | false =>
                rw [hmx, Bool.false_and] at hjs
                obtain rfl : t = false := hjs
                obtain rfl : r = false := HST.out
                have HM := Lib.hid hmx
                clear hmx
                go_wp2
                go_region_held3 (fun w' => w'.cell? ⟨w.heap.size, 0, none⟩ = some (.int .i64 P) ∧ w'.cell? ⟨w.heap.size, 1, none⟩ = some (.int .i64 Q) ∧ w'.cell? ⟨w.heap.size, 2, none⟩ = some (.int .i64 G) ∧ w'.cell? ⟨w.heap.size + 1, 0, none⟩ = some (.slice (some ⟨b1, o1, none⟩) yn yc) ∧ w'.cell? ⟨w.heap.size + 1, 1, none⟩ = some (.slice (some ⟨b, o, none⟩) yn bc) ∧ w'.cell? ⟨b, o + k, none⟩ = some (.slice (some ⟨b2, o2, none⟩) rn rc) ∧ w'.cell? ⟨b2, o2 + j, none⟩ = some (.int .i64 x) ∧ Hid (Below W.heap.size W w'))
                  (first | exact hS.out _ HBj.out.drew | (go_split_ands; exact hS.out _ (HBj.out.drew.trans (hbA.mono HBj.out.size))) | go_keep)
                  ((first | (go_at_call 38; (with_reducible refine (rmember_any P Q G x false HM hp (by omega) hQ _).mono ?_); rintro e wA ⟨rfl, hbA⟩)))
                rename_i hHeld
                obtain ⟨x0, x1, x2, x3, x4, x5, x6, HBB⟩ := hHeld
                have hbF := below_ext HBW.out HBB.out
                clear x0 x1 x2 x3 x4 x5 x6
                go_wp2
                go_ret
                exact ⟨rfl, hbF⟩
              | true =>
                rw [hmx, Bool.true_and] at hjs
                have HJ2 := Lib.hid hjs.symm
                have HM := Lib.hid hmx
                clear hmx hjs HJ
                go_wp2
                go_region_held3 (fun w' => w'.cell? ⟨w.heap.size, 0, none⟩ = some (.int .i64 P) ∧ w'.cell? ⟨w.heap.size, 1, none⟩ = some (.int .i64 Q) ∧ w'.cell? ⟨w.heap.size, 2, none⟩ = some (.int .i64 G) ∧ w'.cell? ⟨w.heap.size + 1, 0, none⟩ = some (.slice (some ⟨b1, o1, none⟩) yn yc) ∧ w'.cell? ⟨w.heap.size + 1, 1, none⟩ = some (.slice (some ⟨b, o, none⟩) yn bc) ∧ w'.cell? ⟨b, o + k, none⟩ = some (.slice (some ⟨b2, o2, none⟩) rn rc) ∧ w'.cell? ⟨b2, o2 + j, none⟩ = some (.int .i64 x) ∧ Hid (Below W.heap.size W w'))
                  (first | exact hS.out _ HBj.out.drew | (go_split_ands; exact hS.out _ (HBj.out.drew.trans (hbA.mono HBj.out.size))) | go_keep)
                  ((first | (go_at_call 38; (with_reducible refine (rmember_any P Q G x true HM hp (by omega) hQ _).mono ?_); rintro e wA ⟨rfl, hbA⟩)))
                rename_i hHeld
                obtain ⟨x0, x1, x2, x3, x4, x5, x6, HBB⟩ := hHeld
                clear x0 x1 x2 x3 x4 x5 x6
                go_wp2
                go_roundw
                case rel => exact ⟨j + 1, by omega, by go_num, HJ2, HBB⟩
                case measure => simp [intOf]; omega
            · obtain rfl : j = rn := by omega
              obtain rfl : t = true := by rw [← HJ.out, ← HL.out, List.drop_length]; rfl
              have HV2 : Hid (leftV P Q j ys rows (k + 1) = r) := Lib.hid (by have h9 := HST.out; rw [Bool.true_and] at h9; exact h9.symm)
              clear HJ hjt
              go_wp2
              go_roundw
              case rel => exact ⟨k + 1, by omega, by go_num, HV2, HBj⟩
              case measure => simp [intOf]; omega
        · have hrb : rowB P Q n0 ⟨p, rn, rc, xs⟩ = false := by simp [rowB, hne]
          rw [hrb, Bool.false_and] at hst
          obtain rfl : r = false := hst
          have hneq : ((rn : Int) != (n0 : Int)) = true := by simp; omega
          clear hrb HV_
          go_wp2
          go_region_held3 (fun w' => w'.cell? ⟨w.heap.size, 0, none⟩ = some (.int .i64 P) ∧ w'.cell? ⟨w.heap.size, 1, none⟩ = some (.int .i64 Q) ∧ w'.cell? ⟨w.heap.size, 2, none⟩ = some (.int .i64 G) ∧ w'.cell? ⟨w.heap.size + 1, 0, none⟩ = some (.slice (some ⟨b1, o1, none⟩) yn yc) ∧ w'.cell? ⟨w.heap.size + 1, 1, none⟩ = some (.slice (some ⟨b, o, none⟩) yn bc) ∧ w'.cell? ⟨b1, o1 + k, none⟩ = some (.int .i64 y) ∧ w'.cell? ⟨b, o + k, none⟩ = some (.slice p rn rc) ∧ Hid (Below W.heap.size W w'))
            (first | exact hS.out _ HBr.out.drew | (go_split_ands; exact hS.out _ (HBr.out.drew.trans (hbA.mono HBr.out.size))) | go_keep)
            ((first | (go_at_call 38; (with_reducible refine (rmember_any P Q G y true HM hp (by omega) hQ _).mono ?_); rintro e wA ⟨rfl, hbA⟩)))
          rename_i hHeld
          obtain ⟨x0, x1, x2, x3, x4, x5, x6, HBA⟩ := hHeld
          have hbF := below_ext HBW.out HBA.out
          clear x0 x1 x2 x3 x4 x5 x6
          go_wp2
          go_ret
          exact ⟨rfl, hbF⟩
    · obtain rfl : k = yn := by omega
      obtain rfl : r = true := by
        rw [← HV_.out, leftV]
        have e1 : ys.drop k = [] := by rw [← hyn.out, List.drop_length]
        have e2 : rows.drop k = [] := by rw [← hbn.out, List.drop_length]
        rw [e1, e2]; rfl
      have hbF := below_ext HBW.out HBr.out
      clear HV_ hlt
      go_wp2
      go_ret
      exact ⟨rfl, hbF⟩
end Go.Proofs.YtcmidgdhihmppaaGreatDoor
namespace Go.Proofs.YtcmidgdhihmppaaGreatDoor
open Go.RowKit SpM
set_option linter.unusedVariables false
set_option linter.unusedSimpArgs false
set_option maxRecDepth 20000
set_option maxHeartbeats 3200000 in
theorem rv17_g (P Q G : Int) (Y : Option Addr) (ys : List Int) (yn yc : Nat) (B : Option Addr) (rows : List Row) (bn bc : Nat) (HG : Hid (validG P Q G = false)) (hyn : Hid (ys.length = yn)) (hbn : Hid (rows.length = bn)) (hQ : Q < 9223372036854775808) (w : World) (hY : Hid (Sl w Y ys)) (hB : Hid (Rw w B rows)) :
    Calls Tryz.prog 49 #[gv P Q G, relV Y yn yc B bn bc] w fun e' w' => e' = .returned (.bool false) ∧ Below w.heap.size w w' := by
  obtain ⟨w0, hW⟩ : ∃ W, (w.alloc (gObj P Q G)).alloc (relO Y yn yc B bn bc) = W := ⟨_, rfl⟩
  have HBw : Hid (Below w.heap.size w w0) := Lib.hid (by rw [← hW]; exact below_two (Below.refl _ _))
  have HX0 : Hid (GBox w0 w.heap.size P Q G) := Lib.hid (by rw [← hW]; exact (gbox_alloc w P Q G).below (below_box0 _ _))
  have HR0 : Hid (RBox w0 (w.heap.size + 1) (.slice Y yn yc) (.slice B bn bc)) := Lib.hid (by rw [← hW]; exact rbox_alloc1 _ _ _ _ _)
  have HY0 : Hid (Sl w0 Y ys) := Lib.hid (hY.out.below HBw.out)
  have HW_0 : Hid (Rw w0 B rows) := Lib.hid (hB.out.below HBw.out)
  have HW := Lib.hid hW
  clear hW hY hB
  go_enter Tryz.func49, Tryz.ntmps49
  go_wp2_with fail
  rw [HW.out]
  go_wp2_with fail
  refine (rvalid_any P Q G false HG hQ _).mono ?_
  rintro e w1 ⟨rfl, hb0⟩
  have hb1 := below_ext (HBw.out) hb0
  have HX1 := Lib.hid (HX0.out.below hb0)
  have HR1 := Lib.hid (HR0.out.below hb0)
  have HY1 := Lib.hid (HY0.out.below hb0)
  have HW_1 := Lib.hid (HW_0.out.below hb0)
  clear hb0
  obtain ⟨c0, c1, c2⟩ := HX1.out
  obtain ⟨d0, d1⟩ := HR1.out
  go_wp2
  go_ret
  exact ⟨rfl, hb1⟩
set_option maxHeartbeats 3200000 in
theorem rv17_1 (P Q G : Int) (Y : Option Addr) (ys : List Int) (yn yc : Nat) (B : Option Addr) (rows : List Row) (bn bc : Nat) (HG : Hid (validG P Q G = true)) (h1 : yn < 1) (hyn : Hid (ys.length = yn)) (hbn : Hid (rows.length = bn)) (hQ : Q < 9223372036854775808) (w : World) (hY : Hid (Sl w Y ys)) (hB : Hid (Rw w B rows)) :
    Calls Tryz.prog 49 #[gv P Q G, relV Y yn yc B bn bc] w fun e' w' => e' = .returned (.bool false) ∧ Below w.heap.size w w' := by
  obtain ⟨w0, hW⟩ : ∃ W, (w.alloc (gObj P Q G)).alloc (relO Y yn yc B bn bc) = W := ⟨_, rfl⟩
  have HBw : Hid (Below w.heap.size w w0) := Lib.hid (by rw [← hW]; exact below_two (Below.refl _ _))
  have HX0 : Hid (GBox w0 w.heap.size P Q G) := Lib.hid (by rw [← hW]; exact (gbox_alloc w P Q G).below (below_box0 _ _))
  have HR0 : Hid (RBox w0 (w.heap.size + 1) (.slice Y yn yc) (.slice B bn bc)) := Lib.hid (by rw [← hW]; exact rbox_alloc1 _ _ _ _ _)
  have HY0 : Hid (Sl w0 Y ys) := Lib.hid (hY.out.below HBw.out)
  have HW_0 : Hid (Rw w0 B rows) := Lib.hid (hB.out.below HBw.out)
  have HW := Lib.hid hW
  clear hW hY hB
  have d1 : decide ((yn : Int) < 1) = true := by simp; omega
  go_enter Tryz.func49, Tryz.ntmps49
  go_wp2_with fail
  rw [HW.out]
  go_wp2_with fail
  refine (rvalid_any P Q G true HG hQ _).mono ?_
  rintro e w1 ⟨rfl, hb0⟩
  have hb1 := below_ext (HBw.out) hb0
  have HX1 := Lib.hid (HX0.out.below hb0)
  have HR1 := Lib.hid (HR0.out.below hb0)
  have HY1 := Lib.hid (HY0.out.below hb0)
  have HW_1 := Lib.hid (HW_0.out.below hb0)
  clear hb0
  obtain ⟨c0, c1, c2⟩ := HX1.out
  obtain ⟨d0, d1⟩ := HR1.out
  go_wp2
  go_ret
  exact ⟨rfl, hb1⟩
set_option maxHeartbeats 3200000 in
theorem rv17_2 (P Q G : Int) (Y : Option Addr) (ys : List Int) (yn yc : Nat) (B : Option Addr) (rows : List Row) (bn bc : Nat) (HG : Hid (validG P Q G = true)) (h1 : 1 ≤ yn) (h2 : 8 < yn) (hyn : Hid (ys.length = yn)) (hbn : Hid (rows.length = bn)) (hQ : Q < 9223372036854775808) (w : World) (hY : Hid (Sl w Y ys)) (hB : Hid (Rw w B rows)) :
    Calls Tryz.prog 49 #[gv P Q G, relV Y yn yc B bn bc] w fun e' w' => e' = .returned (.bool false) ∧ Below w.heap.size w w' := by
  obtain ⟨w0, hW⟩ : ∃ W, (w.alloc (gObj P Q G)).alloc (relO Y yn yc B bn bc) = W := ⟨_, rfl⟩
  have HBw : Hid (Below w.heap.size w w0) := Lib.hid (by rw [← hW]; exact below_two (Below.refl _ _))
  have HX0 : Hid (GBox w0 w.heap.size P Q G) := Lib.hid (by rw [← hW]; exact (gbox_alloc w P Q G).below (below_box0 _ _))
  have HR0 : Hid (RBox w0 (w.heap.size + 1) (.slice Y yn yc) (.slice B bn bc)) := Lib.hid (by rw [← hW]; exact rbox_alloc1 _ _ _ _ _)
  have HY0 : Hid (Sl w0 Y ys) := Lib.hid (hY.out.below HBw.out)
  have HW_0 : Hid (Rw w0 B rows) := Lib.hid (hB.out.below HBw.out)
  have HW := Lib.hid hW
  clear hW hY hB
  have d1 : decide ((yn : Int) < 1) = false := by simp; omega
  have d2 : decide ((8 : Int) < (yn : Int)) = true := by simp; omega
  go_enter Tryz.func49, Tryz.ntmps49
  go_wp2_with fail
  rw [HW.out]
  go_wp2_with fail
  refine (rvalid_any P Q G true HG hQ _).mono ?_
  rintro e w1 ⟨rfl, hb0⟩
  have hb1 := below_ext (HBw.out) hb0
  have HX1 := Lib.hid (HX0.out.below hb0)
  have HR1 := Lib.hid (HR0.out.below hb0)
  have HY1 := Lib.hid (HY0.out.below hb0)
  have HW_1 := Lib.hid (HW_0.out.below hb0)
  clear hb0
  obtain ⟨c0, c1, c2⟩ := HX1.out
  obtain ⟨d0, d1⟩ := HR1.out
  go_wp2
  go_ret
  exact ⟨rfl, hb1⟩
set_option maxHeartbeats 3200000 in
theorem rv17_3 (P Q G : Int) (Y : Option Addr) (ys : List Int) (yn yc : Nat) (B : Option Addr) (rows : List Row) (bn bc : Nat) (HG : Hid (validG P Q G = true)) (h1 : 1 ≤ yn) (h2 : yn ≤ 8) (h3 : bn ≠ yn) (hyn : Hid (ys.length = yn)) (hbn : Hid (rows.length = bn)) (hQ : Q < 9223372036854775808) (w : World) (hY : Hid (Sl w Y ys)) (hB : Hid (Rw w B rows)) :
    Calls Tryz.prog 49 #[gv P Q G, relV Y yn yc B bn bc] w fun e' w' => e' = .returned (.bool false) ∧ Below w.heap.size w w' := by
  obtain ⟨w0, hW⟩ : ∃ W, (w.alloc (gObj P Q G)).alloc (relO Y yn yc B bn bc) = W := ⟨_, rfl⟩
  have HBw : Hid (Below w.heap.size w w0) := Lib.hid (by rw [← hW]; exact below_two (Below.refl _ _))
  have HX0 : Hid (GBox w0 w.heap.size P Q G) := Lib.hid (by rw [← hW]; exact (gbox_alloc w P Q G).below (below_box0 _ _))
  have HR0 : Hid (RBox w0 (w.heap.size + 1) (.slice Y yn yc) (.slice B bn bc)) := Lib.hid (by rw [← hW]; exact rbox_alloc1 _ _ _ _ _)
  have HY0 : Hid (Sl w0 Y ys) := Lib.hid (hY.out.below HBw.out)
  have HW_0 : Hid (Rw w0 B rows) := Lib.hid (hB.out.below HBw.out)
  have HW := Lib.hid hW
  clear hW hY hB
  have d1 : decide ((yn : Int) < 1) = false := by simp; omega
  have d2 : decide ((8 : Int) < (yn : Int)) = false := by simp; omega
  have d3 : ((bn : Int) != (yn : Int)) = true := by simp; omega
  go_enter Tryz.func49, Tryz.ntmps49
  go_wp2_with fail
  rw [HW.out]
  go_wp2_with fail
  refine (rvalid_any P Q G true HG hQ _).mono ?_
  rintro e w1 ⟨rfl, hb0⟩
  have hb1 := below_ext (HBw.out) hb0
  have HX1 := Lib.hid (HX0.out.below hb0)
  have HR1 := Lib.hid (HR0.out.below hb0)
  have HY1 := Lib.hid (HY0.out.below hb0)
  have HW_1 := Lib.hid (HW_0.out.below hb0)
  clear hb0
  obtain ⟨c0, c1, c2⟩ := HX1.out
  obtain ⟨d0, d1⟩ := HR1.out
  go_wp2
  go_ret
  exact ⟨rfl, hb1⟩
set_option maxHeartbeats 3200000 in
theorem rv17_4 (P Q G : Int) (Y : Option Addr) (ys : List Int) (yc : Nat) (B : Option Addr) (rows : List Row) (bn bc : Nat) (n0 : Nat) (hN : Hid (rowN rows = n0)) (HG : Hid (validG P Q G = true)) (h1 : 1 ≤ bn) (h2 : bn ≤ 8) (h4 : n0 < 1) (hyn : Hid (ys.length = bn)) (hbn : Hid (rows.length = bn)) (hQ : Q < 9223372036854775808) (w : World) (hY : Hid (Sl w Y ys)) (hB : Hid (Rw w B rows)) :
    Calls Tryz.prog 49 #[gv P Q G, relV Y bn yc B bn bc] w fun e' w' => e' = .returned (.bool false) ∧ Below w.heap.size w w' := by
  obtain ⟨w0, hW⟩ : ∃ W, (w.alloc (gObj P Q G)).alloc (relO Y bn yc B bn bc) = W := ⟨_, rfl⟩
  have HBw : Hid (Below w.heap.size w w0) := Lib.hid (by rw [← hW]; exact below_two (Below.refl _ _))
  have HX0 : Hid (GBox w0 w.heap.size P Q G) := Lib.hid (by rw [← hW]; exact (gbox_alloc w P Q G).below (below_box0 _ _))
  have HR0 : Hid (RBox w0 (w.heap.size + 1) (.slice Y bn yc) (.slice B bn bc)) := Lib.hid (by rw [← hW]; exact rbox_alloc1 _ _ _ _ _)
  have HY0 : Hid (Sl w0 Y ys) := Lib.hid (hY.out.below HBw.out)
  have HW_0 : Hid (Rw w0 B rows) := Lib.hid (hB.out.below HBw.out)
  have HW := Lib.hid hW
  clear hW hY hB
  have d1 : decide ((bn : Int) < 1) = false := by simp; omega
  have d2 : decide ((8 : Int) < (bn : Int)) = false := by simp; omega
  have d4 : decide ((n0 : Int) < 1) = true := by simp; omega
  go_enter Tryz.func49, Tryz.ntmps49
  go_wp2_with fail
  rw [HW.out]
  go_wp2_with fail
  refine (rvalid_any P Q G true HG hQ _).mono ?_
  rintro e w1 ⟨rfl, hb0⟩
  have hb1 := below_ext (HBw.out) hb0
  have HX1 := Lib.hid (HX0.out.below hb0)
  have HR1 := Lib.hid (HR0.out.below hb0)
  have HY1 := Lib.hid (HY0.out.below hb0)
  have HW_1 := Lib.hid (HW_0.out.below hb0)
  clear hb0
  obtain ⟨c0, c1, c2⟩ := HX1.out
  obtain ⟨d0, d1⟩ := HR1.out
  go_wp2_with fail
  refine (runknowns_any Y bn yc B rows bn bc n0 hbn (by omega) hN _ HW_1).mono ?_
  rintro e w2 ⟨rfl, hb0⟩
  have hb2 := below_ext hb1 hb0
  have HX2 := Lib.hid (HX1.out.below hb0)
  have HR2 := Lib.hid (HR1.out.below hb0)
  have HY2 := Lib.hid (HY1.out.below hb0)
  have HW_2 := Lib.hid (HW_1.out.below hb0)
  clear c0 c1 c2 d0 d1 hb0
  obtain ⟨c0, c1, c2⟩ := HX2.out
  obtain ⟨d0, d1⟩ := HR2.out
  go_wp2
  go_ret
  exact ⟨rfl, hb2⟩
set_option maxHeartbeats 3200000 in
theorem rv17_5 (P Q G : Int) (Y : Option Addr) (ys : List Int) (yc : Nat) (B : Option Addr) (rows : List Row) (bn bc : Nat) (n0 : Nat) (hN : Hid (rowN rows = n0)) (HG : Hid (validG P Q G = true)) (h1 : 1 ≤ bn) (h2 : bn ≤ 8) (h4 : 1 ≤ n0) (h5 : 12 < n0) (hyn : Hid (ys.length = bn)) (hbn : Hid (rows.length = bn)) (hQ : Q < 9223372036854775808) (w : World) (hY : Hid (Sl w Y ys)) (hB : Hid (Rw w B rows)) :
    Calls Tryz.prog 49 #[gv P Q G, relV Y bn yc B bn bc] w fun e' w' => e' = .returned (.bool false) ∧ Below w.heap.size w w' := by
  obtain ⟨w0, hW⟩ : ∃ W, (w.alloc (gObj P Q G)).alloc (relO Y bn yc B bn bc) = W := ⟨_, rfl⟩
  have HBw : Hid (Below w.heap.size w w0) := Lib.hid (by rw [← hW]; exact below_two (Below.refl _ _))
  have HX0 : Hid (GBox w0 w.heap.size P Q G) := Lib.hid (by rw [← hW]; exact (gbox_alloc w P Q G).below (below_box0 _ _))
  have HR0 : Hid (RBox w0 (w.heap.size + 1) (.slice Y bn yc) (.slice B bn bc)) := Lib.hid (by rw [← hW]; exact rbox_alloc1 _ _ _ _ _)
  have HY0 : Hid (Sl w0 Y ys) := Lib.hid (hY.out.below HBw.out)
  have HW_0 : Hid (Rw w0 B rows) := Lib.hid (hB.out.below HBw.out)
  have HW := Lib.hid hW
  clear hW hY hB
  have d1 : decide ((bn : Int) < 1) = false := by simp; omega
  have d2 : decide ((8 : Int) < (bn : Int)) = false := by simp; omega
  have d4 : decide ((n0 : Int) < 1) = false := by simp; omega
  have d5 : decide ((12 : Int) < (n0 : Int)) = true := by simp; omega
  go_enter Tryz.func49, Tryz.ntmps49
  go_wp2_with fail
  rw [HW.out]
  go_wp2_with fail
  refine (rvalid_any P Q G true HG hQ _).mono ?_
  rintro e w1 ⟨rfl, hb0⟩
  have hb1 := below_ext (HBw.out) hb0
  have HX1 := Lib.hid (HX0.out.below hb0)
  have HR1 := Lib.hid (HR0.out.below hb0)
  have HY1 := Lib.hid (HY0.out.below hb0)
  have HW_1 := Lib.hid (HW_0.out.below hb0)
  clear hb0
  obtain ⟨c0, c1, c2⟩ := HX1.out
  obtain ⟨d0, d1⟩ := HR1.out
  go_wp2_with fail
  refine (runknowns_any Y bn yc B rows bn bc n0 hbn (by omega) hN _ HW_1).mono ?_
  rintro e w2 ⟨rfl, hb0⟩
  have hb2 := below_ext hb1 hb0
  have HX2 := Lib.hid (HX1.out.below hb0)
  have HR2 := Lib.hid (HR1.out.below hb0)
  have HY2 := Lib.hid (HY1.out.below hb0)
  have HW_2 := Lib.hid (HW_1.out.below hb0)
  clear c0 c1 c2 d0 d1 hb0
  obtain ⟨c0, c1, c2⟩ := HX2.out
  obtain ⟨d0, d1⟩ := HR2.out
  go_wp2
  go_ret
  exact ⟨rfl, hb2⟩
/-- THE CONTRACT. -/
theorem rvalid17_any (P Q G : Int) (Y : Option Addr) (ys : List Int) (yn yc : Nat) (B : Option Addr) (rows : List Row) (bn bc : Nat) (r : Bool) (hr : Hid (validR P Q G ys rows = r)) (hyn : Hid (ys.length = yn)) (hbn : Hid (rows.length = bn)) (hQ : Q < 9223372036854775808) (w : World) (hY : Hid (Sl w Y ys)) (hB : Hid (Rw w B rows)) :
    Calls Tryz.prog 49 #[gv P Q G, relV Y yn yc B bn bc] w fun e' w' => e' = .returned (.bool r) ∧ Below w.heap.size w w' := by
  have hr' := hr.out
  rw [validR, hyn.out, hbn.out] at hr'
  cases hg : validG P Q G with
  | false =>
    obtain rfl : r = false := by rw [← hr', hg, Bool.false_and]
    exact rv17_g P Q G Y ys yn yc B rows bn bc (Lib.hid hg) hyn hbn hQ w hY hB
  | true =>
    rw [hg, Bool.true_and] at hr'
    by_cases h1 : yn < 1
    · obtain rfl : r = false := by rw [← hr', decide_eq_false (show ¬ 1 ≤ yn by omega)]; rfl
      exact rv17_1 P Q G Y ys yn yc B rows bn bc (Lib.hid hg) h1 hyn hbn hQ w hY hB
    · rw [decide_eq_true (show 1 ≤ yn by omega), Bool.true_and] at hr'
      by_cases h2 : 8 < yn
      · obtain rfl : r = false := by rw [← hr', decide_eq_false (show ¬ yn ≤ 8 by omega)]; rfl
        exact rv17_2 P Q G Y ys yn yc B rows bn bc (Lib.hid hg) (by omega) h2 hyn hbn hQ w hY hB
      · rw [decide_eq_true (show yn ≤ 8 by omega), Bool.true_and] at hr'
        by_cases h3 : bn = yn
        · subst h3
          rw [decide_eq_true rfl, Bool.true_and] at hr'
          obtain ⟨n0, hn0⟩ : ∃ n, rowN rows = n := ⟨_, rfl⟩
          rw [hn0] at hr'
          by_cases h4 : n0 < 1
          · obtain rfl : r = false := by rw [← hr', decide_eq_false (show ¬ 1 ≤ n0 by omega), Bool.false_and, Bool.and_false]
            exact rv17_4 P Q G Y ys yc B rows bn bc n0 (Lib.hid hn0) (Lib.hid hg) (by omega) (by omega) h4 hyn hbn hQ w hY hB
          · rw [decide_eq_true (show 1 ≤ n0 by omega), Bool.true_and] at hr'
            by_cases h5 : 12 < n0
            · obtain rfl : r = false := by rw [← hr', decide_eq_false (show ¬ n0 ≤ 12 by omega), Bool.false_and, Bool.and_false]
              exact rv17_5 P Q G Y ys yc B rows bn bc n0 (Lib.hid hn0) (Lib.hid hg) (by omega) (by omega) (by omega) h5 hyn hbn hQ w hY hB
            · rw [decide_eq_true (show n0 ≤ 12 by omega), Bool.true_and] at hr'
              exact rvloop17 P Q G Y ys bn yc B rows bc n0 r (Lib.hid hg) (Lib.hid (by rw [leftV, List.drop_zero, List.drop_zero]; exact hr')) (Lib.hid hn0) hyn hbn (by omega) (by omega) (by omega) (by omega) hQ w hY hB
        · obtain rfl : r = false := by rw [← hr', decide_eq_false h3]; rfl
          exact rv17_3 P Q G Y ys yn yc B rows bn bc (Lib.hid hg) (by omega) (by omega) h3 hyn hbn hQ w hY hB
end Go.Proofs.YtcmidgdhihmppaaGreatDoor
namespace Go.Proofs.YtcmidgdhihmppaaGreatDoor
open Go.RowKit SpM
set_option linter.unusedVariables false
set_option linter.unusedSimpArgs false
set_option maxRecDepth 100000
/-- whether scalars fit a relation. -/
def holdsB (P Q G : Int) (ys : List Int) (rows : List Row) (xs : List Int) : Bool :=
  validR P Q G ys rows && (decide (xs.length = rowN rows) && (xs.all (scB Q) && ((rows.map fun r => prodF P 1 r.xs xs) == ys)))
theorem eq_any (g n cap : Nat) (zs : List Int) (Y : Option Addr) (ys : List Int) (m yc : Nat) (hn : zs.length = n) (hm : Hid (ys.length = m)) (hpos : 0 < m) (hbig : n < 1000) (hbig2 : m < 1000) (w : World) (h1 : Hid (Cells w g zs)) (h2 : Hid (Sl w Y ys)) :
    Calls Tryz.prog 32 #[.slice (some ⟨g, 0, none⟩) n cap, .slice Y m yc] w fun e w' => e = .returned (.bool (zs == ys)) ∧ Below w.heap.size w w' := by
  obtain ⟨b, o, rfl, _⟩ := h2.out 0 (by rw [hm.out]; exact hpos)
  have hm' := hm.out
  refine (Tryz.slices_Equal_int g 0 n cap b o m yc zs ys w (by omega) (by omega) (by omega) (by omega) (fun j hj => ?_) (fun j hj => ?_)).mono ?_
  · rw [Nat.zero_add]; exact h1.out j hj
  · obtain ⟨b', o', e1, e2⟩ := h2.out j hj
    cases e1
    exact e2
  · rintro e w' ⟨rfl, q, rfl⟩
    refine ⟨?_, below_drawN (Below.refl _ _) _⟩
    rw [List.take_of_length_le (by omega), List.take_of_length_le (by omega)]
/-- a list that the call made, its block named. -/
def CellsOut (zs : List Int) (n : Nat) (w : World) (e : Ending) (w' : World) : Prop := ∃ g cap, e = .returned (.slice (some ⟨g, 0, none⟩) n cap) ∧ Hid (Cells w' g zs) ∧ Below w.heap.size w w'
theorem ListOut.cells {zs : List Int} {n : Nat} {w w' : World} {e : Ending} (h : ListOut zs w e w') (hn : zs.length = n) (hpos : 0 < n) : CellsOut zs n w e w' := by
  obtain ⟨v, he, ho, hb⟩ := h
  obtain ⟨g, cap, rfl, _, hc⟩ := OwnL.cells ho (by omega)
  rw [hn] at he
  exact ⟨g, cap, he, Lib.hid hc, hb⟩
theorem Cells.toSl {w : World} {b : Nat} {xs : List Int} (h : Hid (Cells w b xs)) : Hid (Sl w (some ⟨b, 0, none⟩) xs) := Lib.hid (sl_of_cells h.out)
set_option maxHeartbeats 12800000 in
theorem lholds_v (P Q G : Int) (Y : Option Addr) (ys : List Int) (yn yc : Nat) (B : Option Addr) (rows : List Row) (bn bc : Nat) (L : Option Addr) (ls : List Int) (ln lc : Nat) (hyn : Hid (ys.length = yn)) (hbn : Hid (rows.length = bn)) (hln : Hid (ls.length = ln)) (hlb : ln < 1000000) (HVL : Hid (validR P Q G ys rows = false)) (hQ : Q < 9223372036854775808) (w : World) (hv : Hid (Vars w)) (hY : Hid (Sl w Y ys)) (hB : Hid (Rw w B rows)) (hL : Hid (Sl w L ls)) :
    Calls Tryz.prog 42 #[gv P Q G, relV Y yn yc B bn bc, .slice L ln lc] w fun e' w' => e' = .returned (.bool false) ∧ Below w.heap.size w w' := by
  obtain ⟨W, hW⟩ : ∃ W, (w.alloc (gObj P Q G)).alloc (relO Y yn yc B bn bc) = W := ⟨_, rfl⟩
  have HBw : Hid (Below w.heap.size w W) := Lib.hid (by rw [← hW]; exact below_two (Below.refl _ _))
  have HX0 : Hid (GBox W w.heap.size P Q G) := Lib.hid (by rw [← hW]; exact (gbox_alloc w P Q G).below (below_box0 _ _))
  have HR0 : Hid (RBox W (w.heap.size + 1) (.slice Y yn yc) (.slice B bn bc)) := Lib.hid (by rw [← hW]; exact rbox_alloc1 _ _ _ _ _)
  have hOY := Lib.hid (show ∀ u1 : World, Hid (Below W.heap.size W u1) → Hid (Sl u1 Y ys) from fun u1 h1 => Lib.hid (hY.out.below (below_ext HBw.out h1.out)))
  have hOB := Lib.hid (show ∀ u1 : World, Hid (Below W.heap.size W u1) → Hid (Rw u1 B rows) from fun u1 h1 => Lib.hid (hB.out.below (below_ext HBw.out h1.out)))
  have hOL := Lib.hid (show ∀ u1 : World, Hid (Below W.heap.size W u1) → Hid (Sl u1 L ls) from fun u1 h1 => Lib.hid (hL.out.below (below_ext HBw.out h1.out)))
  have hOV := Lib.hid (show ∀ u1 : World, Hid (Below W.heap.size W u1) → Hid (Vars u1) from fun u1 h1 => Lib.hid (hv.out.below (below_ext HBw.out h1.out)))
  have hS := Lib.hid (show ∀ u1 u2 : World, Hid (Below W.heap.size W u1) → Below u1.heap.size u1 u2 → (u2.cell? ⟨w.heap.size, 0, none⟩ = some (.int .i64 P) ∧ u2.cell? ⟨w.heap.size, 1, none⟩ = some (.int .i64 Q) ∧ u2.cell? ⟨w.heap.size, 2, none⟩ = some (.int .i64 G) ∧ u2.cell? ⟨w.heap.size + 1, 0, none⟩ = some (.slice Y yn yc) ∧ u2.cell? ⟨w.heap.size + 1, 1, none⟩ = some (.slice B bn bc) ∧ Hid (Below W.heap.size W u2)) from fun u1 u2 h1 h2 => have h3 := below_ext h1.out h2; ⟨(HX0.out.below h3).1, (HX0.out.below h3).2.1, (HX0.out.below h3).2.2, (HR0.out.below h3).1, (HR0.out.below h3).2, Lib.hid h3⟩)
  have hR : Hid (Below W.heap.size W W) := Lib.hid (Below.refl _ _)
  have HW := Lib.hid hW
  clear hW hY hB hL
  go_enter Tryz.func42, Tryz.ntmps42
  go_wp2_with fail
  rw [HW.out]
  refine wp_region_held_drew (S := fun w' => w'.cell? ⟨w.heap.size, 0, none⟩ = some (.int .i64 P) ∧ w'.cell? ⟨w.heap.size, 1, none⟩ = some (.int .i64 Q) ∧ w'.cell? ⟨w.heap.size, 2, none⟩ = some (.int .i64 G) ∧ w'.cell? ⟨w.heap.size + 1, 0, none⟩ = some (.slice Y yn yc) ∧ w'.cell? ⟨w.heap.size + 1, 1, none⟩ = some (.slice B bn bc) ∧ Hid (Below W.heap.size W w')) (by kernel_rfl) (hS.out _ _ hR ((Below.refl W.heap.size W).drew)) (fun hHeld => ?_)
  refine wpAnyH_take (i := 0) (oi := _) (v := ?_) rfl (by kernel_rfl) (by kernel_rfl) (by kernel_rfl) (fun _ _ _ h => h) (Or.inl ⟨by rfl, ?_⟩) (by assumption) ?_
  rotate_left; (intro wS hSw; (try dsimp only at hSw); go_simp <;> with_reducible rfl)
  try simp only [List.getElem_toArray, List.getElem_cons_zero, List.getElem_cons_succ, Act.put, List.setIfInBounds_toArray, List.set_cons_zero, List.set_cons_succ]
  refine wpAnyH_take (i := 1) (oi := _) (v := ?_) rfl (by kernel_rfl) (by kernel_rfl) (by kernel_rfl) (fun _ _ _ h => h) (Or.inl ⟨by rfl, ?_⟩) (by assumption) ?_
  rotate_left; (intro wS hSw; (try dsimp only at hSw); go_simp <;> with_reducible rfl)
  try simp only [List.getElem_toArray, List.getElem_cons_zero, List.getElem_cons_succ, Act.put, List.setIfInBounds_toArray, List.set_cons_zero, List.set_cons_succ]
  refine wpAnyH_ready (rs := [2]) (by kernel_rfl) (by simp) ?_
  refine AllReadyH.cons rfl (fun K hK => ?_) AllReadyH.nil
  go_simp
  (with_reducible refine (lvalid_any P Q G Y ys yn yc B rows bn bc false HVL hyn hbn hQ _ ?_ ?_ ?_).mono ?_); (go_split_ands; exact hOV.out _ (by assumption)); (go_split_ands; exact hOY.out _ (by assumption)); (go_split_ands; exact hOB.out _ (by assumption)); rintro e wA ⟨rfl, hbA⟩
  refine hK.out _ _ ?_ (fun hHeld => ?_)
  · (go_split_ands; exact hS.out _ _ (by assumption) hbA)
  clear hK K
  try simp only [List.getElem_toArray, List.getElem_cons_zero, List.getElem_cons_succ, Act.put, List.setIfInBounds_toArray, List.set_cons_zero, List.set_cons_succ]
  refine wpAnyH_take (i := 3) (oi := _) (v := ?_) rfl (by kernel_rfl) (by kernel_rfl) (by kernel_rfl) (fun _ _ _ h => h) (Or.inl ⟨by rfl, ?_⟩) (by assumption) ?_
  rotate_left; (intro wS hSw; (try dsimp only at hSw); go_simp <;> with_reducible rfl)
  try simp only [List.getElem_toArray, List.getElem_cons_zero, List.getElem_cons_succ, Act.put, List.setIfInBounds_toArray, List.set_cons_zero, List.set_cons_succ]
  refine wpAnyH_take (i := 4) (oi := _) (v := undef) rfl (by kernel_rfl) (by kernel_rfl) (by kernel_rfl) (fun _ _ _ h => h) (Or.inr ⟨by rfl, rfl⟩) (by assumption) ?_
  try simp only [List.getElem_toArray, List.getElem_cons_zero, List.getElem_cons_succ, Act.put, List.setIfInBounds_toArray, List.set_cons_zero, List.set_cons_succ]
  refine wpAnyH_take (i := 5) (oi := _) (v := undef) rfl (by kernel_rfl) (by kernel_rfl) (by kernel_rfl) (fun _ _ _ h => h) (Or.inr ⟨by rfl, rfl⟩) (by assumption) ?_
  try simp only [List.getElem_toArray, List.getElem_cons_zero, List.getElem_cons_succ, Act.put, List.setIfInBounds_toArray, List.set_cons_zero, List.set_cons_succ]
  refine wpAnyH_take (i := 6) (oi := _) (v := undef) rfl (by kernel_rfl) (by kernel_rfl) (by kernel_rfl) (fun _ _ _ h => h) (Or.inr ⟨by rfl, rfl⟩) (by assumption) ?_
  try simp only [List.getElem_toArray, List.getElem_cons_zero, List.getElem_cons_succ, Act.put, List.setIfInBounds_toArray, List.set_cons_zero, List.set_cons_succ]
  refine wpAnyH_take (i := 7) (oi := _) (v := undef) rfl (by kernel_rfl) (by kernel_rfl) (by kernel_rfl) (fun _ _ _ h => h) (Or.inr ⟨by rfl, rfl⟩) (by assumption) ?_
  try simp only [List.getElem_toArray, List.getElem_cons_zero, List.getElem_cons_succ, Act.put, List.setIfInBounds_toArray, List.set_cons_zero, List.set_cons_succ]
  refine wpAnyH_take (i := 8) (oi := _) (v := undef) rfl (by kernel_rfl) (by kernel_rfl) (by kernel_rfl) (fun _ _ _ h => h) (Or.inr ⟨by rfl, rfl⟩) (by assumption) ?_
  try simp only [List.getElem_toArray, List.getElem_cons_zero, List.getElem_cons_succ, Act.put, List.setIfInBounds_toArray, List.set_cons_zero, List.set_cons_succ]
  refine wpAnyH_take (i := 9) (oi := _) (v := ?_) rfl (by kernel_rfl) (by kernel_rfl) (by kernel_rfl) (fun _ _ _ h => h) (Or.inl ⟨by rfl, ?_⟩) (by assumption) ?_
  rotate_left; (intro wS hSw; (try dsimp only at hSw); go_simp <;> with_reducible rfl)
  try simp only [List.getElem_toArray, List.getElem_cons_zero, List.getElem_cons_succ, Act.put, List.setIfInBounds_toArray, List.set_cons_zero, List.set_cons_succ]
  refine wpAnyH_take (i := 10) (oi := _) (v := ?_) rfl (by kernel_rfl) (by kernel_rfl) (by kernel_rfl) (fun _ _ _ h => h) (Or.inl ⟨by rfl, ?_⟩) (by assumption) ?_
  rotate_left; (intro wS hSw; (try dsimp only at hSw); go_simp <;> with_reducible rfl)
  try simp only [List.getElem_toArray, List.getElem_cons_zero, List.getElem_cons_succ, Act.put, List.setIfInBounds_toArray, List.set_cons_zero, List.set_cons_succ]
  refine wpAnyH_take (i := 11) (oi := _) (v := undef) rfl (by kernel_rfl) (by kernel_rfl) (by kernel_rfl) (fun _ _ _ h => h) (Or.inr ⟨by rfl, rfl⟩) (by assumption) ?_
  try simp only [List.getElem_toArray, List.getElem_cons_zero, List.getElem_cons_succ, Act.put, List.setIfInBounds_toArray, List.set_cons_zero, List.set_cons_succ]
  refine wpAnyH_take (i := 12) (oi := _) (v := undef) rfl (by kernel_rfl) (by kernel_rfl) (by kernel_rfl) (fun _ _ _ h => h) (Or.inr ⟨by rfl, rfl⟩) (by assumption) ?_
  try simp only [List.getElem_toArray, List.getElem_cons_zero, List.getElem_cons_succ, Act.put, List.setIfInBounds_toArray, List.set_cons_zero, List.set_cons_succ]
  refine wpAnyH_take (i := 13) (oi := _) (v := undef) rfl (by kernel_rfl) (by kernel_rfl) (by kernel_rfl) (fun _ _ _ h => h) (Or.inr ⟨by rfl, rfl⟩) (by assumption) ?_
  try simp only [List.getElem_toArray, List.getElem_cons_zero, List.getElem_cons_succ, Act.put, List.setIfInBounds_toArray, List.set_cons_zero, List.set_cons_succ]
  refine wpAnyH_take (i := 14) (oi := _) (v := ?_) rfl (by kernel_rfl) (by kernel_rfl) (by kernel_rfl) (fun _ _ _ h => h) (Or.inl ⟨by rfl, ?_⟩) (by assumption) ?_
  rotate_left; (intro wS hSw; (try dsimp only at hSw); go_simp <;> with_reducible rfl)
  try simp only [List.getElem_toArray, List.getElem_cons_zero, List.getElem_cons_succ, Act.put, List.setIfInBounds_toArray, List.set_cons_zero, List.set_cons_succ]
  refine wpAnyH_take (i := 15) (oi := _) (v := ?_) rfl (by kernel_rfl) (by kernel_rfl) (by kernel_rfl) (fun _ _ _ h => h) (Or.inl ⟨by rfl, ?_⟩) (by assumption) ?_
  rotate_left; (intro wS hSw; (try dsimp only at hSw); go_simp <;> with_reducible rfl)
  try simp only [List.getElem_toArray, List.getElem_cons_zero, List.getElem_cons_succ, Act.put, List.setIfInBounds_toArray, List.set_cons_zero, List.set_cons_succ]
  refine wpAnyH_take (i := 16) (oi := _) (v := undef) rfl (by kernel_rfl) (by kernel_rfl) (by kernel_rfl) (fun _ _ _ h => h) (Or.inr ⟨by rfl, rfl⟩) (by assumption) ?_
  try simp only [List.getElem_toArray, List.getElem_cons_zero, List.getElem_cons_succ, Act.put, List.setIfInBounds_toArray, List.set_cons_zero, List.set_cons_succ]
  refine wpAnyH_take (i := 17) (oi := _) (v := undef) rfl (by kernel_rfl) (by kernel_rfl) (by kernel_rfl) (fun _ _ _ h => h) (Or.inr ⟨by rfl, rfl⟩) (by assumption) ?_
  try simp only [List.getElem_toArray, List.getElem_cons_zero, List.getElem_cons_succ, Act.put, List.setIfInBounds_toArray, List.set_cons_zero, List.set_cons_succ]
  refine wpAnyH_take (i := 18) (oi := _) (v := undef) rfl (by kernel_rfl) (by kernel_rfl) (by kernel_rfl) (fun _ _ _ h => h) (Or.inr ⟨by rfl, rfl⟩) (by assumption) ?_
  try simp only [List.getElem_toArray, List.getElem_cons_zero, List.getElem_cons_succ, Act.put, List.setIfInBounds_toArray, List.set_cons_zero, List.set_cons_succ]
  refine wpAnyH_take (i := 19) (oi := _) (v := undef) rfl (by kernel_rfl) (by kernel_rfl) (by kernel_rfl) (fun _ _ _ h => h) (Or.inr ⟨by rfl, rfl⟩) (by assumption) ?_
  try simp only [List.getElem_toArray, List.getElem_cons_zero, List.getElem_cons_succ, Act.put, List.setIfInBounds_toArray, List.set_cons_zero, List.set_cons_succ]
  refine wpAnyH_take (i := 20) (oi := _) (v := undef) rfl (by kernel_rfl) (by kernel_rfl) (by kernel_rfl) (fun _ _ _ h => h) (Or.inr ⟨by rfl, rfl⟩) (by assumption) ?_
  try simp only [List.getElem_toArray, List.getElem_cons_zero, List.getElem_cons_succ, Act.put, List.setIfInBounds_toArray, List.set_cons_zero, List.set_cons_succ]
  refine wpAnyH_take (i := 21) (oi := _) (v := undef) rfl (by kernel_rfl) (by kernel_rfl) (by kernel_rfl) (fun _ _ _ h => h) (Or.inr ⟨by rfl, rfl⟩) (by assumption) ?_
  try simp only [List.getElem_toArray, List.getElem_cons_zero, List.getElem_cons_succ, Act.put, List.setIfInBounds_toArray, List.set_cons_zero, List.set_cons_succ]
  refine wpAnyH_take (i := 22) (oi := _) (v := undef) rfl (by kernel_rfl) (by kernel_rfl) (by kernel_rfl) (fun _ _ _ h => h) (Or.inr ⟨by rfl, rfl⟩) (by assumption) ?_
  try simp only [List.getElem_toArray, List.getElem_cons_zero, List.getElem_cons_succ, Act.put, List.setIfInBounds_toArray, List.set_cons_zero, List.set_cons_succ]
  refine wpAnyH_take (i := 23) (oi := _) (v := undef) rfl (by kernel_rfl) (by kernel_rfl) (by kernel_rfl) (fun _ _ _ h => h) (Or.inr ⟨by rfl, rfl⟩) (by assumption) ?_
  try simp only [List.getElem_toArray, List.getElem_cons_zero, List.getElem_cons_succ, Act.put, List.setIfInBounds_toArray, List.set_cons_zero, List.set_cons_succ]
  refine wpAnyH_take (i := 24) (oi := _) (v := ?_) rfl (by kernel_rfl) (by kernel_rfl) (by kernel_rfl) (fun _ _ _ h => h) (Or.inl ⟨by rfl, ?_⟩) (by assumption) ?_
  rotate_left; (intro wS hSw; (try dsimp only at hSw); go_simp <;> with_reducible rfl)
  try simp only [List.getElem_toArray, List.getElem_cons_zero, List.getElem_cons_succ, Act.put, List.setIfInBounds_toArray, List.set_cons_zero, List.set_cons_succ]
  refine wpAnyH_take (i := 25) (oi := _) (v := ?_) rfl (by kernel_rfl) (by kernel_rfl) (by kernel_rfl) (fun _ _ _ h => h) (Or.inl ⟨by rfl, ?_⟩) (by assumption) ?_
  rotate_left; (intro wS hSw; (try dsimp only at hSw); go_simp <;> with_reducible rfl)
  try simp only [List.getElem_toArray, List.getElem_cons_zero, List.getElem_cons_succ, Act.put, List.setIfInBounds_toArray, List.set_cons_zero, List.set_cons_succ]
  refine wpAnyH_done (by kernel_rfl) ?_ _
  obtain ⟨x0, x1, x2, x3, x4, HBA⟩ := hHeld
  have hbF := below_ext HBw.out HBA.out
  go_wp2
  go_ret
  exact ⟨rfl, hbF⟩
set_option maxHeartbeats 12800000 in
theorem lholds_n (P Q G : Int) (Y : Option Addr) (ys : List Int) (yn yc : Nat) (B : Option Addr) (rows : List Row) (bn bc : Nat) (L : Option Addr) (ls : List Int) (ln lc : Nat) (hyn : Hid (ys.length = yn)) (hbn : Hid (rows.length = bn)) (hln : Hid (ls.length = ln)) (hlb : ln < 1000000) (HVL : Hid (validR P Q G ys rows = true)) (hlen : ls.length ≠ rowN rows) (hQ : Q < 9223372036854775808) (w : World) (hv : Hid (Vars w)) (hY : Hid (Sl w Y ys)) (hB : Hid (Rw w B rows)) (hL : Hid (Sl w L ls)) :
    Calls Tryz.prog 42 #[gv P Q G, relV Y yn yc B bn bc, .slice L ln lc] w fun e' w' => e' = .returned (.bool false) ∧ Below w.heap.size w w' := by
  obtain ⟨W, hW⟩ : ∃ W, (w.alloc (gObj P Q G)).alloc (relO Y yn yc B bn bc) = W := ⟨_, rfl⟩
  have HBw : Hid (Below w.heap.size w W) := Lib.hid (by rw [← hW]; exact below_two (Below.refl _ _))
  have HX0 : Hid (GBox W w.heap.size P Q G) := Lib.hid (by rw [← hW]; exact (gbox_alloc w P Q G).below (below_box0 _ _))
  have HR0 : Hid (RBox W (w.heap.size + 1) (.slice Y yn yc) (.slice B bn bc)) := Lib.hid (by rw [← hW]; exact rbox_alloc1 _ _ _ _ _)
  have hOY := Lib.hid (show ∀ u1 : World, Hid (Below W.heap.size W u1) → Hid (Sl u1 Y ys) from fun u1 h1 => Lib.hid (hY.out.below (below_ext HBw.out h1.out)))
  have hOB := Lib.hid (show ∀ u1 : World, Hid (Below W.heap.size W u1) → Hid (Rw u1 B rows) from fun u1 h1 => Lib.hid (hB.out.below (below_ext HBw.out h1.out)))
  have hOL := Lib.hid (show ∀ u1 : World, Hid (Below W.heap.size W u1) → Hid (Sl u1 L ls) from fun u1 h1 => Lib.hid (hL.out.below (below_ext HBw.out h1.out)))
  have hOV := Lib.hid (show ∀ u1 : World, Hid (Below W.heap.size W u1) → Hid (Vars u1) from fun u1 h1 => Lib.hid (hv.out.below (below_ext HBw.out h1.out)))
  have hS := Lib.hid (show ∀ u1 u2 : World, Hid (Below W.heap.size W u1) → Below u1.heap.size u1 u2 → (u2.cell? ⟨w.heap.size, 0, none⟩ = some (.int .i64 P) ∧ u2.cell? ⟨w.heap.size, 1, none⟩ = some (.int .i64 Q) ∧ u2.cell? ⟨w.heap.size, 2, none⟩ = some (.int .i64 G) ∧ u2.cell? ⟨w.heap.size + 1, 0, none⟩ = some (.slice Y yn yc) ∧ u2.cell? ⟨w.heap.size + 1, 1, none⟩ = some (.slice B bn bc) ∧ Hid (Below W.heap.size W u2)) from fun u1 u2 h1 h2 => have h3 := below_ext h1.out h2; ⟨(HX0.out.below h3).1, (HX0.out.below h3).2.1, (HX0.out.below h3).2.2, (HR0.out.below h3).1, (HR0.out.below h3).2, Lib.hid h3⟩)
  have hR : Hid (Below W.heap.size W W) := Lib.hid (Below.refl _ _)
  have HW := Lib.hid hW
  clear hW hY hB hL
  obtain ⟨v1, v2, v3, v4, v5, v6, v7, v8⟩ := validR_parts HVL.out
  have hbp : 0 < bn := by rw [← hbn.out]; omega
  obtain ⟨n0, hn0⟩ : ∃ n, rowN rows = n := ⟨_, rfl⟩
  have HN := Lib.hid hn0
  have heq : ((ln : Int) == (n0 : Int)) = false := by rw [← hln.out, ← hn0]; simp; omega
  clear v1 v2 v3 v4 v5 v6 v7 v8 hn0 hlen
  go_enter Tryz.func42, Tryz.ntmps42
  go_wp2_with fail
  rw [HW.out]
  refine wp_region_held_drew (S := fun w' => w'.cell? ⟨w.heap.size, 0, none⟩ = some (.int .i64 P) ∧ w'.cell? ⟨w.heap.size, 1, none⟩ = some (.int .i64 Q) ∧ w'.cell? ⟨w.heap.size, 2, none⟩ = some (.int .i64 G) ∧ w'.cell? ⟨w.heap.size + 1, 0, none⟩ = some (.slice Y yn yc) ∧ w'.cell? ⟨w.heap.size + 1, 1, none⟩ = some (.slice B bn bc) ∧ Hid (Below W.heap.size W w')) (by kernel_rfl) (hS.out _ _ hR ((Below.refl W.heap.size W).drew)) (fun hHeld => ?_)
  refine wpAnyH_take (i := 0) (oi := _) (v := ?_) rfl (by kernel_rfl) (by kernel_rfl) (by kernel_rfl) (fun _ _ _ h => h) (Or.inl ⟨by rfl, ?_⟩) (by assumption) ?_
  rotate_left; (intro wS hSw; (try dsimp only at hSw); go_simp <;> with_reducible rfl)
  try simp only [List.getElem_toArray, List.getElem_cons_zero, List.getElem_cons_succ, Act.put, List.setIfInBounds_toArray, List.set_cons_zero, List.set_cons_succ]
  refine wpAnyH_take (i := 1) (oi := _) (v := ?_) rfl (by kernel_rfl) (by kernel_rfl) (by kernel_rfl) (fun _ _ _ h => h) (Or.inl ⟨by rfl, ?_⟩) (by assumption) ?_
  rotate_left; (intro wS hSw; (try dsimp only at hSw); go_simp <;> with_reducible rfl)
  try simp only [List.getElem_toArray, List.getElem_cons_zero, List.getElem_cons_succ, Act.put, List.setIfInBounds_toArray, List.set_cons_zero, List.set_cons_succ]
  refine wpAnyH_ready (rs := [2]) (by kernel_rfl) (by simp) ?_
  refine AllReadyH.cons rfl (fun K hK => ?_) AllReadyH.nil
  go_simp
  (with_reducible refine (lvalid_any P Q G Y ys yn yc B rows bn bc true HVL hyn hbn hQ _ ?_ ?_ ?_).mono ?_); (go_split_ands; exact hOV.out _ (by assumption)); (go_split_ands; exact hOY.out _ (by assumption)); (go_split_ands; exact hOB.out _ (by assumption)); rintro e wA ⟨rfl, hbA⟩
  refine hK.out _ _ ?_ (fun hHeld => ?_)
  · (go_split_ands; exact hS.out _ _ (by assumption) hbA)
  clear hK K
  try simp only [List.getElem_toArray, List.getElem_cons_zero, List.getElem_cons_succ, Act.put, List.setIfInBounds_toArray, List.set_cons_zero, List.set_cons_succ]
  refine wpAnyH_take (i := 3) (oi := _) (v := ?_) rfl (by kernel_rfl) (by kernel_rfl) (by kernel_rfl) (fun _ _ _ h => h) (Or.inl ⟨by rfl, ?_⟩) (by assumption) ?_
  rotate_left; (intro wS hSw; (try dsimp only at hSw); go_simp <;> with_reducible rfl)
  try simp only [List.getElem_toArray, List.getElem_cons_zero, List.getElem_cons_succ, Act.put, List.setIfInBounds_toArray, List.set_cons_zero, List.set_cons_succ]
  refine wpAnyH_take (i := 4) (oi := _) (v := ?_) rfl (by kernel_rfl) (by kernel_rfl) (by kernel_rfl) (fun _ _ _ h => h) (Or.inl ⟨by rfl, ?_⟩) (by assumption) ?_
  rotate_left; (intro wS hSw; (try dsimp only at hSw); go_simp <;> with_reducible rfl)
  try simp only [List.getElem_toArray, List.getElem_cons_zero, List.getElem_cons_succ, Act.put, List.setIfInBounds_toArray, List.set_cons_zero, List.set_cons_succ]
  refine wpAnyH_take (i := 5) (oi := _) (v := ?_) rfl (by kernel_rfl) (by kernel_rfl) (by kernel_rfl) (fun _ _ _ h => h) (Or.inl ⟨by rfl, ?_⟩) (by assumption) ?_
  rotate_left; (intro wS hSw; (try dsimp only at hSw); go_simp <;> with_reducible rfl)
  try simp only [List.getElem_toArray, List.getElem_cons_zero, List.getElem_cons_succ, Act.put, List.setIfInBounds_toArray, List.set_cons_zero, List.set_cons_succ]
  refine wpAnyH_take (i := 6) (oi := _) (v := ?_) rfl (by kernel_rfl) (by kernel_rfl) (by kernel_rfl) (fun _ _ _ h => h) (Or.inl ⟨by rfl, ?_⟩) (by assumption) ?_
  rotate_left; (intro wS hSw; (try dsimp only at hSw); go_simp <;> with_reducible rfl)
  try simp only [List.getElem_toArray, List.getElem_cons_zero, List.getElem_cons_succ, Act.put, List.setIfInBounds_toArray, List.set_cons_zero, List.set_cons_succ]
  refine wpAnyH_ready (rs := [7]) (by kernel_rfl) (by simp) ?_
  refine AllReadyH.cons rfl (fun K hK => ?_) AllReadyH.nil
  go_simp
  (with_reducible refine (lunknowns_any Y yn yc B rows bn bc n0 hbn hbp HN _ ?_).mono ?_); (go_split_ands; exact hOB.out _ (by assumption)); rintro e wA ⟨rfl, hbA⟩
  refine hK.out _ _ ?_ (fun hHeld => ?_)
  · (go_split_ands; exact hS.out _ _ (by assumption) hbA)
  clear hK K
  try simp only [List.getElem_toArray, List.getElem_cons_zero, List.getElem_cons_succ, Act.put, List.setIfInBounds_toArray, List.set_cons_zero, List.set_cons_succ]
  refine wpAnyH_take (i := 8) (oi := _) (v := ?_) rfl (by kernel_rfl) (by kernel_rfl) (by kernel_rfl) (fun _ _ _ h => h) (Or.inl ⟨by rfl, ?_⟩) (by assumption) ?_
  rotate_left; (intro wS hSw; (try dsimp only at hSw); go_simp <;> with_reducible rfl)
  try simp only [List.getElem_toArray, List.getElem_cons_zero, List.getElem_cons_succ, Act.put, List.setIfInBounds_toArray, List.set_cons_zero, List.set_cons_succ]
  refine wpAnyH_take (i := 9) (oi := _) (v := ?_) rfl (by kernel_rfl) (by kernel_rfl) (by kernel_rfl) (fun _ _ _ h => h) (Or.inl ⟨by rfl, ?_⟩) (by assumption) ?_
  rotate_left; (intro wS hSw; (try dsimp only at hSw); go_simp <;> with_reducible rfl)
  try simp only [List.getElem_toArray, List.getElem_cons_zero, List.getElem_cons_succ, Act.put, List.setIfInBounds_toArray, List.set_cons_zero, List.set_cons_succ]
  refine wpAnyH_take (i := 10) (oi := _) (v := ?_) rfl (by kernel_rfl) (by kernel_rfl) (by kernel_rfl) (fun _ _ _ h => h) (Or.inl ⟨by rfl, ?_⟩) (by assumption) ?_
  rotate_left; (intro wS hSw; (try dsimp only at hSw); go_simp <;> with_reducible rfl)
  try simp only [List.getElem_toArray, List.getElem_cons_zero, List.getElem_cons_succ, Act.put, List.setIfInBounds_toArray, List.set_cons_zero, List.set_cons_succ]
  refine wpAnyH_take (i := 11) (oi := _) (v := undef) rfl (by kernel_rfl) (by kernel_rfl) (by kernel_rfl) (fun _ _ _ h => h) (Or.inr ⟨by rfl, rfl⟩) (by assumption) ?_
  try simp only [List.getElem_toArray, List.getElem_cons_zero, List.getElem_cons_succ, Act.put, List.setIfInBounds_toArray, List.set_cons_zero, List.set_cons_succ]
  refine wpAnyH_take (i := 12) (oi := _) (v := undef) rfl (by kernel_rfl) (by kernel_rfl) (by kernel_rfl) (fun _ _ _ h => h) (Or.inr ⟨by rfl, rfl⟩) (by assumption) ?_
  try simp only [List.getElem_toArray, List.getElem_cons_zero, List.getElem_cons_succ, Act.put, List.setIfInBounds_toArray, List.set_cons_zero, List.set_cons_succ]
  refine wpAnyH_take (i := 13) (oi := _) (v := undef) rfl (by kernel_rfl) (by kernel_rfl) (by kernel_rfl) (fun _ _ _ h => h) (Or.inr ⟨by rfl, rfl⟩) (by assumption) ?_
  try simp only [List.getElem_toArray, List.getElem_cons_zero, List.getElem_cons_succ, Act.put, List.setIfInBounds_toArray, List.set_cons_zero, List.set_cons_succ]
  refine wpAnyH_take (i := 14) (oi := _) (v := ?_) rfl (by kernel_rfl) (by kernel_rfl) (by kernel_rfl) (fun _ _ _ h => h) (Or.inl ⟨by rfl, ?_⟩) (by assumption) ?_
  rotate_left; (intro wS hSw; (try dsimp only at hSw); go_simp <;> with_reducible rfl)
  try simp only [List.getElem_toArray, List.getElem_cons_zero, List.getElem_cons_succ, Act.put, List.setIfInBounds_toArray, List.set_cons_zero, List.set_cons_succ]
  refine wpAnyH_take (i := 15) (oi := _) (v := ?_) rfl (by kernel_rfl) (by kernel_rfl) (by kernel_rfl) (fun _ _ _ h => h) (Or.inl ⟨by rfl, ?_⟩) (by assumption) ?_
  rotate_left; (intro wS hSw; (try dsimp only at hSw); go_simp <;> with_reducible rfl)
  try simp only [List.getElem_toArray, List.getElem_cons_zero, List.getElem_cons_succ, Act.put, List.setIfInBounds_toArray, List.set_cons_zero, List.set_cons_succ]
  refine wpAnyH_take (i := 16) (oi := _) (v := undef) rfl (by kernel_rfl) (by kernel_rfl) (by kernel_rfl) (fun _ _ _ h => h) (Or.inr ⟨by rfl, rfl⟩) (by assumption) ?_
  try simp only [List.getElem_toArray, List.getElem_cons_zero, List.getElem_cons_succ, Act.put, List.setIfInBounds_toArray, List.set_cons_zero, List.set_cons_succ]
  refine wpAnyH_take (i := 17) (oi := _) (v := undef) rfl (by kernel_rfl) (by kernel_rfl) (by kernel_rfl) (fun _ _ _ h => h) (Or.inr ⟨by rfl, rfl⟩) (by assumption) ?_
  try simp only [List.getElem_toArray, List.getElem_cons_zero, List.getElem_cons_succ, Act.put, List.setIfInBounds_toArray, List.set_cons_zero, List.set_cons_succ]
  refine wpAnyH_take (i := 18) (oi := _) (v := undef) rfl (by kernel_rfl) (by kernel_rfl) (by kernel_rfl) (fun _ _ _ h => h) (Or.inr ⟨by rfl, rfl⟩) (by assumption) ?_
  try simp only [List.getElem_toArray, List.getElem_cons_zero, List.getElem_cons_succ, Act.put, List.setIfInBounds_toArray, List.set_cons_zero, List.set_cons_succ]
  refine wpAnyH_take (i := 19) (oi := _) (v := undef) rfl (by kernel_rfl) (by kernel_rfl) (by kernel_rfl) (fun _ _ _ h => h) (Or.inr ⟨by rfl, rfl⟩) (by assumption) ?_
  try simp only [List.getElem_toArray, List.getElem_cons_zero, List.getElem_cons_succ, Act.put, List.setIfInBounds_toArray, List.set_cons_zero, List.set_cons_succ]
  refine wpAnyH_take (i := 20) (oi := _) (v := undef) rfl (by kernel_rfl) (by kernel_rfl) (by kernel_rfl) (fun _ _ _ h => h) (Or.inr ⟨by rfl, rfl⟩) (by assumption) ?_
  try simp only [List.getElem_toArray, List.getElem_cons_zero, List.getElem_cons_succ, Act.put, List.setIfInBounds_toArray, List.set_cons_zero, List.set_cons_succ]
  refine wpAnyH_take (i := 21) (oi := _) (v := undef) rfl (by kernel_rfl) (by kernel_rfl) (by kernel_rfl) (fun _ _ _ h => h) (Or.inr ⟨by rfl, rfl⟩) (by assumption) ?_
  try simp only [List.getElem_toArray, List.getElem_cons_zero, List.getElem_cons_succ, Act.put, List.setIfInBounds_toArray, List.set_cons_zero, List.set_cons_succ]
  refine wpAnyH_take (i := 22) (oi := _) (v := undef) rfl (by kernel_rfl) (by kernel_rfl) (by kernel_rfl) (fun _ _ _ h => h) (Or.inr ⟨by rfl, rfl⟩) (by assumption) ?_
  try simp only [List.getElem_toArray, List.getElem_cons_zero, List.getElem_cons_succ, Act.put, List.setIfInBounds_toArray, List.set_cons_zero, List.set_cons_succ]
  refine wpAnyH_take (i := 23) (oi := _) (v := undef) rfl (by kernel_rfl) (by kernel_rfl) (by kernel_rfl) (fun _ _ _ h => h) (Or.inr ⟨by rfl, rfl⟩) (by assumption) ?_
  try simp only [List.getElem_toArray, List.getElem_cons_zero, List.getElem_cons_succ, Act.put, List.setIfInBounds_toArray, List.set_cons_zero, List.set_cons_succ]
  refine wpAnyH_take (i := 24) (oi := _) (v := ?_) rfl (by kernel_rfl) (by kernel_rfl) (by kernel_rfl) (fun _ _ _ h => h) (Or.inl ⟨by rfl, ?_⟩) (by assumption) ?_
  rotate_left; (intro wS hSw; (try dsimp only at hSw); go_simp <;> with_reducible rfl)
  try simp only [List.getElem_toArray, List.getElem_cons_zero, List.getElem_cons_succ, Act.put, List.setIfInBounds_toArray, List.set_cons_zero, List.set_cons_succ]
  refine wpAnyH_take (i := 25) (oi := _) (v := ?_) rfl (by kernel_rfl) (by kernel_rfl) (by kernel_rfl) (fun _ _ _ h => h) (Or.inl ⟨by rfl, ?_⟩) (by assumption) ?_
  rotate_left; (intro wS hSw; (try dsimp only at hSw); go_simp <;> with_reducible rfl)
  try simp only [List.getElem_toArray, List.getElem_cons_zero, List.getElem_cons_succ, Act.put, List.setIfInBounds_toArray, List.set_cons_zero, List.set_cons_succ]
  refine wpAnyH_done (by kernel_rfl) ?_ _
  obtain ⟨x0, x1, x2, x3, x4, HBA⟩ := hHeld
  have hbF := below_ext HBw.out HBA.out
  go_wp2
  go_ret
  exact ⟨rfl, hbF⟩
set_option maxHeartbeats 12800000 in
theorem lholds_s (P Q G : Int) (Y : Option Addr) (ys : List Int) (yn yc : Nat) (B : Option Addr) (rows : List Row) (bn bc : Nat) (L : Option Addr) (ls : List Int) (ln lc : Nat) (hyn : Hid (ys.length = yn)) (hbn : Hid (rows.length = bn)) (hln : Hid (ls.length = ln)) (hlb : ln < 1000000) (HVL : Hid (validR P Q G ys rows = true)) (hlen : ls.length = rowN rows) (Hl : Hid (ls.all (scB Q) = false)) (hQ : Q < 9223372036854775808) (w : World) (hv : Hid (Vars w)) (hY : Hid (Sl w Y ys)) (hB : Hid (Rw w B rows)) (hL : Hid (Sl w L ls)) :
    Calls Tryz.prog 42 #[gv P Q G, relV Y yn yc B bn bc, .slice L ln lc] w fun e' w' => e' = .returned (.bool false) ∧ Below w.heap.size w w' := by
  obtain ⟨W, hW⟩ : ∃ W, (w.alloc (gObj P Q G)).alloc (relO Y yn yc B bn bc) = W := ⟨_, rfl⟩
  have HBw : Hid (Below w.heap.size w W) := Lib.hid (by rw [← hW]; exact below_two (Below.refl _ _))
  have HX0 : Hid (GBox W w.heap.size P Q G) := Lib.hid (by rw [← hW]; exact (gbox_alloc w P Q G).below (below_box0 _ _))
  have HR0 : Hid (RBox W (w.heap.size + 1) (.slice Y yn yc) (.slice B bn bc)) := Lib.hid (by rw [← hW]; exact rbox_alloc1 _ _ _ _ _)
  have hOY := Lib.hid (show ∀ u1 : World, Hid (Below W.heap.size W u1) → Hid (Sl u1 Y ys) from fun u1 h1 => Lib.hid (hY.out.below (below_ext HBw.out h1.out)))
  have hOB := Lib.hid (show ∀ u1 : World, Hid (Below W.heap.size W u1) → Hid (Rw u1 B rows) from fun u1 h1 => Lib.hid (hB.out.below (below_ext HBw.out h1.out)))
  have hOL := Lib.hid (show ∀ u1 : World, Hid (Below W.heap.size W u1) → Hid (Sl u1 L ls) from fun u1 h1 => Lib.hid (hL.out.below (below_ext HBw.out h1.out)))
  have hOV := Lib.hid (show ∀ u1 : World, Hid (Below W.heap.size W u1) → Hid (Vars u1) from fun u1 h1 => Lib.hid (hv.out.below (below_ext HBw.out h1.out)))
  have hS := Lib.hid (show ∀ u1 u2 : World, Hid (Below W.heap.size W u1) → Below u1.heap.size u1 u2 → (u2.cell? ⟨w.heap.size, 0, none⟩ = some (.int .i64 P) ∧ u2.cell? ⟨w.heap.size, 1, none⟩ = some (.int .i64 Q) ∧ u2.cell? ⟨w.heap.size, 2, none⟩ = some (.int .i64 G) ∧ u2.cell? ⟨w.heap.size + 1, 0, none⟩ = some (.slice Y yn yc) ∧ u2.cell? ⟨w.heap.size + 1, 1, none⟩ = some (.slice B bn bc) ∧ Hid (Below W.heap.size W u2)) from fun u1 u2 h1 h2 => have h3 := below_ext h1.out h2; ⟨(HX0.out.below h3).1, (HX0.out.below h3).2.1, (HX0.out.below h3).2.2, (HR0.out.below h3).1, (HR0.out.below h3).2, Lib.hid h3⟩)
  have hR : Hid (Below W.heap.size W W) := Lib.hid (Below.refl _ _)
  have HW := Lib.hid hW
  clear hW hY hB hL
  obtain ⟨v1, v2, v3, v4, v5, v6, v7, v8⟩ := validR_parts HVL.out
  have hbp : 0 < bn := by rw [← hbn.out]; omega
  obtain ⟨n0, hn0⟩ : ∃ n, rowN rows = n := ⟨_, rfl⟩
  have HN := Lib.hid hn0
  have heq : ((ln : Int) == (n0 : Int)) = true := by rw [← hln.out, ← hn0]; simp; omega
  clear v1 v2 v3 v4 v5 v6 v7 v8 hn0 hlen
  go_enter Tryz.func42, Tryz.ntmps42
  go_wp2_with fail
  rw [HW.out]
  refine wp_region_held_drew (S := fun w' => w'.cell? ⟨w.heap.size, 0, none⟩ = some (.int .i64 P) ∧ w'.cell? ⟨w.heap.size, 1, none⟩ = some (.int .i64 Q) ∧ w'.cell? ⟨w.heap.size, 2, none⟩ = some (.int .i64 G) ∧ w'.cell? ⟨w.heap.size + 1, 0, none⟩ = some (.slice Y yn yc) ∧ w'.cell? ⟨w.heap.size + 1, 1, none⟩ = some (.slice B bn bc) ∧ Hid (Below W.heap.size W w')) (by kernel_rfl) (hS.out _ _ hR ((Below.refl W.heap.size W).drew)) (fun hHeld => ?_)
  refine wpAnyH_take (i := 0) (oi := _) (v := ?_) rfl (by kernel_rfl) (by kernel_rfl) (by kernel_rfl) (fun _ _ _ h => h) (Or.inl ⟨by rfl, ?_⟩) (by assumption) ?_
  rotate_left; (intro wS hSw; (try dsimp only at hSw); go_simp <;> with_reducible rfl)
  try simp only [List.getElem_toArray, List.getElem_cons_zero, List.getElem_cons_succ, Act.put, List.setIfInBounds_toArray, List.set_cons_zero, List.set_cons_succ]
  refine wpAnyH_take (i := 1) (oi := _) (v := ?_) rfl (by kernel_rfl) (by kernel_rfl) (by kernel_rfl) (fun _ _ _ h => h) (Or.inl ⟨by rfl, ?_⟩) (by assumption) ?_
  rotate_left; (intro wS hSw; (try dsimp only at hSw); go_simp <;> with_reducible rfl)
  try simp only [List.getElem_toArray, List.getElem_cons_zero, List.getElem_cons_succ, Act.put, List.setIfInBounds_toArray, List.set_cons_zero, List.set_cons_succ]
  refine wpAnyH_ready (rs := [2]) (by kernel_rfl) (by simp) ?_
  refine AllReadyH.cons rfl (fun K hK => ?_) AllReadyH.nil
  go_simp
  (with_reducible refine (lvalid_any P Q G Y ys yn yc B rows bn bc true HVL hyn hbn hQ _ ?_ ?_ ?_).mono ?_); (go_split_ands; exact hOV.out _ (by assumption)); (go_split_ands; exact hOY.out _ (by assumption)); (go_split_ands; exact hOB.out _ (by assumption)); rintro e wA ⟨rfl, hbA⟩
  refine hK.out _ _ ?_ (fun hHeld => ?_)
  · (go_split_ands; exact hS.out _ _ (by assumption) hbA)
  clear hK K
  try simp only [List.getElem_toArray, List.getElem_cons_zero, List.getElem_cons_succ, Act.put, List.setIfInBounds_toArray, List.set_cons_zero, List.set_cons_succ]
  refine wpAnyH_take (i := 3) (oi := _) (v := ?_) rfl (by kernel_rfl) (by kernel_rfl) (by kernel_rfl) (fun _ _ _ h => h) (Or.inl ⟨by rfl, ?_⟩) (by assumption) ?_
  rotate_left; (intro wS hSw; (try dsimp only at hSw); go_simp <;> with_reducible rfl)
  try simp only [List.getElem_toArray, List.getElem_cons_zero, List.getElem_cons_succ, Act.put, List.setIfInBounds_toArray, List.set_cons_zero, List.set_cons_succ]
  refine wpAnyH_take (i := 4) (oi := _) (v := ?_) rfl (by kernel_rfl) (by kernel_rfl) (by kernel_rfl) (fun _ _ _ h => h) (Or.inl ⟨by rfl, ?_⟩) (by assumption) ?_
  rotate_left; (intro wS hSw; (try dsimp only at hSw); go_simp <;> with_reducible rfl)
  try simp only [List.getElem_toArray, List.getElem_cons_zero, List.getElem_cons_succ, Act.put, List.setIfInBounds_toArray, List.set_cons_zero, List.set_cons_succ]
  refine wpAnyH_take (i := 5) (oi := _) (v := ?_) rfl (by kernel_rfl) (by kernel_rfl) (by kernel_rfl) (fun _ _ _ h => h) (Or.inl ⟨by rfl, ?_⟩) (by assumption) ?_
  rotate_left; (intro wS hSw; (try dsimp only at hSw); go_simp <;> with_reducible rfl)
  try simp only [List.getElem_toArray, List.getElem_cons_zero, List.getElem_cons_succ, Act.put, List.setIfInBounds_toArray, List.set_cons_zero, List.set_cons_succ]
  refine wpAnyH_take (i := 6) (oi := _) (v := ?_) rfl (by kernel_rfl) (by kernel_rfl) (by kernel_rfl) (fun _ _ _ h => h) (Or.inl ⟨by rfl, ?_⟩) (by assumption) ?_
  rotate_left; (intro wS hSw; (try dsimp only at hSw); go_simp <;> with_reducible rfl)
  try simp only [List.getElem_toArray, List.getElem_cons_zero, List.getElem_cons_succ, Act.put, List.setIfInBounds_toArray, List.set_cons_zero, List.set_cons_succ]
  refine wpAnyH_ready (rs := [7]) (by kernel_rfl) (by simp) ?_
  refine AllReadyH.cons rfl (fun K hK => ?_) AllReadyH.nil
  go_simp
  (with_reducible refine (lunknowns_any Y yn yc B rows bn bc n0 hbn hbp HN _ ?_).mono ?_); (go_split_ands; exact hOB.out _ (by assumption)); rintro e wA ⟨rfl, hbA⟩
  refine hK.out _ _ ?_ (fun hHeld => ?_)
  · (go_split_ands; exact hS.out _ _ (by assumption) hbA)
  clear hK K
  try simp only [List.getElem_toArray, List.getElem_cons_zero, List.getElem_cons_succ, Act.put, List.setIfInBounds_toArray, List.set_cons_zero, List.set_cons_succ]
  refine wpAnyH_take (i := 8) (oi := _) (v := ?_) rfl (by kernel_rfl) (by kernel_rfl) (by kernel_rfl) (fun _ _ _ h => h) (Or.inl ⟨by rfl, ?_⟩) (by assumption) ?_
  rotate_left; (intro wS hSw; (try dsimp only at hSw); go_simp <;> with_reducible rfl)
  try simp only [List.getElem_toArray, List.getElem_cons_zero, List.getElem_cons_succ, Act.put, List.setIfInBounds_toArray, List.set_cons_zero, List.set_cons_succ]
  refine wpAnyH_take (i := 9) (oi := _) (v := ?_) rfl (by kernel_rfl) (by kernel_rfl) (by kernel_rfl) (fun _ _ _ h => h) (Or.inl ⟨by rfl, ?_⟩) (by assumption) ?_
  rotate_left; (intro wS hSw; (try dsimp only at hSw); go_simp <;> with_reducible rfl)
  try simp only [List.getElem_toArray, List.getElem_cons_zero, List.getElem_cons_succ, Act.put, List.setIfInBounds_toArray, List.set_cons_zero, List.set_cons_succ]
  refine wpAnyH_take (i := 10) (oi := _) (v := ?_) rfl (by kernel_rfl) (by kernel_rfl) (by kernel_rfl) (fun _ _ _ h => h) (Or.inl ⟨by rfl, ?_⟩) (by assumption) ?_
  rotate_left; (intro wS hSw; (try dsimp only at hSw); go_simp <;> with_reducible rfl)
  try simp only [List.getElem_toArray, List.getElem_cons_zero, List.getElem_cons_succ, Act.put, List.setIfInBounds_toArray, List.set_cons_zero, List.set_cons_succ]
  refine wpAnyH_take (i := 11) (oi := _) (v := ?_) rfl (by kernel_rfl) (by kernel_rfl) (by kernel_rfl) (fun _ _ _ h => h) (Or.inl ⟨by rfl, ?_⟩) (by assumption) ?_
  rotate_left; (intro wS hSw; (try dsimp only at hSw); go_simp <;> with_reducible rfl)
  try simp only [List.getElem_toArray, List.getElem_cons_zero, List.getElem_cons_succ, Act.put, List.setIfInBounds_toArray, List.set_cons_zero, List.set_cons_succ]
  refine wpAnyH_take (i := 12) (oi := _) (v := ?_) rfl (by kernel_rfl) (by kernel_rfl) (by kernel_rfl) (fun _ _ _ h => h) (Or.inl ⟨by rfl, ?_⟩) (by assumption) ?_
  rotate_left; (intro wS hSw; (try dsimp only at hSw); go_simp <;> with_reducible rfl)
  try simp only [List.getElem_toArray, List.getElem_cons_zero, List.getElem_cons_succ, Act.put, List.setIfInBounds_toArray, List.set_cons_zero, List.set_cons_succ]
  refine wpAnyH_ready (rs := [13]) (by kernel_rfl) (by simp) ?_
  refine AllReadyH.cons rfl (fun K hK => ?_) AllReadyH.nil
  go_simp
  (with_reducible refine (scalars_any P Q G L ls ln lc false Hl hln (Lib.hid hlb) _ ?_).mono ?_); (go_split_ands; exact hOL.out _ (by assumption)); rintro e wA ⟨rfl, hbA⟩
  refine hK.out _ _ ?_ (fun hHeld => ?_)
  · (go_split_ands; exact hS.out _ _ (by assumption) hbA)
  clear hK K
  try simp only [List.getElem_toArray, List.getElem_cons_zero, List.getElem_cons_succ, Act.put, List.setIfInBounds_toArray, List.set_cons_zero, List.set_cons_succ]
  refine wpAnyH_take (i := 14) (oi := _) (v := ?_) rfl (by kernel_rfl) (by kernel_rfl) (by kernel_rfl) (fun _ _ _ h => h) (Or.inl ⟨by rfl, ?_⟩) (by assumption) ?_
  rotate_left; (intro wS hSw; (try dsimp only at hSw); go_simp <;> with_reducible rfl)
  try simp only [List.getElem_toArray, List.getElem_cons_zero, List.getElem_cons_succ, Act.put, List.setIfInBounds_toArray, List.set_cons_zero, List.set_cons_succ]
  refine wpAnyH_take (i := 15) (oi := _) (v := ?_) rfl (by kernel_rfl) (by kernel_rfl) (by kernel_rfl) (fun _ _ _ h => h) (Or.inl ⟨by rfl, ?_⟩) (by assumption) ?_
  rotate_left; (intro wS hSw; (try dsimp only at hSw); go_simp <;> with_reducible rfl)
  try simp only [List.getElem_toArray, List.getElem_cons_zero, List.getElem_cons_succ, Act.put, List.setIfInBounds_toArray, List.set_cons_zero, List.set_cons_succ]
  refine wpAnyH_take (i := 16) (oi := _) (v := undef) rfl (by kernel_rfl) (by kernel_rfl) (by kernel_rfl) (fun _ _ _ h => h) (Or.inr ⟨by rfl, rfl⟩) (by assumption) ?_
  try simp only [List.getElem_toArray, List.getElem_cons_zero, List.getElem_cons_succ, Act.put, List.setIfInBounds_toArray, List.set_cons_zero, List.set_cons_succ]
  refine wpAnyH_take (i := 17) (oi := _) (v := undef) rfl (by kernel_rfl) (by kernel_rfl) (by kernel_rfl) (fun _ _ _ h => h) (Or.inr ⟨by rfl, rfl⟩) (by assumption) ?_
  try simp only [List.getElem_toArray, List.getElem_cons_zero, List.getElem_cons_succ, Act.put, List.setIfInBounds_toArray, List.set_cons_zero, List.set_cons_succ]
  refine wpAnyH_take (i := 18) (oi := _) (v := undef) rfl (by kernel_rfl) (by kernel_rfl) (by kernel_rfl) (fun _ _ _ h => h) (Or.inr ⟨by rfl, rfl⟩) (by assumption) ?_
  try simp only [List.getElem_toArray, List.getElem_cons_zero, List.getElem_cons_succ, Act.put, List.setIfInBounds_toArray, List.set_cons_zero, List.set_cons_succ]
  refine wpAnyH_take (i := 19) (oi := _) (v := undef) rfl (by kernel_rfl) (by kernel_rfl) (by kernel_rfl) (fun _ _ _ h => h) (Or.inr ⟨by rfl, rfl⟩) (by assumption) ?_
  try simp only [List.getElem_toArray, List.getElem_cons_zero, List.getElem_cons_succ, Act.put, List.setIfInBounds_toArray, List.set_cons_zero, List.set_cons_succ]
  refine wpAnyH_take (i := 20) (oi := _) (v := undef) rfl (by kernel_rfl) (by kernel_rfl) (by kernel_rfl) (fun _ _ _ h => h) (Or.inr ⟨by rfl, rfl⟩) (by assumption) ?_
  try simp only [List.getElem_toArray, List.getElem_cons_zero, List.getElem_cons_succ, Act.put, List.setIfInBounds_toArray, List.set_cons_zero, List.set_cons_succ]
  refine wpAnyH_take (i := 21) (oi := _) (v := undef) rfl (by kernel_rfl) (by kernel_rfl) (by kernel_rfl) (fun _ _ _ h => h) (Or.inr ⟨by rfl, rfl⟩) (by assumption) ?_
  try simp only [List.getElem_toArray, List.getElem_cons_zero, List.getElem_cons_succ, Act.put, List.setIfInBounds_toArray, List.set_cons_zero, List.set_cons_succ]
  refine wpAnyH_take (i := 22) (oi := _) (v := undef) rfl (by kernel_rfl) (by kernel_rfl) (by kernel_rfl) (fun _ _ _ h => h) (Or.inr ⟨by rfl, rfl⟩) (by assumption) ?_
  try simp only [List.getElem_toArray, List.getElem_cons_zero, List.getElem_cons_succ, Act.put, List.setIfInBounds_toArray, List.set_cons_zero, List.set_cons_succ]
  refine wpAnyH_take (i := 23) (oi := _) (v := undef) rfl (by kernel_rfl) (by kernel_rfl) (by kernel_rfl) (fun _ _ _ h => h) (Or.inr ⟨by rfl, rfl⟩) (by assumption) ?_
  try simp only [List.getElem_toArray, List.getElem_cons_zero, List.getElem_cons_succ, Act.put, List.setIfInBounds_toArray, List.set_cons_zero, List.set_cons_succ]
  refine wpAnyH_take (i := 24) (oi := _) (v := ?_) rfl (by kernel_rfl) (by kernel_rfl) (by kernel_rfl) (fun _ _ _ h => h) (Or.inl ⟨by rfl, ?_⟩) (by assumption) ?_
  rotate_left; (intro wS hSw; (try dsimp only at hSw); go_simp <;> with_reducible rfl)
  try simp only [List.getElem_toArray, List.getElem_cons_zero, List.getElem_cons_succ, Act.put, List.setIfInBounds_toArray, List.set_cons_zero, List.set_cons_succ]
  refine wpAnyH_take (i := 25) (oi := _) (v := ?_) rfl (by kernel_rfl) (by kernel_rfl) (by kernel_rfl) (fun _ _ _ h => h) (Or.inl ⟨by rfl, ?_⟩) (by assumption) ?_
  rotate_left; (intro wS hSw; (try dsimp only at hSw); go_simp <;> with_reducible rfl)
  try simp only [List.getElem_toArray, List.getElem_cons_zero, List.getElem_cons_succ, Act.put, List.setIfInBounds_toArray, List.set_cons_zero, List.set_cons_succ]
  refine wpAnyH_done (by kernel_rfl) ?_ _
  obtain ⟨x0, x1, x2, x3, x4, HBA⟩ := hHeld
  have hbF := below_ext HBw.out HBA.out
  go_wp2
  go_ret
  exact ⟨rfl, hbF⟩
set_option maxHeartbeats 12800000 in
theorem lholds_e (P Q G : Int) (Y : Option Addr) (ys : List Int) (yn yc : Nat) (B : Option Addr) (rows : List Row) (bn bc : Nat) (L : Option Addr) (ls : List Int) (ln lc : Nat) (hyn : Hid (ys.length = yn)) (hbn : Hid (rows.length = bn)) (hln : Hid (ls.length = ln)) (hlb : ln < 1000000) (HVL : Hid (validR P Q G ys rows = true)) (hlen : ls.length = rowN rows) (Hl : Hid (ls.all (scB Q) = true)) (hQ : Q < 9223372036854775808) (w : World) (hv : Hid (Vars w)) (hY : Hid (Sl w Y ys)) (hB : Hid (Rw w B rows)) (hL : Hid (Sl w L ls)) :
    Calls Tryz.prog 42 #[gv P Q G, relV Y yn yc B bn bc, .slice L ln lc] w fun e' w' => e' = .returned (.bool ((rows.map fun r => prodF P 1 r.xs ls) == ys)) ∧ Below w.heap.size w w' := by
  obtain ⟨W, hW⟩ : ∃ W, (w.alloc (gObj P Q G)).alloc (relO Y yn yc B bn bc) = W := ⟨_, rfl⟩
  have HBw : Hid (Below w.heap.size w W) := Lib.hid (by rw [← hW]; exact below_two (Below.refl _ _))
  have HX0 : Hid (GBox W w.heap.size P Q G) := Lib.hid (by rw [← hW]; exact (gbox_alloc w P Q G).below (below_box0 _ _))
  have HR0 : Hid (RBox W (w.heap.size + 1) (.slice Y yn yc) (.slice B bn bc)) := Lib.hid (by rw [← hW]; exact rbox_alloc1 _ _ _ _ _)
  have hOY := Lib.hid (show ∀ u1 : World, Hid (Below W.heap.size W u1) → Hid (Sl u1 Y ys) from fun u1 h1 => Lib.hid (hY.out.below (below_ext HBw.out h1.out)))
  have hOB := Lib.hid (show ∀ u1 : World, Hid (Below W.heap.size W u1) → Hid (Rw u1 B rows) from fun u1 h1 => Lib.hid (hB.out.below (below_ext HBw.out h1.out)))
  have hOL := Lib.hid (show ∀ u1 : World, Hid (Below W.heap.size W u1) → Hid (Sl u1 L ls) from fun u1 h1 => Lib.hid (hL.out.below (below_ext HBw.out h1.out)))
  have hOV := Lib.hid (show ∀ u1 : World, Hid (Below W.heap.size W u1) → Hid (Vars u1) from fun u1 h1 => Lib.hid (hv.out.below (below_ext HBw.out h1.out)))
  have hS := Lib.hid (show ∀ u1 u2 : World, Hid (Below W.heap.size W u1) → Below u1.heap.size u1 u2 → (u2.cell? ⟨w.heap.size, 0, none⟩ = some (.int .i64 P) ∧ u2.cell? ⟨w.heap.size, 1, none⟩ = some (.int .i64 Q) ∧ u2.cell? ⟨w.heap.size, 2, none⟩ = some (.int .i64 G) ∧ u2.cell? ⟨w.heap.size + 1, 0, none⟩ = some (.slice Y yn yc) ∧ u2.cell? ⟨w.heap.size + 1, 1, none⟩ = some (.slice B bn bc) ∧ Hid (Below W.heap.size W u2)) from fun u1 u2 h1 h2 => have h3 := below_ext h1.out h2; ⟨(HX0.out.below h3).1, (HX0.out.below h3).2.1, (HX0.out.below h3).2.2, (HR0.out.below h3).1, (HR0.out.below h3).2, Lib.hid h3⟩)
  have hR : Hid (Below W.heap.size W W) := Lib.hid (Below.refl _ _)
  have HW := Lib.hid hW
  clear hW hY hB hL
  obtain ⟨v1, v2, v3, v4, v5, v6, v7, v8⟩ := validR_parts HVL.out
  have hbp : 0 < bn := by rw [← hbn.out]; omega
  obtain ⟨n0, hn0⟩ : ∃ n, rowN rows = n := ⟨_, rfl⟩
  have HN := Lib.hid hn0
  have heq : ((ln : Int) == (n0 : Int)) = true := by rw [← hln.out, ← hn0]; simp; omega
  obtain ⟨hp2, hp, hq3, hqp⟩ := validG_P v1
  rw [← hlen, hln.out] at v8
  have HRB := Lib.hid v8
  have hby : bn = yn := by rw [← hbn.out, ← hyn.out]; exact v4
  have hb8 : bn ≤ 8 := by rw [← hbn.out]; omega
  subst hby
  have hzl : (rows.map fun r => prodF P 1 r.xs ls).length = bn := by rw [List.length_map]; exact hbn.out
  clear v1 v2 v3 v4 v5 v6 v7 v8 hn0 hlen
  go_enter Tryz.func42, Tryz.ntmps42
  go_wp2_with fail
  rw [HW.out]
  go_region_held3 (fun w' => w'.cell? ⟨w.heap.size, 0, none⟩ = some (.int .i64 P) ∧ w'.cell? ⟨w.heap.size, 1, none⟩ = some (.int .i64 Q) ∧ w'.cell? ⟨w.heap.size, 2, none⟩ = some (.int .i64 G) ∧ w'.cell? ⟨w.heap.size + 1, 0, none⟩ = some (.slice Y bn yc) ∧ w'.cell? ⟨w.heap.size + 1, 1, none⟩ = some (.slice B bn bc) ∧ Hid (Below W.heap.size W w'))
    (first | exact hS.out _ _ hR ((Below.refl W.heap.size W).drew) | (go_split_ands; exact hS.out _ _ (by assumption) hbA) | go_keep)
    ((first
      | (go_at_call 45; (with_reducible refine (lvalid_any P Q G Y ys bn yc B rows bn bc true HVL hyn hbn hQ _ ?_ ?_ ?_).mono ?_); (go_split_ands; exact hOV.out _ (by assumption)); (go_split_ands; exact hOY.out _ (by assumption)); (go_split_ands; exact hOB.out _ (by assumption)); rintro e wA ⟨rfl, hbA⟩)
      | (go_at_call 46; (with_reducible refine (lunknowns_any Y bn yc B rows bn bc n0 hbn hbp HN _ ?_).mono ?_); (go_split_ands; exact hOB.out _ (by assumption)); rintro e wA ⟨rfl, hbA⟩)
      | (go_at_call 47; (with_reducible refine (scalars_any P Q G L ls ln lc true Hl hln (Lib.hid hlb) _ ?_).mono ?_); (go_split_ands; exact hOL.out _ (by assumption)); rintro e wA ⟨rfl, hbA⟩)
      | (go_at_call 58; (with_reducible refine (lproducts_any P Q G B rows bn bc L ls ln lc hbn hln hlb (by omega) HRB Hl hp2 hp hQ _ ?_ ?_).mono ?_); (go_split_ands; exact hOB.out _ (by assumption)); (go_split_ands; exact hOL.out _ (by assumption)); (intro e wA hA; obtain ⟨g, cap, rfl, hcA, hbA⟩ := hA.cells hzl hbp))
      | (go_at_call 32; (with_reducible refine (eq_any g bn cap (rows.map fun r => prodF P 1 r.xs ls) Y ys bn yc hzl hyn hbp (by omega) (by omega) _ hcA ?_).mono ?_); (go_split_ands; exact hOY.out _ (by assumption)); rintro e wA ⟨rfl, hbA⟩)))
  rename_i hHeld
  obtain ⟨x0, x1, x2, x3, x4, HBA⟩ := hHeld
  have hbF := below_ext HBw.out HBA.out
  go_wp2
  go_ret
  exact ⟨rfl, hbF⟩
theorem lholds_any (P Q G : Int) (Y : Option Addr) (ys : List Int) (yn yc : Nat) (B : Option Addr) (rows : List Row) (bn bc : Nat) (L : Option Addr) (ls : List Int) (ln lc : Nat) (r : Bool) (hr : Hid (holdsB P Q G ys rows ls = r)) (hyn : Hid (ys.length = yn)) (hbn : Hid (rows.length = bn)) (hln : Hid (ls.length = ln)) (hlb : ln < 1000000) (hQ : Q < 9223372036854775808) (w : World) (hv : Hid (Vars w)) (hY : Hid (Sl w Y ys)) (hB : Hid (Rw w B rows)) (hL : Hid (Sl w L ls)) :
    Calls Tryz.prog 42 #[gv P Q G, relV Y yn yc B bn bc, .slice L ln lc] w fun e' w' => e' = .returned (.bool r) ∧ Below w.heap.size w w' := by
  have hr' := hr.out
  unfold holdsB at hr'
  cases h1 : validR P Q G ys rows with
  | false =>
    obtain rfl : r = false := by rw [← hr', h1, Bool.false_and]
    exact lholds_v P Q G Y ys yn yc B rows bn bc L ls ln lc hyn hbn hln hlb (Lib.hid h1) hQ w hv hY hB hL
  | true =>
    rw [h1, Bool.true_and] at hr'
    by_cases h2 : ls.length = rowN rows
    · rw [decide_eq_true h2, Bool.true_and] at hr'
      cases h3 : ls.all (scB Q) with
      | false =>
        obtain rfl : r = false := by rw [← hr', h3, Bool.false_and]
        exact lholds_s P Q G Y ys yn yc B rows bn bc L ls ln lc hyn hbn hln hlb (Lib.hid h1) h2 (Lib.hid h3) hQ w hv hY hB hL
      | true =>
        rw [h3, Bool.true_and] at hr'
        rw [← hr']
        exact lholds_e P Q G Y ys yn yc B rows bn bc L ls ln lc hyn hbn hln hlb (Lib.hid h1) h2 (Lib.hid h3) hQ w hv hY hB hL
    · obtain rfl : r = false := by rw [← hr', decide_eq_false h2, Bool.false_and]
      exact lholds_n P Q G Y ys yn yc B rows bn bc L ls ln lc hyn hbn hln hlb (Lib.hid h1) h2 hQ w hv hY hB hL
end Go.Proofs.YtcmidgdhihmppaaGreatDoor
namespace Go.Proofs.YtcmidgdhihmppaaGreatDoor
open Go.RowKit SpM
set_option linter.unusedVariables false
set_option linter.unusedSimpArgs false
set_option maxRecDepth 20000
/-- at most 12 equations, and rows of at most 20. -/
def fewB (yn bn : Nat) (rows : List Row) : Bool := decide (yn ≤ 12) && (decide (bn ≤ 12) && rows.all (fun r => decide (r.n ≤ 20)))
theorem says_few (W : World) : SaysR 44 #[] (fun r => !decide (r.n ≤ 20)) W := fun r w1 hb hok => by
  obtain ⟨p, m, c, xs⟩ := r
  show Calls Tryz.prog 44 #[.slice p m c] w1 fun e w' => e = .returned (.bool (!decide (m ≤ 20))) ∧ Below w1.heap.size w1 w'
  by_cases hm : m ≤ 20
  · have d : decide ((20 : Int) < (m : Int)) = false := by simp; omega
    rw [decide_eq_true hm]
    clear hb hok
    go_enter Tryz.func44, Tryz.ntmps44
    go_wp2
    go_ret
    exact ⟨rfl, Below.refl _ _⟩
  · have d : decide ((20 : Int) < (m : Int)) = true := by simp; omega
    rw [decide_eq_false hm]
    clear hb hok
    go_enter Tryz.func44, Tryz.ntmps44
    go_wp2
    go_ret
    exact ⟨rfl, Below.refl _ _⟩
theorem few_any (Y : Option Addr) (yn yc : Nat) (B : Option Addr) (rows : List Row) (bn bc : Nat) (r : Bool) (hr : Hid (fewB yn bn rows = r)) (hbn : Hid (rows.length = bn)) (w : World) (hB : Hid (Rw w B rows)) :
    Calls Tryz.prog 9 #[relV Y yn yc B bn bc] w fun e' w' => e' = .returned (.bool r) ∧ Below w.heap.size w w' := by
  have hr' := hr.out
  unfold fewB at hr'
  by_cases h1 : yn ≤ 12
  · have d1 : decide ((yn : Int) ≤ 12) = true := by simp; omega
    rw [decide_eq_true h1, Bool.true_and] at hr'
    by_cases h2 : bn ≤ 12
    · have d2 : decide ((bn : Int) ≤ 12) = true := by simp; omega
      rw [decide_eq_true h2, Bool.true_and] at hr'
      have HB0 := Lib.hid (hB.out.below (below_box0 w (relO Y yn yc B bn bc)))
      have HP : Hid ((rows.any fun x => !decide (x.n ≤ 20)) = !r) := Lib.hid (by rw [anyR_not_all, hr'])
      have HSy := Lib.hid (says_few (w.alloc (relO Y yn yc B bn bc)))
      clear hr hr' hB
      go_enter Tryz.func9, Tryz.ntmps9
      go_wp2_with fail
      refine (cfr_few (fun x => !decide (x.n ≤ 20)) (!r) B rows bn bc HP hbn (Lib.hid (by omega)) _ HB0 HSy).mono ?_
      rintro e w1 ⟨rfl, hb0⟩
      have hbF := below_ext (below_box0 _ _) hb0
      clear hb0
      go_wp2
      go_ret
      exact ⟨by simp, hbF⟩
    · have d2 : decide ((bn : Int) ≤ 12) = false := by simp; omega
      rw [decide_eq_false h2, Bool.false_and] at hr'
      subst hr'
      clear hr hB
      go_enter Tryz.func9, Tryz.ntmps9
      go_wp2
      go_ret
      exact ⟨rfl, below_box0 _ _⟩
  · have d1 : decide ((yn : Int) ≤ 12) = false := by simp; omega
    rw [decide_eq_false h1, Bool.false_and] at hr'
    subst hr'
    clear hr hB
    go_enter Tryz.func9, Tryz.ntmps9
    go_wp2
    go_ret
    exact ⟨rfl, below_box0 _ _⟩
end Go.Proofs.YtcmidgdhihmppaaGreatDoor
namespace Go.Proofs.YtcmidgdhihmppaaGreatDoor
open Go.RowKit SpM
set_option linter.unusedVariables false
set_option linter.unusedSimpArgs false
set_option maxRecDepth 20000
theorem OwnL.rowF {w : World} {B : Nat} {v : Value} {xs : List Int} (h : OwnL w B v xs) (hne : 0 < xs.length) : ∃ g cap, v = .slice (some ⟨g, 0, none⟩) xs.length cap ∧ B ≤ g ∧ RowF w g xs.length (fun j => xs.getD j 0) := by
  obtain ⟨g, cap, hv, hg, hc⟩ := OwnL.cells h hne
  obtain ⟨_, h2⟩ := h
  rcases h2 with ⟨_, h0⟩ | ⟨g', cap', cur, hv', _, hh, _⟩
  · omega
  · rw [hv] at hv'
    cases hv'
    exact ⟨g, cap, hv, hg, fun j hj => hc j hj, fun j => frozen_blk hh j⟩
theorem RowF.below {w w' : World} {g n : Nat} {f : Nat → Int} (h : RowF w g n f) (hn : 0 < n) (hb : Below w.heap.size w w') : RowF w' g n f := by
  have hg : g < w.heap.size := World.block_lt_of_cell? _ _ (h.1 0 hn)
  exact ⟨fun j hj => (hb.cell (p := ⟨g, j, none⟩) hg).trans (h.1 j hj), fun j => (hb.frozen (p := ⟨g, j, none⟩) hg).trans (h.2 j)⟩
/-- the commitment that fits a challenge. -/
def simF (P Q c : Int) (ys : List Int) (rows : List Row) (zs : List Int) (i : Nat) : Int := prodF P 1 (rows.getD i noRow).xs zs * pw (ys.getD i 0) ((Q - c) % Q) P % P
def simR (P Q c : Int) (ys : List Int) (rows : List Row) (zs : List Int) : List Int := (List.range rows.length).map (simF P Q c ys rows zs)
theorem simR_length (P Q c : Int) (ys : List Int) (rows : List Row) (zs : List Int) : (simR P Q c ys rows zs).length = rows.length := by simp [simR]
theorem simR_get {P Q c : Int} {ys : List Int} {rows : List Row} {zs : List Int} {i : Nat} (h : i < rows.length) : (simR P Q c ys rows zs).getD i 0 = simF P Q c ys rows zs i := by
  rw [List.getD_eq_getElem?_getD, List.getElem?_eq_getElem (by rw [simR_length]; exact h)]
  simp [simR]
theorem map_getD {f : Row → Int} {rows : List Row} {i : Nat} (h : i < rows.length) : (rows.map f).getD i 0 = f (rows.getD i noRow) := by
  rw [List.getD_eq_getElem?_getD, List.getElem?_eq_getElem (by simpa using h), List.getD_eq_getElem?_getD, List.getElem?_eq_getElem h]
  simp
theorem prodF_in {P : Int} (hp : 2 ≤ P) : ∀ (xs es : List Int) (acc : Int), 0 ≤ acc → acc < P → 0 ≤ prodF P acc xs es ∧ prodF P acc xs es < P
  | [], es, acc, h0, h1 => by cases es <;> exact ⟨h0, h1⟩
  | x :: xs, [], acc, h0, h1 => ⟨h0, h1⟩
  | x :: xs, e :: es, acc, h0, h1 => by
    rw [prodF]
    exact prodF_in hp xs es _ (Int.emod_nonneg _ (by omega)) (Int.emod_lt_of_pos _ (by omega))
set_option maxHeartbeats 12800000 in
theorem lsim_ok (P Q G : Int) (Y : Option Addr) (ys : List Int) (yc : Nat) (B : Option Addr) (rows : List Row) (n bc : Nat) (c : Int) (L : Option Addr) (zs : List Int) (ln lc : Nat) (HVL : Hid (validR P Q G ys rows = true)) (hyn : Hid (ys.length = n)) (hbn : Hid (rows.length = n)) (hln : Hid (zs.length = ln)) (hlen : zs.length = rowN rows)
    (Hl : Hid (zs.all (scB Q) = true)) (hc0 : 0 ≤ c) (hc1 : c < Q) (hQ : Q < 9223372036854775808) (w : World) (hY : Hid (Sl w Y ys)) (hB : Hid (Rw w B rows)) (hL : Hid (Sl w L zs)) :
    Calls Tryz.prog 48 #[gv P Q G, relV Y n yc B n bc, .int .i64 c, .slice L ln lc] w (CellsOut (simR P Q c ys rows zs) n w) := by
  obtain ⟨v1, v2, v3, v4, v5, v6, v7, v8⟩ := validR_parts HVL.out
  obtain ⟨hp2, hp, hq3, hqp⟩ := validG_P v1
  rw [← hlen, hln.out] at v8
  have HRB := Lib.hid v8
  have hnp : 0 < n := by rw [← hyn.out]; omega
  have hn8 : n ≤ 8 := by rw [← hyn.out]; omega
  have hln12 : ln ≤ 12 := by rw [← hln.out]; omega
  have HYM := Lib.hid v5
  have hzl : (rows.map fun r => prodF P 1 r.xs zs).length = n := by rw [List.length_map]; exact hbn.out
  clear v1 v2 v3 v4 v5 v6 v7 v8
  obtain ⟨b1, o1, rfl, _⟩ := hY.out 0 (by rw [hyn.out]; exact hnp)
  obtain ⟨w0, hW⟩ : ∃ W, (w.alloc (gObj P Q G)).alloc (relO (some ⟨b1, o1, none⟩) n yc B n bc) = W := ⟨_, rfl⟩
  have HBw : Hid (Below w.heap.size w w0) := Lib.hid (by rw [← hW]; exact below_two (Below.refl _ _))
  have HX0 : Hid (GBox w0 w.heap.size P Q G) := Lib.hid (by rw [← hW]; exact (gbox_alloc w P Q G).below (below_box0 _ _))
  have HR0 : Hid (RBox w0 (w.heap.size + 1) (.slice (some ⟨b1, o1, none⟩) n yc) (.slice B n bc)) := Lib.hid (by rw [← hW]; exact rbox_alloc1 _ _ _ _ _)
  have HY0 := Lib.hid (hY.out.below HBw.out)
  have HA0 := Lib.hid (hB.out.below HBw.out)
  have HL0 := Lib.hid (hL.out.below HBw.out)
  have HW := Lib.hid hW
  clear hW hY hB hL
  obtain ⟨d0, d1⟩ := HR0.out
  obtain ⟨c0, c1, c2⟩ := HX0.out
  go_enter Tryz.func48, Tryz.ntmps48
  go_wp2_with fail
  rw [HW.out]
  refine (lproducts_any P Q G B rows n bc L zs ln lc hbn hln (by omega) (by omega) HRB Hl hp2 hp hQ _ HA0 HL0).mono ?_
  rintro e W ⟨v, rfl, ho, hb0⟩
  obtain ⟨g, cap, rfl, hg, hrf⟩ := ho.rowF (by rw [hzl]; exact hnp)
  rw [hzl] at hrf
  have hvl : (Value.slice (some ⟨g, 0, none⟩) ((rows.map fun r => prodF P 1 r.xs zs).length) cap) = .slice (some ⟨g, 0, none⟩) n cap := by rw [hzl]
  rw [hvl]
  have HXW := Lib.hid (HX0.out.below hb0)
  have HRW := Lib.hid (HR0.out.below hb0)
  have HYW := Lib.hid (HY0.out.below hb0)
  have HBW := Lib.hid (below_ext HBw.out hb0)
  have hgw : w.heap.size + 1 < g := by have h1 : w.heap.size + 1 < w0.heap.size := World.block_lt_of_cell? _ _ HR0.out.1; omega
  have hyg : b1 < g := by
    obtain ⟨bb, oo, e1, e2⟩ := HY0.out 0 (by rw [hyn.out]; exact hnp)
    cases e1
    have h1 : b1 < w0.heap.size := World.block_lt_of_cell? _ _ e2
    omega
  have HRF : Hid (RowF W g n (fun j => if j < 0 then simF P Q c ys rows zs j else prodF P 1 (rows.getD j noRow).xs zs)) := Lib.hid ⟨fun j hj => by
    have h1 := hrf.1 j hj
    dsimp only at h1
    rw [map_getD (by rw [hbn.out]; exact hj)] at h1
    dsimp only
    rw [if_neg (by omega)]
    exact h1, hrf.2⟩
  have HG_ := Lib.hid (Nat.le_trans HBw.out.size hg)
  clear ho hb0 hrf hvl hg c0 c1 c2 d0 d1
  obtain ⟨d0, d1⟩ := HRW.out
  go_wp2
  go_loopw [22] (fun i wr => ∃ k : Nat, k ≤ n ∧ i = .int .i64 k ∧ Hid (RowF wr g n (fun j => if j < k then simF P Q c ys rows zs j else prodF P 1 (rows.getD j noRow).xs zs)) ∧ Hid (Below g W wr)) (fun i _ => n - (intOf i).toNat)
  case atStart => exact ⟨0, by omega, rfl, HRF, Lib.hid (Below.refl _ _)⟩
  case round =>
    obtain ⟨k, hk, rfl, HRr, HBr⟩ := hrel
    by_cases hlt : k < n
    · have hkl : k < ys.length := by rw [hyn.out]; exact hlt
      have hkr : k < rows.length := by rw [hbn.out]; exact hlt
      obtain ⟨bb, oo, e1, hi0⟩ := HYW.out k hkl
      cases e1
      have hi1 := (HBr.out.cell (p := ⟨b1, o1 + k, none⟩) hyg).trans hi0
      have c0 := (HBr.out.cell (p := ⟨w.heap.size, 0, none⟩) (by show w.heap.size < g; omega)).trans HXW.out.1
      have c1 := (HBr.out.cell (p := ⟨w.heap.size, 1, none⟩) (by show w.heap.size < g; omega)).trans HXW.out.2.1
      have hcell : wr.cell? ⟨g, k, none⟩ = some (.int .i64 (prodF P 1 (rows.getD k noRow).xs zs)) := by
        have h3 := HRr.out.1 k hlt
        simp only [Nat.lt_irrefl, if_false] at h3
        exact h3
      have hfz := HRr.out.2 k
      have hmy := all_get HYM.out hkl
      obtain ⟨q0, q1⟩ := prodF_in hp2 (rows.getD k noRow).xs zs 1 (by omega) (by omega)
      have hsf : simF P Q c ys rows zs k = prodF P 1 (rows.getD k noRow).xs zs * pw (ys.getD k 0) ((Q - c) % Q) P % P := rfl
      obtain ⟨a, ha⟩ : ∃ a, prodF P 1 (rows.getD k noRow).xs zs = a := ⟨_, rfl⟩
      obtain ⟨y, hy⟩ : ∃ x, ys.getD k 0 = x := ⟨_, rfl⟩
      rw [ha] at hcell q0 q1 hsf
      rw [hy] at hi1 hmy hsf
      have y0 := memG_lo hmy
      have y1 := memG_hi hmy
      obtain ⟨ex, hex⟩ : ∃ e, (Q - c) % Q = e := ⟨_, rfl⟩
      have ex0 : 0 ≤ ex := by rw [← hex]; exact Int.emod_nonneg _ (by omega)
      have ex1 : ex < Q := by rw [← hex]; exact Int.emod_lt_of_pos _ (by omega)
      rw [hex] at hsf
      obtain ⟨p, hpw⟩ : ∃ p, pw y ex P = p := ⟨_, rfl⟩
      obtain ⟨p0, p1⟩ : 0 ≤ p ∧ p < P := by rw [← hpw]; exact pw_lt _ _ _ (by omega)
      rw [hpw] at hsf
      obtain ⟨t, ht⟩ : ∃ t, a * p % P = t := ⟨_, rfl⟩
      rw [ht] at hsf
      have HN : ∀ q, Hid (RowF ((wr.drewN q).setCell ⟨g, k, none⟩ (.int .i64 t)) g n (fun j => if j < k + 1 then simF P Q c ys rows zs j else prodF P 1 (rows.getD j noRow).xs zs)) := fun q => by
        have h3 := rowF_set (RowF.below HRr.out hnp (below_drawN (Below.refl _ _) q)) hlt t
        have e : (fun j => if j = k then t else if j < k then simF P Q c ys rows zs j else prodF P 1 (rows.getD j noRow).xs zs) = (fun j => if j < k + 1 then simF P Q c ys rows zs j else prodF P 1 (rows.getD j noRow).xs zs) := by
          funext j
          by_cases hj : j = k
          · subst hj; rw [if_pos rfl, if_pos (by omega), hsf]
          · rw [if_neg hj]
            by_cases hj2 : j < k
            · rw [if_pos hj2, if_pos (by omega)]
            · rw [if_neg hj2, if_neg (by omega)]
        rw [e] at h3
        exact Lib.hid h3
      have HNH := Lib.hid HN
      have HB2 := Lib.hid (show ∀ q, Hid (Below g W ((wr.drewN q).setCell ⟨g, k, none⟩ (.int .i64 t))) from fun q => Lib.hid ((below_drawN HBr.out q).setCell (Nat.le_refl _) _))
      have hdf : IntKind.i64.wrap (Q - c) = Q - c := IntWalk.i64_in _ (by omega)
      have htm : (Q - c).tmod Q = ex := by rw [Int.tmod_eq_emod_of_nonneg (by omega), hex]
      have hwx : IntKind.i64.wrap ex = ex := IntWalk.i64_in _ (by omega)
      have hQn : ¬ (Q = 0) := by omega
      have HP1 := Lib.hid hpw
      have HAC := Lib.hid ht
      have HSF := Lib.hid hsf
      clear hkl hkr hi0 hmy hsf ha hy hex hpw ht HN
      go_wp2
      go_quiet ((go_at_call 77; exact Calls.quiet_of (pow_eq y ex P p HP1 (by omega) hp (by omega) y1 ex0 (by omega) _)))
      go_wp2_with fail
      go_region_with ((go_at_call 60; refine (wmul_eq a p P t HAC hp q0 q1 p0 p1 _).mono ?_; rintro e w' ⟨rfl, n3, rfl⟩))
      all_goals
        go_wp2
        go_roundw
        case rel => exact ⟨k + 1, by omega, by go_num, HNH.out _, HB2.out _⟩
        case measure => simp [intOf]; omega
    · obtain rfl : k = n := by omega
      have HF : Hid (Cells wr g (simR P Q c ys rows zs)) := Lib.hid (fun j hj => by
        rw [simR_length, hbn.out] at hj
        rw [simR_get (by rw [hbn.out]; exact hj), HRr.out.1 j hj]
        dsimp only
        rw [if_pos hj])
      have hbF : Below w.heap.size w wr := HBW.out.trans (HBr.out.mono HG_.out)
      clear HRr hlt
      go_wp2
      go_ret
      exact ⟨g, cap, rfl, HF, hbF⟩
end Go.Proofs.YtcmidgdhihmppaaGreatDoor
namespace Go.Proofs.YtcmidgdhihmppaaGreatDoor
open Go.RowKit SpM
set_option linter.unusedVariables false
set_option linter.unusedSimpArgs false
set_option maxRecDepth 100000
/-- a proof's value, its block, its box (names apart from layer 16's). -/
abbrev prvL (pa : Option Addr) (na ca : Nat) (C : Int) (pz : Option Addr) (nz cz : Nat) : Value := .agg #[.slice pa na ca, .int .i64 C, .slice pz nz cz]
abbrev prObjL (pa : Option Addr) (na ca : Nat) (C : Int) (pz : Option Addr) (nz cz : Nat) : Obj := .cells #[.slice pa na ca, .int .i64 C, .slice pz nz cz] 29
def PrBox (w : World) (a : Nat) (x y z : Value) : Prop := w.cell? ⟨a, 0, none⟩ = some x ∧ w.cell? ⟨a, 1, none⟩ = some y ∧ w.cell? ⟨a, 2, none⟩ = some z
theorem PrBox.below {w w' : World} {a : Nat} {x y z : Value} (h : PrBox w a x y z) (hb : Below w.heap.size w w') : PrBox w' a x y z :=
  ⟨cell_below h.1 hb, cell_below h.2.1 hb, cell_below h.2.2 hb⟩
theorem prBox_alloc0 (w : World) (T : TypeId) (x y z : Value) : PrBox (w.alloc (.cells #[x, y, z] T)) w.heap.size x y z := ⟨World.cell?_alloc_at _ _ _ _ rfl, World.cell?_alloc_at _ _ _ _ rfl, World.cell?_alloc_at _ _ _ _ rfl⟩
theorem boxes3 (w : World) (o1 o2 : Obj) (T : TypeId) (x y z : Value) : PrBox (((w.alloc o1).alloc o2).alloc (.cells #[x, y, z] T)) (w.heap.size + 2) x y z := by
  have e : ((w.alloc o1).alloc o2).heap.size = w.heap.size + 2 := by simp
  rw [← e]
  exact prBox_alloc0 _ _ _ _ _
theorem boxes3_below {w : World} {o1 o2 o3 : Obj} : Below w.heap.size w (((w.alloc o1).alloc o2).alloc o3) :=
  (((Below.refl _ _).alloc (Nat.le_refl _) _).alloc (by simp) _).alloc (by simp; omega) _
set_option maxHeartbeats 12800000 in
theorem lcheckp_ok (P Q G : Int) (Y : Option Addr) (ys : List Int) (n yc : Nat) (B : Option Addr) (rows : List Row) (bc : Nat) (A : Option Addr) (al : List Int) (ca : Nat) (C : Int) (Z : Option Addr) (zs : List Int) (nz cz : Nat)
    (HVL : Hid (validR P Q G ys rows = true)) (hyn : Hid (ys.length = n)) (hbn : Hid (rows.length = n)) (han : Hid (al.length = n)) (hzn : Hid (zs.length = nz)) (hlen : zs.length = rowN rows) (Hl : Hid (zs.all (scB Q) = true)) (hc0 : 0 ≤ C) (hc1 : C < Q) (r : Bool) (hr : Hid ((simR P Q C ys rows zs == al) = r))
    (hQ : Q < 9223372036854775808) (w : World) (hv : Hid (Vars w)) (hY : Hid (Sl w Y ys)) (hB : Hid (Rw w B rows)) (hA : Hid (Sl w A al)) (hZ : Hid (Sl w Z zs)) :
    Calls Tryz.prog 11 #[gv P Q G, relV Y n yc B n bc, prvL A n ca C Z nz cz] w fun e' w' => e' = .returned (.bool r) ∧ Below w.heap.size w w' := by
  obtain ⟨v1, v2, v3, v4, v5, v6, v7, v8⟩ := validR_parts HVL.out
  have hnp : 0 < n := by rw [← hyn.out]; omega
  have hn8 : n ≤ 8 := by rw [← hyn.out]; omega
  have hz12 : nz ≤ 12 := by rw [← hzn.out]; omega
  have HN : Hid (rowN rows = nz) := Lib.hid (hlen.symm.trans hzn.out)
  have hnn : ((n : Int) != (n : Int)) = false := by simp
  have hzz : ((nz : Int) != (nz : Int)) = false := by simp
  have HSC := Lib.hid (scB_one hc0 hc1)
  have hsl : (simR P Q C ys rows zs).length = n := by rw [simR_length]; exact hbn.out
  clear v1 v2 v3 v4 v5 v6 v7 v8
  obtain ⟨W, hW⟩ : ∃ W, ((w.alloc (gObj P Q G)).alloc (relO Y n yc B n bc)).alloc (prObjL A n ca C Z nz cz) = W := ⟨_, rfl⟩
  have HBw : Hid (Below w.heap.size w W) := Lib.hid (by rw [← hW]; exact boxes3_below)
  have HX0 : Hid (GBox W w.heap.size P Q G) := Lib.hid (by rw [← hW]; exact ((gbox_alloc w P Q G).below (below_box0 _ _)).below (below_box0 _ _))
  have HR0 : Hid (RBox W (w.heap.size + 1) (.slice Y n yc) (.slice B n bc)) := Lib.hid (by rw [← hW]; exact (rbox_alloc1 _ _ _ _ _).below (below_box0 _ _))
  have HP0 : Hid (PrBox W (w.heap.size + 2) (.slice A n ca) (.int .i64 C) (.slice Z nz cz)) := Lib.hid (by rw [← hW]; exact boxes3 w _ _ _ _ _ _)
  have hOV := Lib.hid (show ∀ u1 : World, Hid (Below W.heap.size W u1) → Hid (Vars u1) from fun u1 h1 => Lib.hid (hv.out.below (below_ext HBw.out h1.out)))
  have hOY := Lib.hid (show ∀ u1 : World, Hid (Below W.heap.size W u1) → Hid (Sl u1 Y ys) from fun u1 h1 => Lib.hid (hY.out.below (below_ext HBw.out h1.out)))
  have hOB := Lib.hid (show ∀ u1 : World, Hid (Below W.heap.size W u1) → Hid (Rw u1 B rows) from fun u1 h1 => Lib.hid (hB.out.below (below_ext HBw.out h1.out)))
  have hOA := Lib.hid (show ∀ u1 : World, Hid (Below W.heap.size W u1) → Hid (Sl u1 A al) from fun u1 h1 => Lib.hid (hA.out.below (below_ext HBw.out h1.out)))
  have hOZ := Lib.hid (show ∀ u1 : World, Hid (Below W.heap.size W u1) → Hid (Sl u1 Z zs) from fun u1 h1 => Lib.hid (hZ.out.below (below_ext HBw.out h1.out)))
  have hS := Lib.hid (show ∀ u1 u2 : World, Hid (Below W.heap.size W u1) → Below u1.heap.size u1 u2 → (u2.cell? ⟨w.heap.size, 0, none⟩ = some (.int .i64 P) ∧ u2.cell? ⟨w.heap.size, 1, none⟩ = some (.int .i64 Q) ∧ u2.cell? ⟨w.heap.size, 2, none⟩ = some (.int .i64 G) ∧ u2.cell? ⟨w.heap.size + 1, 0, none⟩ = some (.slice Y n yc) ∧ u2.cell? ⟨w.heap.size + 1, 1, none⟩ = some (.slice B n bc) ∧ u2.cell? ⟨w.heap.size + 2, 0, none⟩ = some (.slice A n ca) ∧ u2.cell? ⟨w.heap.size + 2, 1, none⟩ = some (.int .i64 C) ∧ u2.cell? ⟨w.heap.size + 2, 2, none⟩ = some (.slice Z nz cz) ∧ Hid (Below W.heap.size W u2)) from fun u1 u2 h1 h2 => have h3 := below_ext h1.out h2; ⟨(HX0.out.below h3).1, (HX0.out.below h3).2.1, (HX0.out.below h3).2.2, (HR0.out.below h3).1, (HR0.out.below h3).2, (HP0.out.below h3).1, (HP0.out.below h3).2.1, (HP0.out.below h3).2.2, Lib.hid h3⟩)
  have hR : Hid (Below W.heap.size W W) := Lib.hid (Below.refl _ _)
  have HW := Lib.hid hW
  clear hW hv hY hB hA hZ
  go_enter Tryz.func11, Tryz.ntmps11
  go_wp2_with fail
  rw [HW.out]
  go_region_held3 (fun w' => w'.cell? ⟨w.heap.size, 0, none⟩ = some (.int .i64 P) ∧ w'.cell? ⟨w.heap.size, 1, none⟩ = some (.int .i64 Q) ∧ w'.cell? ⟨w.heap.size, 2, none⟩ = some (.int .i64 G) ∧ w'.cell? ⟨w.heap.size + 1, 0, none⟩ = some (.slice Y n yc) ∧ w'.cell? ⟨w.heap.size + 1, 1, none⟩ = some (.slice B n bc) ∧ w'.cell? ⟨w.heap.size + 2, 0, none⟩ = some (.slice A n ca) ∧ w'.cell? ⟨w.heap.size + 2, 1, none⟩ = some (.int .i64 C) ∧ w'.cell? ⟨w.heap.size + 2, 2, none⟩ = some (.slice Z nz cz) ∧ Hid (Below W.heap.size W w'))
    (first | exact hS.out _ _ hR ((Below.refl W.heap.size W).drew) | (go_split_ands; exact hS.out _ _ (by assumption) hbA) | (go_split_ands; exact hS.out _ _ (by assumption) (below_box0 _ _)) | go_keep)
    ((first
      | (go_at_call 45; (with_reducible refine (lvalid_any P Q G Y ys n yc B rows n bc true HVL hyn hbn hQ _ ?_ ?_ ?_).mono ?_); (go_split_ands; exact hOV.out _ (by assumption)); (go_split_ands; exact hOY.out _ (by assumption)); (go_split_ands; exact hOB.out _ (by assumption)); rintro e wA ⟨rfl, hbA⟩)
      | (go_at_call 46; (with_reducible refine (lunknowns_any Y n yc B rows n bc nz hbn hnp HN _ ?_).mono ?_); (go_split_ands; exact hOB.out _ (by assumption)); rintro e wA ⟨rfl, hbA⟩)
      | (go_at_call 47; (with_reducible refine (scalars_any P Q G Z zs nz cz true Hl hzn (Lib.hid (by omega)) _ ?_).mono ?_); (go_split_ands; exact hOZ.out _ (by assumption)); rintro e wA ⟨rfl, hbA⟩)
      | (go_at_call 47; (with_reducible refine (scalars_any P Q G (some ⟨wA.heap.size, 0, none⟩) [C] 1 1 true HSC (Lib.hid rfl) (Lib.hid (by omega)) _ ?_).mono ?_); exact Lib.hid (sl_of_cells (cells1 wA _ C)); rintro e wA ⟨rfl, hbA⟩)))
  rename_i hHeld
  obtain ⟨x0, x1, x2, x3, x4, x5, x6, x7, HBA⟩ := hHeld
  clear x0 x1 x2 x3 x4 x5 x6 x7
  obtain ⟨W2, hW2⟩ : ∃ x, x = wA := ⟨_, rfl⟩
  go_wp2
  go_region_held3 (fun w' => w'.cell? ⟨w.heap.size, 0, none⟩ = some (.int .i64 P) ∧ w'.cell? ⟨w.heap.size, 1, none⟩ = some (.int .i64 Q) ∧ w'.cell? ⟨w.heap.size, 2, none⟩ = some (.int .i64 G) ∧ w'.cell? ⟨w.heap.size + 1, 0, none⟩ = some (.slice Y n yc) ∧ w'.cell? ⟨w.heap.size + 1, 1, none⟩ = some (.slice B n bc) ∧ w'.cell? ⟨w.heap.size + 2, 0, none⟩ = some (.slice A n ca) ∧ w'.cell? ⟨w.heap.size + 2, 1, none⟩ = some (.int .i64 C) ∧ w'.cell? ⟨w.heap.size + 2, 2, none⟩ = some (.slice Z nz cz) ∧ Hid (Below W.heap.size W w'))
    (first | exact hS.out _ _ HBA ((Below.refl _ _).drew) | (go_split_ands; exact hS.out _ _ (by assumption) hbA) | go_keep)
    ((first
      | (go_at_call 48; (with_reducible refine (lsim_ok P Q G Y ys yc B rows n bc C Z zs nz cz HVL hyn hbn hzn hlen Hl hc0 hc1 hQ _ ?_ ?_ ?_).mono ?_); (go_split_ands; exact hOY.out _ (by assumption)); (go_split_ands; exact hOB.out _ (by assumption)); (go_split_ands; exact hOZ.out _ (by assumption)); rintro e wA ⟨g, cap, rfl, hcA, hbA⟩)
      | (go_at_call 32; (with_reducible refine (eq_any g n cap (simR P Q C ys rows zs) A al n ca hsl han hnp (by omega) (by omega) _ hcA ?_).mono ?_); (go_split_ands; exact hOA.out _ (by assumption)); rintro e wA ⟨rfl, hbA⟩)))
  rename_i hHeld
  obtain ⟨x0, x1, x2, x3, x4, x5, x6, x7, HBF⟩ := hHeld
  have hbF := below_ext HBw.out HBF.out
  clear x0 x1 x2 x3 x4 x5 x6 x7
  go_wp2
  go_ret
  exact ⟨by first | (rw [hr.out]; done) | (rw [hr.out]; rfl) | (rw [hr.out]; simp) | (simp [hr.out]; done), hbF⟩
end Go.Proofs.YtcmidgdhihmppaaGreatDoor
namespace Go.Proofs.YtcmidgdhihmppaaGreatDoor
open Go.RowKit SpM
set_option linter.unusedVariables false
set_option linter.unusedSimpArgs false
set_option maxRecDepth 100000
/-- the relation of the example, laid from block s on. -/
def ex17R (s : Nat) : List Row := [⟨some ⟨s + 1 + 1, 0, none⟩, 1, 1, [2]⟩, ⟨some ⟨s + 1 + 1 + 1, 0, none⟩, 1, 1, [4]⟩]
def Ex17 (w : World) (s : Nat) : Prop := GBox w s 23 11 4 ∧ Sl w (some ⟨s + 1, 0, none⟩) [8, 18] ∧ Rw w (some ⟨s + 1 + 1 + 1 + 1, 0, none⟩) (ex17R s) ∧ RBox w (s + 1 + 1 + 1 + 1 + 1) (.slice (some ⟨s + 1, 0, none⟩) 2 2) (.slice (some ⟨s + 1 + 1 + 1 + 1, 0, none⟩) 2 2)
theorem Ex17.below {w w' : World} {s : Nat} (h : Ex17 w s) (hb : Below w.heap.size w w') : Ex17 w' s := ⟨h.1.below hb, h.2.1.below hb, h.2.2.1.below hb, h.2.2.2.below hb⟩
/-- the world in which the relation is laid. -/
abbrev ex17W (w : World) (T1 T2 T3 : TypeId) : World := (((((w.alloc (gObj 23 11 4)).alloc (.cells #[.int .i64 8, .int .i64 18] T1)).alloc (.cells #[.int .i64 2] T1)).alloc (.cells #[.int .i64 4] T1)).alloc (.cells #[.slice (some ⟨w.heap.size + 1 + 1, 0, none⟩) 1 1, .slice (some ⟨w.heap.size + 1 + 1 + 1, 0, none⟩) 1 1] T2)).alloc (.cells #[.slice (some ⟨w.heap.size + 1, 0, none⟩) 2 2, .slice (some ⟨w.heap.size + 1 + 1 + 1 + 1, 0, none⟩) 2 2] T3)
theorem ex17_laid (w : World) (T1 T2 T3 : TypeId) : Ex17 (ex17W w T1 T2 T3) w.heap.size := by
  unfold ex17W
  obtain ⟨w1, h1⟩ : ∃ x, w.alloc (gObj 23 11 4) = x := ⟨_, rfl⟩
  have s1 : w1.heap.size = w.heap.size + 1 := by rw [← h1]; simp
  have g1 : GBox w1 w.heap.size 23 11 4 := by rw [← h1]; exact gbox_alloc _ _ _ _
  rw [h1]
  obtain ⟨w2, h2⟩ : ∃ x, w1.alloc (.cells #[.int .i64 8, .int .i64 18] T1) = x := ⟨_, rfl⟩
  have s2 : w2.heap.size = w.heap.size + 1 + 1 := by rw [← h2]; simp [s1]
  have b2 : Below w1.heap.size w1 w2 := by rw [← h2]; exact below_box0 _ _
  have y2 : Sl w2 (some ⟨w.heap.size + 1, 0, none⟩) [8, 18] := by rw [← h2, ← s1]; exact sl_of_cells (cells2 _ _ _ _)
  rw [h2]
  obtain ⟨w3, h3⟩ : ∃ x, w2.alloc (.cells #[.int .i64 2] T1) = x := ⟨_, rfl⟩
  have s3 : w3.heap.size = w.heap.size + 1 + 1 + 1 := by rw [← h3]; simp [s2]
  have b3 : Below w2.heap.size w2 w3 := by rw [← h3]; exact below_box0 _ _
  have r3 : Sl w3 (some ⟨w.heap.size + 1 + 1, 0, none⟩) [2] := by rw [← h3, ← s2]; exact sl_of_cells (cells1 _ _ _)
  rw [h3]
  obtain ⟨w4, h4⟩ : ∃ x, w3.alloc (.cells #[.int .i64 4] T1) = x := ⟨_, rfl⟩
  have s4 : w4.heap.size = w.heap.size + 1 + 1 + 1 + 1 := by rw [← h4]; simp [s3]
  have b4 : Below w3.heap.size w3 w4 := by rw [← h4]; exact below_box0 _ _
  have r4 : Sl w4 (some ⟨w.heap.size + 1 + 1 + 1, 0, none⟩) [4] := by rw [← h4, ← s3]; exact sl_of_cells (cells1 _ _ _)
  rw [h4]
  obtain ⟨w5, h5⟩ : ∃ x, w4.alloc (.cells #[.slice (some ⟨w.heap.size + 1 + 1, 0, none⟩) 1 1, .slice (some ⟨w.heap.size + 1 + 1 + 1, 0, none⟩) 1 1] T2) = x := ⟨_, rfl⟩
  have s5 : w5.heap.size = w.heap.size + 1 + 1 + 1 + 1 + 1 := by rw [← h5]; simp [s4]
  have b5 : Below w4.heap.size w4 w5 := by rw [← h5]; exact below_box0 _ _
  have r5 : RBox w5 (w.heap.size + 1 + 1 + 1 + 1) (.slice (some ⟨w.heap.size + 1 + 1, 0, none⟩) 1 1) (.slice (some ⟨w.heap.size + 1 + 1 + 1, 0, none⟩) 1 1) := by rw [← h5, ← s4]; exact rbox_alloc0 _ _ _ _
  rw [h5]
  have q3 := (r3.below b4).below b5
  have q4 := r4.below b5
  have rw5 : Rw w5 (some ⟨w.heap.size + 1 + 1 + 1 + 1, 0, none⟩) (ex17R w.heap.size) := fun k hk => by
    match k, hk with
    | 0, _ => exact ⟨⟨_, _, rfl, r5.1⟩, rfl, q3⟩
    | 1, _ => exact ⟨⟨_, _, rfl, r5.2⟩, rfl, q4⟩
  have b6 := below_box0 w5 (.cells #[.slice (some ⟨w.heap.size + 1, 0, none⟩) 2 2, .slice (some ⟨w.heap.size + 1 + 1 + 1 + 1, 0, none⟩) 2 2] T3)
  exact ⟨((((g1.below b2).below b3).below b4).below b5).below b6, (((y2.below b3).below b4).below b5).below b6, rw5.below b6, by rw [← s5]; exact rbox_alloc0 _ _ _ _⟩
theorem ex17_below (w : World) (T1 T2 T3 : TypeId) : Below w.heap.size w (ex17W w T1 T2 T3) :=
  (((((below_box0 w _).alloc (by simp) _).alloc (by simp; omega) _).alloc (by simp; omega) _).alloc (by simp; omega) _).alloc (by simp; omega) _
theorem ex17_size (w : World) (T1 T2 T3 : TypeId) : (ex17W w T1 T2 T3).heap.size = w.heap.size + 1 + 1 + 1 + 1 + 1 + 1 := by simp
theorem ex17_v (s : Nat) : Hid (validR 23 11 4 [8, 18] (ex17R s) = true) := Lib.hid (by kernel_rfl)
theorem ex17_c (s : Nat) : Hid (chkR 23 11 4 [8, 18] (ex17R s) [5] [] = 0) := Lib.hid (by kernel_rfl)
theorem ex17_p (s : Nat) : ((ex17R s).map fun r => prodF 23 1 r.xs [5]) = [9, 12] := by kernel_rfl
theorem ex17_h (s : Nat) : Hid (holdsB 23 11 4 [8, 18] (ex17R s) [3] = true) := Lib.hid (by kernel_rfl)
theorem ex17_r : rspL 11 2 [5] [3] 1 = [0] := by kernel_rfl
theorem ex17_s (s : Nat) : Hid ((simR 23 11 2 [8, 18] (ex17R s) [0] == [9, 12]) = true) := Lib.hid (by kernel_rfl)
set_option maxHeartbeats 12800000 in
theorem awake17 (w : World) (hv : Hid (Vars w)) :
    Calls Tryz.prog 8 #[] w fun e w' => e = .returned (.bool true) ∧ Below w.heap.size w w' := by
  obtain ⟨W6, hW6⟩ : ∃ x, ex17W w 3 24 27 = x := ⟨_, rfl⟩
  have HE6 : Hid (Ex17 W6 w.heap.size) := Lib.hid (by rw [← hW6]; exact ex17_laid _ _ _ _)
  have hb6 : Below w.heap.size w W6 := by rw [← hW6]; exact ex17_below _ _ _ _
  have hs6 : W6.heap.size = w.heap.size + 1 + 1 + 1 + 1 + 1 + 1 := by rw [← hW6]; exact ex17_size _ _ _ _
  have HW6 := Lib.hid hW6
  clear hW6
  have hq := below_box0 W6 (.cells #[.int .i64 5] 3)
  have HL := Lib.hid (sl_of_cells (cells1 W6 3 5))
  have HE7 := Lib.hid (HE6.out.below hq)
  have hb7 := below_ext hb6 hq
  have HV7 := Lib.hid (hv.out.below hb7)
  rw [hs6] at HL
  obtain ⟨W7, hW7⟩ : ∃ x, W6.alloc (.cells #[.int .i64 5] 3) = x := ⟨_, rfl⟩
  rw [hW7] at HL HE7 hb7 HV7
  have HW7 := Lib.hid hW7
  clear hq hW7
  go_enter Tryz.func8, Tryz.ntmps8
  go_wp2_with fail
  have hh := HW6.out
  dsimp only [ex17W, gObj] at hh
  rw [hh, HW7.out]
  clear hh
  refine (lcommit_ok 23 11 4 (some ⟨w.heap.size + 1, 0, none⟩) [8, 18] 2 2 (some ⟨w.heap.size + 1 + 1 + 1 + 1, 0, none⟩) (ex17R w.heap.size) 2 2 (some ⟨w.heap.size + 1 + 1 + 1 + 1 + 1 + 1, 0, none⟩) [5] 1 1 (ex17_c _) (Lib.hid rfl) (Lib.hid rfl) (Lib.hid rfl) (by omega) (by omega) _ HV7 (Lib.hid HE7.out.2.1) (Lib.hid HE7.out.2.2.1) HL).mono ?_
  rintro e w8 ⟨v, rfl, ho, hb0⟩
  rw [ex17_p] at ho
  obtain ⟨g, cap, rfl, _, hc⟩ := OwnL.cells ho (by simp)
  have hb8 := below_ext hb7 hb0
  have HE8 := Lib.hid (HE7.out.below hb0)
  have HV8 := Lib.hid (HV7.out.below hb0)
  have HC8 := Lib.hid hc
  clear hb0 ho hc
  obtain ⟨⟨c0, c1, c2⟩, _, _, d0, d1⟩ := HE8.out
  go_wp2_with fail
  have hq := (below_box0 w8 (.cells #[.int .i64 5] 3)).trans ((below_box0 (w8.alloc (.cells #[.int .i64 5] 3)) (.cells #[.int .i64 3] 3)).mono (by simp))
  have HK9 := Lib.hid ((sl_of_cells (cells1 w8 3 5)).below (below_box0 _ (.cells #[.int .i64 3] 3)))
  have HX9 := Lib.hid (sl_of_cells (cells1' w8 (.cells #[.int .i64 5] 3) 3 3))
  have HE9 := Lib.hid (HE8.out.below hq)
  have HV9 := Lib.hid (HV8.out.below hq)
  have HC9 := Lib.hid (HC8.out.below hq)
  have hb9 := below_ext hb8 hq
  clear hq c0 c1 c2 d0 d1
  refine (lrespond_ok 23 11 4 (some ⟨w8.heap.size, 0, none⟩) [5] 1 1 2 (some ⟨w8.heap.size + 1, 0, none⟩) [3] 1 (Lib.hid (by kernel_rfl)) (Lib.hid rfl) (Lib.hid rfl) (by omega) (by omega) (Lib.hid (by decide)) (Lib.hid (by decide)) (by omega) (by omega) (by omega) _ HV9 HK9 HX9).mono ?_
  rintro e w10 ⟨v, rfl, ho, hb0⟩
  rw [ex17_r] at ho
  obtain ⟨g2, cap2, rfl, _, hc⟩ := OwnL.cells ho (by simp)
  have hb10 := below_ext hb9 hb0
  have HE10 := Lib.hid (HE9.out.below hb0)
  have HV10 := Lib.hid (HV9.out.below hb0)
  have HC10 := Lib.hid (HC9.out.below hb0)
  have HD10 := Lib.hid hc
  clear hb0 ho hc
  obtain ⟨⟨c0, c1, c2⟩, _, _, d0, d1⟩ := HE10.out
  have hq := below_box0 w10 (.cells #[.int .i64 3] 3)
  have HN10 := Lib.hid (cells1 w10 3 3)
  have HEa := Lib.hid (HE10.out.below hq)
  have HVa := Lib.hid (HV10.out.below hq)
  have HCa := Lib.hid (HC10.out.below hq)
  have HDa := Lib.hid (HD10.out.below hq)
  have hba := below_ext hb10 hq
  obtain ⟨wx, hwx⟩ : ∃ x, w10.alloc (.cells #[.int .i64 3] 3) = x := ⟨_, rfl⟩
  rw [hwx] at HN10 HEa HVa HCa HDa hba
  have HWX := Lib.hid hwx
  clear hq hwx
  go_wp2_with fail
  rw [HWX.out]
  refine (lholds_any 23 11 4 (some ⟨w.heap.size + 1, 0, none⟩) [8, 18] 2 2 (some ⟨w.heap.size + 1 + 1 + 1 + 1, 0, none⟩) (ex17R w.heap.size) 2 2 (some ⟨w10.heap.size, 0, none⟩) [3] 1 1 true (ex17_h _) (Lib.hid rfl) (Lib.hid rfl) (Lib.hid rfl) (by omega) (by omega) _ HVa (Lib.hid HEa.out.2.1) (Lib.hid HEa.out.2.2.1) (Cells.toSl HN10)).mono ?_
  rintro e w11 ⟨rfl, hb0⟩
  have hb11 := below_ext hba hb0
  have HE11 := Lib.hid (HEa.out.below hb0)
  have HV11 := Lib.hid (HVa.out.below hb0)
  have HC11 := Lib.hid (HCa.out.below hb0)
  have HD11 := Lib.hid (HDa.out.below hb0)
  clear hb0 c0 c1 c2 d0 d1 HEa HVa HCa HDa hba HWX HN10
  obtain ⟨⟨c0, c1, c2⟩, _, _, d0, d1⟩ := HE11.out
  have hq := below_box0 w11 (.cells #[.int .i64 9, .int .i64 12] 3)
  have HN11 := Lib.hid (cells2 w11 3 9 12)
  have HEa := Lib.hid (HE11.out.below hq)
  have HVa := Lib.hid (HV11.out.below hq)
  have HCa := Lib.hid (HC11.out.below hq)
  have HDa := Lib.hid (HD11.out.below hq)
  have hba := below_ext hb11 hq
  obtain ⟨wx, hwx⟩ : ∃ x, w11.alloc (.cells #[.int .i64 9, .int .i64 12] 3) = x := ⟨_, rfl⟩
  rw [hwx] at HN11 HEa HVa HCa HDa hba
  have HWX := Lib.hid hwx
  clear hq hwx
  go_wp2_with fail
  rw [HWX.out]
  refine (eq_any g 2 cap [9, 12] (some ⟨w11.heap.size, 0, none⟩) [9, 12] 2 2 rfl (Lib.hid rfl) (by omega) (by omega) (by omega) _ HCa (Cells.toSl HN11)).mono ?_
  rintro e w12 ⟨rfl, hb0⟩
  have hb12 := below_ext hba hb0
  have HE12 := Lib.hid (HEa.out.below hb0)
  have HV12 := Lib.hid (HVa.out.below hb0)
  have HC12 := Lib.hid (HCa.out.below hb0)
  have HD12 := Lib.hid (HDa.out.below hb0)
  clear hb0 c0 c1 c2 d0 d1 HEa HVa HCa HDa hba HWX HN11
  obtain ⟨⟨c0, c1, c2⟩, _, _, d0, d1⟩ := HE12.out
  have hq := below_box0 w12 (.cells #[.int .i64 0] 3)
  have HN12 := Lib.hid (cells1 w12 3 0)
  have HEa := Lib.hid (HE12.out.below hq)
  have HVa := Lib.hid (HV12.out.below hq)
  have HCa := Lib.hid (HC12.out.below hq)
  have HDa := Lib.hid (HD12.out.below hq)
  have hba := below_ext hb12 hq
  obtain ⟨wx, hwx⟩ : ∃ x, w12.alloc (.cells #[.int .i64 0] 3) = x := ⟨_, rfl⟩
  rw [hwx] at HN12 HEa HVa HCa HDa hba
  have HWX := Lib.hid hwx
  clear hq hwx
  go_wp2_with fail
  rw [HWX.out]
  refine (eq_any g2 1 cap2 [0] (some ⟨w12.heap.size, 0, none⟩) [0] 1 1 rfl (Lib.hid rfl) (by omega) (by omega) (by omega) _ HDa (Cells.toSl HN12)).mono ?_
  rintro e w13 ⟨rfl, hb0⟩
  have hb13 := below_ext hba hb0
  have HE13 := Lib.hid (HEa.out.below hb0)
  have HV13 := Lib.hid (HVa.out.below hb0)
  have HC13 := Lib.hid (HCa.out.below hb0)
  have HD13 := Lib.hid (HDa.out.below hb0)
  clear hb0 c0 c1 c2 d0 d1 HEa HVa HCa HDa hba HWX HN12
  obtain ⟨⟨c0, c1, c2⟩, _, _, d0, d1⟩ := HE13.out
  go_wp2_with fail
  refine (lcheckp_ok 23 11 4 (some ⟨w.heap.size + 1, 0, none⟩) [8, 18] 2 2 (some ⟨w.heap.size + 1 + 1 + 1 + 1, 0, none⟩) (ex17R w.heap.size) 2 (some ⟨g, 0, none⟩) [9, 12] cap 2 (some ⟨g2, 0, none⟩) [0] 1 cap2 (ex17_v _) (Lib.hid rfl) (Lib.hid rfl) (Lib.hid rfl) (Lib.hid rfl) rfl (Lib.hid (by decide)) (by omega) (by omega) true (ex17_s _) (by omega) _ HV13 (Lib.hid HE13.out.2.1) (Lib.hid HE13.out.2.2.1) (Cells.toSl HC13) (Cells.toSl HD13)).mono ?_
  rintro e w14 ⟨rfl, hb0⟩
  have hbF := below_ext hb13 hb0
  clear hb0
  go_wp2
  go_ret
  exact ⟨rfl, hbF⟩
end Go.Proofs.YtcmidgdhihmppaaGreatDoor
namespace Go.Proofs.YtcmidgdhihmppaaGreatDoor
open Go.RowKit SpM
set_option linter.unusedVariables false
set_option linter.unusedSimpArgs false
set_option maxRecDepth 100000
theorem Sl.set {w : World} {A : Option Addr} {xs : List Int} {a : Nat} {j : Nat} {v : Value} (h : Sl w A xs) (hne : ∀ b o, A = some ⟨b, o, none⟩ → 0 < xs.length → b ≠ a) : Sl (w.setCell ⟨a, j, none⟩ v) A xs := fun k hk => by
  obtain ⟨b, o, e, hc⟩ := h k hk
  refine ⟨b, o, e, ?_⟩
  have := hne b o e (by omega)
  rw [World.cell?_setCell_far _ _ _ _ (fun e => this e.symm)]
  exact hc
end Go.Proofs.YtcmidgdhihmppaaGreatDoor
