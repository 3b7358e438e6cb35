/- The reference of layer 17: Valid. -/
import Derived.Test.YtijedphpcocfnaaDoorLinH
namespace Go.Proofs.YtijedphpcocfnaaDoor
open Go.RowKit SpM
set_option linter.unusedVariables false
set_option linter.unusedSimpArgs false
set_option maxRecDepth 100000

theorem allR_step {f : Row → Bool} {xs : List Row} {k : Nat} (hk : k < xs.length) : (xs.drop k).all f = (f (xs.getD k noRow) && (xs.drop (k + 1)).all f) := by
  rw [List.drop_eq_getElem_cons hk, List.all_cons, List.getD_eq_getElem?_getD, List.getElem?_eq_getElem hk]
  rfl
theorem allI_step {f : Int → Bool} {xs : List Int} {k : Nat} (hk : k < xs.length) : (xs.drop k).all f = (f (xs.getD k 0) && (xs.drop (k + 1)).all f) := by
  rw [List.drop_eq_getElem_cons hk, List.all_cons, List.getD_eq_getElem?_getD, List.getElem?_eq_getElem hk]
  rfl
/-- what is left to be tested from k on. -/
def leftV (P Q : Int) (n : Nat) (ys : List Int) (rows : List Row) (k : Nat) : Bool := (ys.drop k).all (memG P Q) && (rows.drop k).all (rowB P Q n)
theorem leftV_step {P Q : Int} {n : Nat} {ys : List Int} {rows : List Row} {k : Nat} (hk : k < ys.length) (hr : k < rows.length) :
    leftV P Q n ys rows k = (memG P Q (ys.getD k 0) && (rowB P Q n (rows.getD k noRow) && leftV P Q n ys rows (k + 1))) := by
  rw [leftV, allI_step hk, allR_step hr, leftV]
  cases memG P Q (ys.getD k 0) <;> cases rowB P Q n (rows.getD k noRow) <;> simp

set_option maxHeartbeats 12800000 in
theorem rvloop17 (P Q G : Int) (Y : Option Addr) (ys : List Int) (yn yc : Nat) (B : Option Addr) (rows : List Row) (bc n0 : Nat) (r : Bool) (HG : Hid (validG P Q G = true)) (hr : Hid (leftV P Q n0 ys rows 0 = r)) (hn : Hid (rowN rows = n0)) (hyn : Hid (ys.length = yn)) (hbn : Hid (rows.length = yn))
    (h1 : 1 ≤ yn) (h2 : yn ≤ 8) (h3 : 1 ≤ n0) (h4 : n0 ≤ 12) (hQ : Q < 9223372036854775808) (w : World) (hY : Hid (Sl w Y ys)) (hB : Hid (Rw w B rows)) :
    Calls Tryd.prog 14 #[gv P Q G, relV Y yn yc B yn bc] w fun e' w' => e' = .returned (.bool r) ∧ Below w.heap.size w w' := by
  obtain ⟨hp2, hp, hq3, hqp⟩ := validG_P HG.out
  obtain ⟨b, o, rfl⟩ := hB.out.some (by rw [hbn.out]; omega)
  obtain ⟨b1, o1, rfl, _⟩ := hY.out 0 (by rw [hyn.out]; omega)
  obtain ⟨w0, hW⟩ : ∃ W, (w.alloc (gObj P Q G)).alloc (relO (some ⟨b1, o1, none⟩) yn yc (some ⟨b, o, none⟩) yn bc) = W := ⟨_, rfl⟩
  have HBw : Hid (Below w.heap.size w w0) := Lib.hid (by rw [← hW]; exact below_two (Below.refl _ _))
  have HX0 : Hid (GBox w0 w.heap.size P Q G) := Lib.hid (by rw [← hW]; exact (gbox_alloc w P Q G).below (below_box0 _ _))
  have HR0 : Hid (RBox w0 (w.heap.size + 1) (.slice (some ⟨b1, o1, none⟩) yn yc) (.slice (some ⟨b, o, none⟩) yn bc)) := Lib.hid (by rw [← hW]; exact rbox_alloc1 _ _ _ _ _)
  have HY0 := Lib.hid (hY.out.below HBw.out)
  have HA0 := Lib.hid (hB.out.below HBw.out)
  have HW := Lib.hid hW
  have d1 : decide ((yn : Int) < 1) = false := by simp; omega
  have d2 : decide ((8 : Int) < (yn : Int)) = false := by simp; omega
  have d3 : decide ((n0 : Int) < 1) = false := by simp; omega
  have d4 : decide ((12 : Int) < (n0 : Int)) = false := by simp; omega
  clear hW hY hB
  go_enter Tryd.func14, Tryd.ntmps14
  go_wp2_with fail
  rw [HW.out]
  refine (rvalid_any P Q G true HG hQ _).mono ?_
  rintro e w1 ⟨rfl, hb0⟩
  have hb1 := below_ext HBw.out hb0
  have HX1 := Lib.hid (HX0.out.below hb0)
  have HR1 := Lib.hid (HR0.out.below hb0)
  have HY1 := Lib.hid (HY0.out.below hb0)
  have HA1 := Lib.hid (HA0.out.below hb0)
  clear hb0
  obtain ⟨d5, d6⟩ := HR1.out
  obtain ⟨c0, c1, c2⟩ := HX1.out
  go_wp2_with fail
  refine (runknowns_any (some ⟨b1, o1, none⟩) yn yc (some ⟨b, o, none⟩) rows yn bc n0 hbn (by omega) hn _ HA1).mono ?_
  rintro e W ⟨rfl, hb0⟩
  have HBW := Lib.hid (below_ext hb1 hb0)
  have HXW := Lib.hid (HX1.out.below hb0)
  have HRW := Lib.hid (HR1.out.below hb0)
  have HYW := Lib.hid (HY1.out.below hb0)
  have HAW := Lib.hid (HA1.out.below hb0)
  clear hb0 d5 d6 c0 c1 c2
  go_wp2
  go_loopw [6] (fun i wr => ∃ k : Nat, k ≤ yn ∧ i = .int .i64 k ∧ Hid (leftV P Q n0 ys rows k = r) ∧ Hid (Below W.heap.size W wr)) (fun i _ => yn - (intOf i).toNat)
  case atStart => exact ⟨0, by omega, rfl, hr, Lib.hid (Below.refl _ _)⟩
  case round =>
    obtain ⟨k, hk, rfl, HV_, HBr⟩ := hrel
    obtain ⟨wo, rfl⟩ : ∃ wo : World, wo = wr := ⟨_, rfl⟩
    obtain ⟨d5, d6⟩ := HRW.out.below HBr.out
    by_cases hlt : k < yn
    · have hkl : k < ys.length := by rw [hyn.out]; exact hlt
      have hkr : k < rows.length := by rw [hbn.out]; exact hlt
      obtain ⟨bb, oo, e1, hi0⟩ := HYW.out k hkl
      cases e1
      have hrow := HAW.out.at hkr
      have hok := (HAW.out k hkr).2
      have hst := leftV_step (P := P) (Q := Q) (n := n0) hkl hkr
      rw [HV_.out] at hst
      obtain ⟨y, hy⟩ : ∃ x, ys.getD k 0 = x := ⟨_, rfl⟩
      obtain ⟨R, hR⟩ : ∃ R, rows.getD k noRow = R := ⟨_, rfl⟩
      rw [hy] at hi0 hst
      rw [hR] at hrow hok hst
      obtain ⟨p, rn, rc, xs⟩ := R
      dsimp only [Row.val] at hrow
      have HI0 := Lib.hid hi0
      have HI1 := Lib.hid hrow
      have HL := Lib.hid hok.1
      have HS := Lib.hid hok.2
      have hS := Lib.hid (show ∀ u1 : World, Below W.heap.size W u1 → (u1.cell? ⟨w.heap.size, 0, none⟩ = some (.int .i64 P) ∧ u1.cell? ⟨w.heap.size, 1, none⟩ = some (.int .i64 Q) ∧ u1.cell? ⟨w.heap.size, 2, none⟩ = some (.int .i64 G) ∧ u1.cell? ⟨w.heap.size + 1, 0, none⟩ = some (.slice (some ⟨b1, o1, none⟩) yn yc) ∧ u1.cell? ⟨w.heap.size + 1, 1, none⟩ = some (.slice (some ⟨b, o, none⟩) yn bc) ∧ u1.cell? ⟨b1, o1 + k, none⟩ = some (.int .i64 y) ∧ u1.cell? ⟨b, o + k, none⟩ = some (.slice p rn rc) ∧ Hid (Below W.heap.size W u1)) from fun u1 h1 => ⟨(HXW.out.below h1).1, (HXW.out.below h1).2.1, (HXW.out.below h1).2.2, (HRW.out.below h1).1, (HRW.out.below h1).2, cell_below HI0.out h1, cell_below HI1.out h1, Lib.hid h1⟩)
      clear hi0 hrow hok hy hR hkl hkr
      cases hmy : memG P Q y with
      | false =>
        rw [hmy, Bool.false_and] at hst
        obtain rfl : r = false := hst
        have HM := Lib.hid hmy
        clear hmy HV_
        go_wp2
        refine wp_region_held_drew (S := fun w' => w'.cell? ⟨w.heap.size, 0, none⟩ = some (.int .i64 P) ∧ w'.cell? ⟨w.heap.size, 1, none⟩ = some (.int .i64 Q) ∧ w'.cell? ⟨w.heap.size, 2, none⟩ = some (.int .i64 G) ∧ w'.cell? ⟨w.heap.size + 1, 0, none⟩ = some (.slice (some ⟨b1, o1, none⟩) yn yc) ∧ w'.cell? ⟨w.heap.size + 1, 1, none⟩ = some (.slice (some ⟨b, o, none⟩) yn bc) ∧ w'.cell? ⟨b1, o1 + k, none⟩ = some (.int .i64 y) ∧ w'.cell? ⟨b, o + k, none⟩ = some (.slice p rn rc) ∧ Hid (Below W.heap.size W w')) (by kernel_rfl) (hS.out _ HBr.out.drew) (fun hHeld => ?_)
        refine wpAnyH_take (i := 0) (oi := _) (v := ?_) rfl (by kernel_rfl) (by kernel_rfl) (by kernel_rfl) (fun _ _ _ h => h) (Or.inl ⟨by rfl, ?_⟩) (by assumption) ?_
        rotate_left; (intro wS hSw; (try dsimp only at hSw); go_simp <;> with_reducible rfl)
        try simp only [List.getElem_toArray, List.getElem_cons_zero, List.getElem_cons_succ, Act.put, List.setIfInBounds_toArray, List.set_cons_zero, List.set_cons_succ]
        refine wpAnyH_take (i := 1) (oi := _) (v := ?_) rfl (by kernel_rfl) (by kernel_rfl) (by kernel_rfl) (fun _ _ _ h => h) (Or.inl ⟨by rfl, ?_⟩) (by assumption) ?_
        rotate_left; (intro wS hSw; (try dsimp only at hSw); go_simp <;> with_reducible rfl)
        try simp only [List.getElem_toArray, List.getElem_cons_zero, List.getElem_cons_succ, Act.put, List.setIfInBounds_toArray, List.set_cons_zero, List.set_cons_succ]
        refine wpAnyH_take (i := 2) (oi := _) (v := ?_) rfl (by kernel_rfl) (by kernel_rfl) (by kernel_rfl) (fun _ _ _ h => h) (Or.inl ⟨by rfl, ?_⟩) (by assumption) ?_
        rotate_left; (intro wS hSw; (try dsimp only at hSw); go_simp <;> with_reducible rfl)
        try simp only [List.getElem_toArray, List.getElem_cons_zero, List.getElem_cons_succ, Act.put, List.setIfInBounds_toArray, List.set_cons_zero, List.set_cons_succ]
        refine wpAnyH_take (i := 3) (oi := _) (v := ?_) rfl (by kernel_rfl) (by kernel_rfl) (by kernel_rfl) (fun _ _ _ h => h) (Or.inl ⟨by rfl, ?_⟩) (by assumption) ?_
        rotate_left; (intro wS hSw; (try dsimp only at hSw); go_simp <;> with_reducible rfl)
        try simp only [List.getElem_toArray, List.getElem_cons_zero, List.getElem_cons_succ, Act.put, List.setIfInBounds_toArray, List.set_cons_zero, List.set_cons_succ]
        refine wpAnyH_take (i := 4) (oi := _) (v := ?_) rfl (by kernel_rfl) (by kernel_rfl) (by kernel_rfl) (fun _ _ _ h => h) (Or.inl ⟨by rfl, ?_⟩) (by assumption) ?_
        rotate_left; (intro wS hSw; (try dsimp only at hSw); go_simp <;> with_reducible rfl)
        try simp only [List.getElem_toArray, List.getElem_cons_zero, List.getElem_cons_succ, Act.put, List.setIfInBounds_toArray, List.set_cons_zero, List.set_cons_succ]
        refine wpAnyH_take (i := 5) (oi := _) (v := ?_) rfl (by kernel_rfl) (by kernel_rfl) (by kernel_rfl) (fun _ _ _ h => h) (Or.inl ⟨by rfl, ?_⟩) (by assumption) ?_
        rotate_left; (intro wS hSw; (try dsimp only at hSw); go_simp <;> with_reducible rfl)
        try simp only [List.getElem_toArray, List.getElem_cons_zero, List.getElem_cons_succ, Act.put, List.setIfInBounds_toArray, List.set_cons_zero, List.set_cons_succ]
        refine wpAnyH_ready (rs := [6]) (by kernel_rfl) (by simp) ?_
        refine AllReadyH.cons rfl (fun K hK => ?_) AllReadyH.nil
        go_simp
        (with_reducible refine (rmember_any P Q G y false HM hp (by omega) hQ _).mono ?_); rintro e wA ⟨rfl, hbA⟩
        refine hK.out _ _ ?_ (fun hHeld => ?_)
        · (go_split_ands; exact hS.out _ (HBr.out.drew.trans (hbA.mono HBr.out.size)))
        clear hK K
        try simp only [List.getElem_toArray, List.getElem_cons_zero, List.getElem_cons_succ, Act.put, List.setIfInBounds_toArray, List.set_cons_zero, List.set_cons_succ]
        refine wpAnyH_take (i := 7) (oi := _) (v := ?_) rfl (by kernel_rfl) (by kernel_rfl) (by kernel_rfl) (fun _ _ _ h => h) (Or.inl ⟨by rfl, ?_⟩) (by assumption) ?_
        rotate_left; (intro wS hSw; (try dsimp only at hSw); go_simp <;> with_reducible rfl)
        try simp only [List.getElem_toArray, List.getElem_cons_zero, List.getElem_cons_succ, Act.put, List.setIfInBounds_toArray, List.set_cons_zero, List.set_cons_succ]
        refine wpAnyH_take (i := 8) (oi := _) (v := ?_) rfl (by kernel_rfl) (by kernel_rfl) (by kernel_rfl) (fun _ _ _ h => h) (Or.inl ⟨by rfl, ?_⟩) (by assumption) ?_
        rotate_left; (intro wS hSw; (try dsimp only at hSw); go_simp <;> with_reducible rfl)
        try simp only [List.getElem_toArray, List.getElem_cons_zero, List.getElem_cons_succ, Act.put, List.setIfInBounds_toArray, List.set_cons_zero, List.set_cons_succ]
        refine wpAnyH_take (i := 9) (oi := _) (v := undef) rfl (by kernel_rfl) (by kernel_rfl) (by kernel_rfl) (fun _ _ _ h => h) (Or.inr ⟨by rfl, rfl⟩) (by assumption) ?_
        try simp only [List.getElem_toArray, List.getElem_cons_zero, List.getElem_cons_succ, Act.put, List.setIfInBounds_toArray, List.set_cons_zero, List.set_cons_succ]
        refine wpAnyH_take (i := 10) (oi := _) (v := undef) rfl (by kernel_rfl) (by kernel_rfl) (by kernel_rfl) (fun _ _ _ h => h) (Or.inr ⟨by rfl, rfl⟩) (by assumption) ?_
        try simp only [List.getElem_toArray, List.getElem_cons_zero, List.getElem_cons_succ, Act.put, List.setIfInBounds_toArray, List.set_cons_zero, List.set_cons_succ]
        refine wpAnyH_take (i := 11) (oi := _) (v := undef) rfl (by kernel_rfl) (by kernel_rfl) (by kernel_rfl) (fun _ _ _ h => h) (Or.inr ⟨by rfl, rfl⟩) (by assumption) ?_
        try simp only [List.getElem_toArray, List.getElem_cons_zero, List.getElem_cons_succ, Act.put, List.setIfInBounds_toArray, List.set_cons_zero, List.set_cons_succ]
        refine wpAnyH_take (i := 12) (oi := _) (v := undef) rfl (by kernel_rfl) (by kernel_rfl) (by kernel_rfl) (fun _ _ _ h => h) (Or.inr ⟨by rfl, rfl⟩) (by assumption) ?_
        try simp only [List.getElem_toArray, List.getElem_cons_zero, List.getElem_cons_succ, Act.put, List.setIfInBounds_toArray, List.set_cons_zero, List.set_cons_succ]
        refine wpAnyH_take (i := 13) (oi := _) (v := undef) rfl (by kernel_rfl) (by kernel_rfl) (by kernel_rfl) (fun _ _ _ h => h) (Or.inr ⟨by rfl, rfl⟩) (by assumption) ?_
        try simp only [List.getElem_toArray, List.getElem_cons_zero, List.getElem_cons_succ, Act.put, List.setIfInBounds_toArray, List.set_cons_zero, List.set_cons_succ]
        refine wpAnyH_take (i := 14) (oi := _) (v := undef) rfl (by kernel_rfl) (by kernel_rfl) (by kernel_rfl) (fun _ _ _ h => h) (Or.inr ⟨by rfl, rfl⟩) (by assumption) ?_
        try simp only [List.getElem_toArray, List.getElem_cons_zero, List.getElem_cons_succ, Act.put, List.setIfInBounds_toArray, List.set_cons_zero, List.set_cons_succ]
        refine wpAnyH_take (i := 15) (oi := _) (v := undef) rfl (by kernel_rfl) (by kernel_rfl) (by kernel_rfl) (fun _ _ _ h => h) (Or.inr ⟨by rfl, rfl⟩) (by assumption) ?_
        try simp only [List.getElem_toArray, List.getElem_cons_zero, List.getElem_cons_succ, Act.put, List.setIfInBounds_toArray, List.set_cons_zero, List.set_cons_succ]
        refine wpAnyH_take (i := 16) (oi := _) (v := undef) rfl (by kernel_rfl) (by kernel_rfl) (by kernel_rfl) (fun _ _ _ h => h) (Or.inr ⟨by rfl, rfl⟩) (by assumption) ?_
        try simp only [List.getElem_toArray, List.getElem_cons_zero, List.getElem_cons_succ, Act.put, List.setIfInBounds_toArray, List.set_cons_zero, List.set_cons_succ]
        refine wpAnyH_take (i := 17) (oi := _) (v := ?_) rfl (by kernel_rfl) (by kernel_rfl) (by kernel_rfl) (fun _ _ _ h => h) (Or.inl ⟨by rfl, ?_⟩) (by assumption) ?_
        rotate_left; (intro wS hSw; (try dsimp only at hSw); go_simp <;> with_reducible rfl)
        try simp only [List.getElem_toArray, List.getElem_cons_zero, List.getElem_cons_succ, Act.put, List.setIfInBounds_toArray, List.set_cons_zero, List.set_cons_succ]
        refine wpAnyH_done (by kernel_rfl) ?_ _
        obtain ⟨x0, x1, x2, x3, x4, x5, x6, HBA⟩ := hHeld
        have hbF := below_ext HBW.out HBA.out
        go_wp2
        go_ret
        exact ⟨rfl, hbF⟩
      | true =>
        rw [hmy, Bool.true_and] at hst
        have HM := Lib.hid hmy
        clear hmy
        by_cases hne : rn = n0
        · subst hne
          have hneq : ((rn : Int) != (rn : Int)) = false := by simp
          obtain ⟨t, ht⟩ : ∃ t, xs.all (memG P Q) = t := ⟨_, rfl⟩
          have hrb : rowB P Q rn ⟨p, rn, rc, xs⟩ = t := by simp [rowB, ht]
          rw [hrb] at hst
          have HST := Lib.hid hst
          have HT : Hid ((xs.drop 0).all (memG P Q) = t) := Lib.hid (by rw [List.drop_zero]; exact ht)
          clear hst hrb ht HV_
          go_wp2
          go_region_held3 (fun w' => w'.cell? ⟨w.heap.size, 0, none⟩ = some (.int .i64 P) ∧ w'.cell? ⟨w.heap.size, 1, none⟩ = some (.int .i64 Q) ∧ w'.cell? ⟨w.heap.size, 2, none⟩ = some (.int .i64 G) ∧ w'.cell? ⟨w.heap.size + 1, 0, none⟩ = some (.slice (some ⟨b1, o1, none⟩) yn yc) ∧ w'.cell? ⟨w.heap.size + 1, 1, none⟩ = some (.slice (some ⟨b, o, none⟩) yn bc) ∧ w'.cell? ⟨b1, o1 + k, none⟩ = some (.int .i64 y) ∧ w'.cell? ⟨b, o + k, none⟩ = some (.slice p rn rc) ∧ Hid (Below W.heap.size W w'))
            (first | exact hS.out _ HBr.out.drew | (go_split_ands; exact hS.out _ (HBr.out.drew.trans (hbA.mono HBr.out.size))) | go_keep)
            ((first | (go_at_call 36; (with_reducible refine (rmember_any P Q G y true HM hp (by omega) hQ _).mono ?_); rintro e wA ⟨rfl, hbA⟩)))
          rename_i hHeld
          obtain ⟨x0, x1, x2, x3, x4, x5, x6, HBA⟩ := hHeld
          clear x0 x1 x2 x3 x4 x5 x6 hS HM hbA
          go_wp2
          go_loopw [7] (fun i wr => ∃ j : Nat, j ≤ rn ∧ i = .int .i64 j ∧ Hid ((xs.drop j).all (memG P Q) = t) ∧ Hid (Below W.heap.size W wr)) (fun i _ => rn - (intOf i).toNat)
          case atStart => exact ⟨0, by omega, rfl, HT, HBA⟩
          case round =>
            obtain ⟨j, hj, rfl, HJ, HBj⟩ := hrel
            obtain ⟨wi, rfl⟩ : ∃ wi : World, wi = wr := ⟨_, rfl⟩
            by_cases hjt : j < rn
            · have hjl : j < xs.length := by rw [HL.out]; exact hjt
              obtain ⟨b2, o2, e2, hi2⟩ := HS.out j hjl
              subst e2
              have hjs := allI_step (f := memG P Q) hjl
              rw [HJ.out] at hjs
              obtain ⟨x, hx⟩ : ∃ x, xs.getD j 0 = x := ⟨_, rfl⟩
              rw [hx] at hi2 hjs
              have HI2 := Lib.hid hi2
              have hS := Lib.hid (show ∀ u1 : World, Below W.heap.size W u1 → (u1.cell? ⟨w.heap.size, 0, none⟩ = some (.int .i64 P) ∧ u1.cell? ⟨w.heap.size, 1, none⟩ = some (.int .i64 Q) ∧ u1.cell? ⟨w.heap.size, 2, none⟩ = some (.int .i64 G) ∧ u1.cell? ⟨w.heap.size + 1, 0, none⟩ = some (.slice (some ⟨b1, o1, none⟩) yn yc) ∧ u1.cell? ⟨w.heap.size + 1, 1, none⟩ = some (.slice (some ⟨b, o, none⟩) yn bc) ∧ u1.cell? ⟨b, o + k, none⟩ = some (.slice (some ⟨b2, o2, none⟩) rn rc) ∧ u1.cell? ⟨b2, o2 + j, none⟩ = some (.int .i64 x) ∧ Hid (Below W.heap.size W u1)) from fun u1 h1 => ⟨(HXW.out.below h1).1, (HXW.out.below h1).2.1, (HXW.out.below h1).2.2, (HRW.out.below h1).1, (HRW.out.below h1).2, cell_below HI1.out h1, cell_below HI2.out h1, Lib.hid h1⟩)
              clear hi2 hx hjl
              cases hmx : memG P Q x with
              | false =>
                rw [hmx, Bool.false_and] at hjs
                obtain rfl : t = false := hjs
                obtain rfl : r = false := HST.out
                have HM := Lib.hid hmx
                clear hmx
                go_wp2
                go_region_held3 (fun w' => w'.cell? ⟨w.heap.size, 0, none⟩ = some (.int .i64 P) ∧ w'.cell? ⟨w.heap.size, 1, none⟩ = some (.int .i64 Q) ∧ w'.cell? ⟨w.heap.size, 2, none⟩ = some (.int .i64 G) ∧ w'.cell? ⟨w.heap.size + 1, 0, none⟩ = some (.slice (some ⟨b1, o1, none⟩) yn yc) ∧ w'.cell? ⟨w.heap.size + 1, 1, none⟩ = some (.slice (some ⟨b, o, none⟩) yn bc) ∧ w'.cell? ⟨b, o + k, none⟩ = some (.slice (some ⟨b2, o2, none⟩) rn rc) ∧ w'.cell? ⟨b2, o2 + j, none⟩ = some (.int .i64 x) ∧ Hid (Below W.heap.size W w'))
                  (first | exact hS.out _ HBj.out.drew | (go_split_ands; exact hS.out _ (HBj.out.drew.trans (hbA.mono HBj.out.size))) | go_keep)
                  ((first | (go_at_call 36; (with_reducible refine (rmember_any P Q G x false HM hp (by omega) hQ _).mono ?_); rintro e wA ⟨rfl, hbA⟩)))
                rename_i hHeld
                obtain ⟨x0, x1, x2, x3, x4, x5, x6, HBB⟩ := hHeld
                have hbF := below_ext HBW.out HBB.out
                clear x0 x1 x2 x3 x4 x5 x6
                go_wp2
                go_ret
                exact ⟨rfl, hbF⟩
              | true =>
                rw [hmx, Bool.true_and] at hjs
                have HJ2 := Lib.hid hjs.symm
                have HM := Lib.hid hmx
                clear hmx hjs HJ
                go_wp2
                go_region_held3 (fun w' => w'.cell? ⟨w.heap.size, 0, none⟩ = some (.int .i64 P) ∧ w'.cell? ⟨w.heap.size, 1, none⟩ = some (.int .i64 Q) ∧ w'.cell? ⟨w.heap.size, 2, none⟩ = some (.int .i64 G) ∧ w'.cell? ⟨w.heap.size + 1, 0, none⟩ = some (.slice (some ⟨b1, o1, none⟩) yn yc) ∧ w'.cell? ⟨w.heap.size + 1, 1, none⟩ = some (.slice (some ⟨b, o, none⟩) yn bc) ∧ w'.cell? ⟨b, o + k, none⟩ = some (.slice (some ⟨b2, o2, none⟩) rn rc) ∧ w'.cell? ⟨b2, o2 + j, none⟩ = some (.int .i64 x) ∧ Hid (Below W.heap.size W w'))
                  (first | exact hS.out _ HBj.out.drew | (go_split_ands; exact hS.out _ (HBj.out.drew.trans (hbA.mono HBj.out.size))) | go_keep)
                  ((first | (go_at_call 36; (with_reducible refine (rmember_any P Q G x true HM hp (by omega) hQ _).mono ?_); rintro e wA ⟨rfl, hbA⟩)))
                rename_i hHeld
                obtain ⟨x0, x1, x2, x3, x4, x5, x6, HBB⟩ := hHeld
                clear x0 x1 x2 x3 x4 x5 x6
                go_wp2
                go_roundw
                case rel => exact ⟨j + 1, by omega, by go_num, HJ2, HBB⟩
                case measure => simp [intOf]; omega
            · obtain rfl : j = rn := by omega
              obtain rfl : t = true := by rw [← HJ.out, ← HL.out, List.drop_length]; rfl
              have HV2 : Hid (leftV P Q j ys rows (k + 1) = r) := Lib.hid (by have h9 := HST.out; rw [Bool.true_and] at h9; exact h9.symm)
              clear HJ hjt
              go_wp2
              go_roundw
              case rel => exact ⟨k + 1, by omega, by go_num, HV2, HBj⟩
              case measure => simp [intOf]; omega
        · have hrb : rowB P Q n0 ⟨p, rn, rc, xs⟩ = false := by simp [rowB, hne]
          rw [hrb, Bool.false_and] at hst
          obtain rfl : r = false := hst
          have hneq : ((rn : Int) != (n0 : Int)) = true := by simp; omega
          clear hrb HV_
          go_wp2
          go_region_held3 (fun w' => w'.cell? ⟨w.heap.size, 0, none⟩ = some (.int .i64 P) ∧ w'.cell? ⟨w.heap.size, 1, none⟩ = some (.int .i64 Q) ∧ w'.cell? ⟨w.heap.size, 2, none⟩ = some (.int .i64 G) ∧ w'.cell? ⟨w.heap.size + 1, 0, none⟩ = some (.slice (some ⟨b1, o1, none⟩) yn yc) ∧ w'.cell? ⟨w.heap.size + 1, 1, none⟩ = some (.slice (some ⟨b, o, none⟩) yn bc) ∧ w'.cell? ⟨b1, o1 + k, none⟩ = some (.int .i64 y) ∧ w'.cell? ⟨b, o + k, none⟩ = some (.slice p rn rc) ∧ Hid (Below W.heap.size W w'))
            (first | exact hS.out _ HBr.out.drew | (go_split_ands; exact hS.out _ (HBr.out.drew.trans (hbA.mono HBr.out.size))) | go_keep)
            ((first | (go_at_call 36; (with_reducible refine (rmember_any P Q G y true HM hp (by omega) hQ _).mono ?_); rintro e wA ⟨rfl, hbA⟩)))
          rename_i hHeld
          obtain ⟨x0, x1, x2, x3, x4, x5, x6, HBA⟩ := hHeld
          have hbF := below_ext HBW.out HBA.out
          clear x0 x1 x2 x3 x4 x5 x6
          go_wp2
          go_ret
          exact ⟨rfl, hbF⟩
    · obtain rfl : k = yn := by omega
      obtain rfl : r = true := by
        rw [← HV_.out, leftV]
        have e1 : ys.drop k = [] := by rw [← hyn.out, List.drop_length]
        have e2 : rows.drop k = [] := by rw [← hbn.out, List.drop_length]
        rw [e1, e2]; rfl
      have hbF := below_ext HBW.out HBr.out
      clear HV_ hlt
      go_wp2
      go_ret
      exact ⟨rfl, hbF⟩
end Go.Proofs.YtijedphpcocfnaaDoor
