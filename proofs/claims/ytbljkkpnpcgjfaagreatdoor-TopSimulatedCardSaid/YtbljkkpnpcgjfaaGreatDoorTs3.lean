/- Contracts and lemmas: LinI, LinJ, LinK, LinO, LinP, LinS, LinW, FmA, FmB, FmC, FmD. -/
import Derived.Test.YtbljkkpnpcgjfaaGreatDoorTs2
set_option linter.unusedVariables false
set_option linter.unusedSimpArgs false
set_option maxRecDepth 100000
set_option maxHeartbeats 25600000
namespace Go.Proofs.YtbljkkpnpcgjfaaGreatDoor
open Go.RowKit rM
theorem Gf {f : Row → Bool} {xs : List Row} {k : Nat} (hk : k < xs.length) : (xs.drop k).all f = (f (xs.getD k aG) && (xs.drop (k + 1)).all f) := by
 rw [List.drop_eq_getElem_cons hk, List.all_cons, List.getD_eq_getElem?_getD, List.getElem?_eq_getElem hk]
 rfl
theorem xx {f : Int → Bool} {xs : List Int} {k : Nat} (hk : k < xs.length) : (xs.drop k).all f = (f (xs.getD k 0) && (xs.drop (k + 1)).all f) := by
 rw [List.drop_eq_getElem_cons hk, List.all_cons, List.getD_eq_getElem?_getD, List.getElem?_eq_getElem hk]
 rfl
def leftV (P Q : Int) (n : Nat) (ys : List Int) (rows : List Row) (k : Nat) : Bool := (ys.drop k).all (a_ P Q) && (rows.drop k).all (jd P Q n)
theorem Cj {P Q : Int} {n : Nat} {ys : List Int} {rows : List Row} {k : Nat} (hk : k < ys.length) (hr : k < rows.length) :
  leftV P Q n ys rows k = (a_ P Q (ys.getD k 0) && (jd P Q n (rows.getD k aG) && leftV P Q n ys rows (k + 1))) := by
 rw [leftV, xx hk, Gf hr, leftV]
 cases a_ P Q (ys.getD k 0) <;> cases jd P Q n (rows.getD k aG) <;> simp
theorem H6 (P Q G : Int) (Y : Option Addr) (ys : List Int) (yn yc : Nat) (B : Option Addr) (rows : List Row) (bc n0 : Nat) (r : Bool) (HG : Hid (aJ P Q G = true)) (hr : Hid (leftV P Q n0 ys rows 0 = r)) (hn : Hid (aU rows = n0)) (hyn : Hid (ys.length = yn)) (hbn : Hid (rows.length = yn))
  (h1 : 1 ≤ yn) (h2 : yn ≤ 8) (h3 : 1 ≤ n0) (h4 : n0 ≤ 12) (hQ : Q < 9223372036854775808) (w : World) (hY : Hid (Sl w Y ys)) (hB : Hid (Rw w B rows)) :
  Calls Tryz.prog 45 #[gv P Q G, dm Y yn yc B yn bc] w (Rt w (.bool r)) := by
 obtain ⟨hp2, hp, hq3, wK⟩ := aM HG.out
 obtain ⟨b, o, rfl⟩ := hB.out.some (by rw [hbn.out]; omega)
 obtain ⟨b1, o1, rfl, _⟩ := hY.out 0 (by rw [hyn.out]; omega)
 obtain ⟨w0, hW⟩ : ∃ W, (w.alloc (aN P Q G)).alloc (dW (some ⟨b1, o1, none⟩) yn yc (some ⟨b, o, none⟩) yn bc) = W := ⟨_, rfl⟩
 have av : Hid (Below w.heap.size w w0) := aa (by rw [← hW]; exact aB (Below.refl _ _))
 have HX0 : Hid (eO w0 w.heap.size P Q G) := aa (by rw [← hW]; exact (az w P Q G).below (ai _ _))
 have dY : Hid (iQ w0 (w.heap.size + 1) (.slice (some ⟨b1, o1, none⟩) yn yc) (.slice (some ⟨b, o, none⟩) yn bc)) := aa (by rw [← hW]; exact aV _ _ _ _ _)
 have gu := aa (hY.out.below av.out)
 have oL := aa (hB.out.below av.out)
 have HW := aa hW
 have d1 : decide ((yn : Int) < 1) = false := by simp; omega
 have d2 : decide ((8 : Int) < (yn : Int)) = false := by simp; omega
 have d3 : decide ((n0 : Int) < 1) = false := by simp; omega
 have d4 : decide ((12 : Int) < (n0 : Int)) = false := by simp; omega
 clear hW hY hB
 go_in
 go_wp2_with fail
 rw [HW.out]
 refine (fJ P Q G true HG hQ _).mono ?_
 rintro e w1 ⟨rfl, hb0⟩
 have hb1 := af av.out hb0
 have fT := aa (HX0.out.below hb0)
 have HR1 := aa (dY.out.below hb0)
 have mZ := aa (gu.out.below hb0)
 have HA1 := aa (oL.out.below hb0)
 clear hb0
 obtain ⟨d5, d6⟩ := HR1.out
 obtain ⟨c0, c1, c2⟩ := fT.out
 go_wp2_with fail
 refine (eB (some ⟨b1, o1, none⟩) yn yc (some ⟨b, o, none⟩) rows yn bc n0 hbn (by omega) hn _ HA1).mono ?_
 rintro e W ⟨rfl, hb0⟩
 have zB := aa (af hb1 hb0)
 have Di := aa (fT.out.below hb0)
 have HRW := aa (HR1.out.below hb0)
 have R3 := aa (mZ.out.below hb0)
 have YP := aa (HA1.out.below hb0)
 clear hb0 d5 d6 c0 c1 c2
 go_wp2
 go_loopw [6] (fun i wr => ∃ k : Nat, k ≤ yn ∧ i = .int .i64 k ∧ Hid (leftV P Q n0 ys rows k = r) ∧ Hid (Below W.heap.size W wr)) (fun i _ => yn - (intOf i).toNat)
 case atStart => exact ⟨0, by omega, rfl, hr, aa (Below.refl _ _)⟩
 case round =>
  obtain ⟨k, hk, rfl, NA, aF⟩ := hrel
  obtain ⟨wo, rfl⟩ : ∃ wo : World, wo = wr := ⟨_, rfl⟩
  obtain ⟨d5, d6⟩ := HRW.out.below aF.out
  by_cases hlt : k < yn
  ·
   have hkl : k < ys.length := by rw [hyn.out]; exact hlt
   have hkr : k < rows.length := by rw [hbn.out]; exact hlt
   obtain ⟨bb, oo, e1, hi0⟩ := R3.out k hkl
   cases e1
   have hrow := YP.out.at hkr
   have hok := (YP.out k hkr).2
   have hst := Cj (P := P) (Q := Q) (n := n0) hkl hkr
   rw [NA.out] at hst
   obtain ⟨y, hy⟩ : ∃ x, ys.getD k 0 = x := ⟨_, rfl⟩
   obtain ⟨R, hR⟩ : ∃ R, rows.getD k aG = R := ⟨_, rfl⟩
   rw [hy] at hi0 hst
   rw [hR] at hrow hok hst
   obtain ⟨p, rn, rc, xs⟩ := R
   dsimp only [Row.val] at hrow
   have HI0 := aa hi0
   have HI1 := aa hrow
   have HL := aa hok.1
   have HS := aa hok.2
   have hS := aa (show ∀ u1 : World, Below W.heap.size W u1 → (u1.cell? ⟨w.heap.size, 0, none⟩ = some (.int .i64 P) ∧ u1.cell? ⟨w.heap.size, 1, none⟩ = some (.int .i64 Q) ∧ u1.cell? ⟨w.heap.size, 2, none⟩ = some (.int .i64 G) ∧ u1.cell? ⟨w.heap.size + 1, 0, none⟩ = some (.slice (some ⟨b1, o1, none⟩) yn yc) ∧ u1.cell? ⟨w.heap.size + 1, 1, none⟩ = some (.slice (some ⟨b, o, none⟩) yn bc) ∧ u1.cell? ⟨b1, o1 + k, none⟩ = some (.int .i64 y) ∧ u1.cell? ⟨b, o + k, none⟩ = some (.slice p rn rc) ∧ Hid (Below W.heap.size W u1)) from fun u1 h1 => ⟨(Di.out.below h1).1, (Di.out.below h1).2.1, (Di.out.below h1).2.2, (HRW.out.below h1).1, (HRW.out.below h1).2, cell_below HI0.out h1, cell_below HI1.out h1, aa h1⟩)
   clear hi0 hrow hok hy hR hkl hkr
   cases uH : a_ P Q y with
   | false =>
    rw [uH, Bool.false_and] at hst
    obtain rfl : r = false := hst
    have HM := aa uH
    clear uH NA
    go_wp2
    refine wp_region_held_drew (S := fun w' => w'.cell? ⟨w.heap.size, 0, none⟩ = some (.int .i64 P) ∧ w'.cell? ⟨w.heap.size, 1, none⟩ = some (.int .i64 Q) ∧ w'.cell? ⟨w.heap.size, 2, none⟩ = some (.int .i64 G) ∧ w'.cell? ⟨w.heap.size + 1, 0, none⟩ = some (.slice (some ⟨b1, o1, none⟩) yn yc) ∧ w'.cell? ⟨w.heap.size + 1, 1, none⟩ = some (.slice (some ⟨b, o, none⟩) yn bc) ∧ w'.cell? ⟨b1, o1 + k, none⟩ = some (.int .i64 y) ∧ w'.cell? ⟨b, o + k, none⟩ = some (.slice p rn rc) ∧ Hid (Below W.heap.size W w')) (by kernel_rfl) (hS.out _ aF.out.drew) (fun hHeld => ?_)
    refine wpAnyH_take (i := 0) (oi := _) (v := ?_) rfl (by kernel_rfl) (by kernel_rfl) (by kernel_rfl) (fun _ _ _ h => h) (Or.inl ⟨by rfl, ?_⟩) (by assumption) ?_
    rotate_left; (intro wS hSw; (try dsimp only at hSw); go_simp <;> with_reducible rfl)
    try simp only [qq]
    refine wpAnyH_take (i := 1) (oi := _) (v := ?_) rfl (by kernel_rfl) (by kernel_rfl) (by kernel_rfl) (fun _ _ _ h => h) (Or.inl ⟨by rfl, ?_⟩) (by assumption) ?_
    rotate_left; (intro wS hSw; (try dsimp only at hSw); go_simp <;> with_reducible rfl)
    try simp only [qq]
    refine wpAnyH_take (i := 2) (oi := _) (v := ?_) rfl (by kernel_rfl) (by kernel_rfl) (by kernel_rfl) (fun _ _ _ h => h) (Or.inl ⟨by rfl, ?_⟩) (by assumption) ?_
    rotate_left; (intro wS hSw; (try dsimp only at hSw); go_simp <;> with_reducible rfl)
    try simp only [qq]
    refine wpAnyH_take (i := 3) (oi := _) (v := ?_) rfl (by kernel_rfl) (by kernel_rfl) (by kernel_rfl) (fun _ _ _ h => h) (Or.inl ⟨by rfl, ?_⟩) (by assumption) ?_
    rotate_left; (intro wS hSw; (try dsimp only at hSw); go_simp <;> with_reducible rfl)
    try simp only [qq]
    refine wpAnyH_take (i := 4) (oi := _) (v := ?_) rfl (by kernel_rfl) (by kernel_rfl) (by kernel_rfl) (fun _ _ _ h => h) (Or.inl ⟨by rfl, ?_⟩) (by assumption) ?_
    rotate_left; (intro wS hSw; (try dsimp only at hSw); go_simp <;> with_reducible rfl)
    try simp only [qq]
    refine wpAnyH_take (i := 5) (oi := _) (v := ?_) rfl (by kernel_rfl) (by kernel_rfl) (by kernel_rfl) (fun _ _ _ h => h) (Or.inl ⟨by rfl, ?_⟩) (by assumption) ?_
    rotate_left; (intro wS hSw; (try dsimp only at hSw); go_simp <;> with_reducible rfl)
    try simp only [qq]
    refine wpAnyH_ready (rs := [6]) (by kernel_rfl) (by simp) ?_
    refine AllReadyH.cons rfl (fun K hK => ?_) AllReadyH.nil
    go_simp
    (with_reducible refine (gL P Q G y false HM hp (by omega) hQ _).mono ?_); rintro e wA ⟨rfl, bA⟩
    refine hK.out _ _ ?_ (fun hHeld => ?_)
    · (go_split_ands; exact hS.out _ (aF.out.drew.trans (bA.mono aF.out.size)))
    clear hK K
    try simp only [qq]
    refine wpAnyH_take (i := 7) (oi := _) (v := ?_) rfl (by kernel_rfl) (by kernel_rfl) (by kernel_rfl) (fun _ _ _ h => h) (Or.inl ⟨by rfl, ?_⟩) (by assumption) ?_
    rotate_left; (intro wS hSw; (try dsimp only at hSw); go_simp <;> with_reducible rfl)
    try simp only [qq]
    refine wpAnyH_take (i := 8) (oi := _) (v := ?_) rfl (by kernel_rfl) (by kernel_rfl) (by kernel_rfl) (fun _ _ _ h => h) (Or.inl ⟨by rfl, ?_⟩) (by assumption) ?_
    rotate_left; (intro wS hSw; (try dsimp only at hSw); go_simp <;> with_reducible rfl)
    try simp only [qq]
    refine wpAnyH_take (i := 9) (oi := _) (v := undef) rfl (by kernel_rfl) (by kernel_rfl) (by kernel_rfl) (fun _ _ _ h => h) (Or.inr ⟨by rfl, rfl⟩) (by assumption) ?_
    try simp only [qq]
    refine wpAnyH_take (i := 10) (oi := _) (v := undef) rfl (by kernel_rfl) (by kernel_rfl) (by kernel_rfl) (fun _ _ _ h => h) (Or.inr ⟨by rfl, rfl⟩) (by assumption) ?_
    try simp only [qq]
    refine wpAnyH_take (i := 11) (oi := _) (v := undef) rfl (by kernel_rfl) (by kernel_rfl) (by kernel_rfl) (fun _ _ _ h => h) (Or.inr ⟨by rfl, rfl⟩) (by assumption) ?_
    try simp only [qq]
    refine wpAnyH_take (i := 12) (oi := _) (v := undef) rfl (by kernel_rfl) (by kernel_rfl) (by kernel_rfl) (fun _ _ _ h => h) (Or.inr ⟨by rfl, rfl⟩) (by assumption) ?_
    try simp only [qq]
    refine wpAnyH_take (i := 13) (oi := _) (v := undef) rfl (by kernel_rfl) (by kernel_rfl) (by kernel_rfl) (fun _ _ _ h => h) (Or.inr ⟨by rfl, rfl⟩) (by assumption) ?_
    try simp only [qq]
    refine wpAnyH_take (i := 14) (oi := _) (v := undef) rfl (by kernel_rfl) (by kernel_rfl) (by kernel_rfl) (fun _ _ _ h => h) (Or.inr ⟨by rfl, rfl⟩) (by assumption) ?_
    try simp only [qq]
    refine wpAnyH_take (i := 15) (oi := _) (v := undef) rfl (by kernel_rfl) (by kernel_rfl) (by kernel_rfl) (fun _ _ _ h => h) (Or.inr ⟨by rfl, rfl⟩) (by assumption) ?_
    try simp only [qq]
    refine wpAnyH_take (i := 16) (oi := _) (v := undef) rfl (by kernel_rfl) (by kernel_rfl) (by kernel_rfl) (fun _ _ _ h => h) (Or.inr ⟨by rfl, rfl⟩) (by assumption) ?_
    try simp only [qq]
    refine wpAnyH_take (i := 17) (oi := _) (v := ?_) rfl (by kernel_rfl) (by kernel_rfl) (by kernel_rfl) (fun _ _ _ h => h) (Or.inl ⟨by rfl, ?_⟩) (by assumption) ?_
    rotate_left; (intro wS hSw; (try dsimp only at hSw); go_simp <;> with_reducible rfl)
    try simp only [qq]
    refine wpAnyH_done (by kernel_rfl) ?_ _
    obtain ⟨x0, x1, x2, x3, x4, x5, x6, nH⟩ := hHeld
    have dw := af zB.out nH.out
    go_wp2
    go_ret
    exact ⟨rfl, dw⟩
   | true =>
    rw [uH, Bool.true_and] at hst
    have HM := aa uH
    clear uH
    by_cases hne : rn = n0
    ·
     subst hne
     have hneq : ((rn : Int) != (rn : Int)) = false := by simp
     obtain ⟨t, ht⟩ : ∃ t, xs.all (a_ P Q) = t := ⟨_, rfl⟩
     have hrb : jd P Q rn ⟨p, rn, rc, xs⟩ = t := by simp [jd, ht]
     rw [hrb] at hst
     have HST := aa hst
     have HT : Hid ((xs.drop 0).all (a_ P Q) = t) := aa (by rw [List.drop_zero]; exact ht)
     clear hst hrb ht NA
     go_wp2
     go_region_held3 (fun w' => w'.cell? ⟨w.heap.size, 0, none⟩ = some (.int .i64 P) ∧ w'.cell? ⟨w.heap.size, 1, none⟩ = some (.int .i64 Q) ∧ w'.cell? ⟨w.heap.size, 2, none⟩ = some (.int .i64 G) ∧ w'.cell? ⟨w.heap.size + 1, 0, none⟩ = some (.slice (some ⟨b1, o1, none⟩) yn yc) ∧ w'.cell? ⟨w.heap.size + 1, 1, none⟩ = some (.slice (some ⟨b, o, none⟩) yn bc) ∧ w'.cell? ⟨b1, o1 + k, none⟩ = some (.int .i64 y) ∧ w'.cell? ⟨b, o + k, none⟩ = some (.slice p rn rc) ∧ Hid (Below W.heap.size W w'))
      (first | exact hS.out _ aF.out.drew | (go_split_ands; exact hS.out _ (aF.out.drew.trans (bA.mono aF.out.size))) | go_keep)
      ((first | (go_at_call 90; (with_reducible refine (gL P Q G y true HM hp (by omega) hQ _).mono ?_); rintro e wA ⟨rfl, bA⟩)))
     rename_i hHeld
     obtain ⟨x0, x1, x2, x3, x4, x5, x6, nH⟩ := hHeld
     clear x0 x1 x2 x3 x4 x5 x6 hS HM bA
     go_wp2
     go_loopw [7] (fun i wr => ∃ j : Nat, j ≤ rn ∧ i = .int .i64 j ∧ Hid ((xs.drop j).all (a_ P Q) = t) ∧ Hid (Below W.heap.size W wr)) (fun i _ => rn - (intOf i).toNat)
     case atStart => exact ⟨0, by omega, rfl, HT, nH⟩
     case round =>
      obtain ⟨j, hj, rfl, HJ, PT⟩ := hrel
      obtain ⟨wi, rfl⟩ : ∃ wi : World, wi = wr := ⟨_, rfl⟩
      by_cases hjt : j < rn
      ·
       have hjl : j < xs.length := by rw [HL.out]; exact hjt
       obtain ⟨b2, o2, e2, hi2⟩ := HS.out j hjl
       subst e2
       have hjs := xx (f := a_ P Q) hjl
       rw [HJ.out] at hjs
       obtain ⟨x, hx⟩ : ∃ x, xs.getD j 0 = x := ⟨_, rfl⟩
       rw [hx] at hi2 hjs
       have HI2 := aa hi2
       have hS := aa (show ∀ u1 : World, Below W.heap.size W u1 → (u1.cell? ⟨w.heap.size, 0, none⟩ = some (.int .i64 P) ∧ u1.cell? ⟨w.heap.size, 1, none⟩ = some (.int .i64 Q) ∧ u1.cell? ⟨w.heap.size, 2, none⟩ = some (.int .i64 G) ∧ u1.cell? ⟨w.heap.size + 1, 0, none⟩ = some (.slice (some ⟨b1, o1, none⟩) yn yc) ∧ u1.cell? ⟨w.heap.size + 1, 1, none⟩ = some (.slice (some ⟨b, o, none⟩) yn bc) ∧ u1.cell? ⟨b, o + k, none⟩ = some (.slice (some ⟨b2, o2, none⟩) rn rc) ∧ u1.cell? ⟨b2, o2 + j, none⟩ = some (.int .i64 x) ∧ Hid (Below W.heap.size W u1)) from fun u1 h1 => ⟨(Di.out.below h1).1, (Di.out.below h1).2.1, (Di.out.below h1).2.2, (HRW.out.below h1).1, (HRW.out.below h1).2, cell_below HI1.out h1, cell_below HI2.out h1, aa h1⟩)
       clear hi2 hx hjl
       cases hmx : a_ P Q x with
       | false =>
        rw [hmx, Bool.false_and] at hjs
        obtain rfl : t = false := hjs
        obtain rfl : r = false := HST.out
        have HM := aa hmx
        clear hmx
        go_wp2
        go_region_held3 (fun w' => w'.cell? ⟨w.heap.size, 0, none⟩ = some (.int .i64 P) ∧ w'.cell? ⟨w.heap.size, 1, none⟩ = some (.int .i64 Q) ∧ w'.cell? ⟨w.heap.size, 2, none⟩ = some (.int .i64 G) ∧ w'.cell? ⟨w.heap.size + 1, 0, none⟩ = some (.slice (some ⟨b1, o1, none⟩) yn yc) ∧ w'.cell? ⟨w.heap.size + 1, 1, none⟩ = some (.slice (some ⟨b, o, none⟩) yn bc) ∧ w'.cell? ⟨b, o + k, none⟩ = some (.slice (some ⟨b2, o2, none⟩) rn rc) ∧ w'.cell? ⟨b2, o2 + j, none⟩ = some (.int .i64 x) ∧ Hid (Below W.heap.size W w'))
         (first | exact hS.out _ PT.out.drew | (go_split_ands; exact hS.out _ (PT.out.drew.trans (bA.mono PT.out.size))) | go_keep)
         ((first | (go_at_call 90; (with_reducible refine (gL P Q G x false HM hp (by omega) hQ _).mono ?_); rintro e wA ⟨rfl, bA⟩)))
        rename_i hHeld
        obtain ⟨x0, x1, x2, x3, x4, x5, x6, zm⟩ := hHeld
        have dw := af zB.out zm.out
        clear x0 x1 x2 x3 x4 x5 x6
        go_wp2
        go_ret
        exact ⟨rfl, dw⟩
       | true =>
        rw [hmx, Bool.true_and] at hjs
        have HJ2 := aa hjs.symm
        have HM := aa hmx
        clear hmx hjs HJ
        go_wp2
        go_region_held3 (fun w' => w'.cell? ⟨w.heap.size, 0, none⟩ = some (.int .i64 P) ∧ w'.cell? ⟨w.heap.size, 1, none⟩ = some (.int .i64 Q) ∧ w'.cell? ⟨w.heap.size, 2, none⟩ = some (.int .i64 G) ∧ w'.cell? ⟨w.heap.size + 1, 0, none⟩ = some (.slice (some ⟨b1, o1, none⟩) yn yc) ∧ w'.cell? ⟨w.heap.size + 1, 1, none⟩ = some (.slice (some ⟨b, o, none⟩) yn bc) ∧ w'.cell? ⟨b, o + k, none⟩ = some (.slice (some ⟨b2, o2, none⟩) rn rc) ∧ w'.cell? ⟨b2, o2 + j, none⟩ = some (.int .i64 x) ∧ Hid (Below W.heap.size W w'))
         (first | exact hS.out _ PT.out.drew | (go_split_ands; exact hS.out _ (PT.out.drew.trans (bA.mono PT.out.size))) | go_keep)
         ((first | (go_at_call 90; (with_reducible refine (gL P Q G x true HM hp (by omega) hQ _).mono ?_); rintro e wA ⟨rfl, bA⟩)))
        rename_i hHeld
        obtain ⟨x0, x1, x2, x3, x4, x5, x6, zm⟩ := hHeld
        clear x0 x1 x2 x3 x4 x5 x6
        go_wp2
        go_roundw
        case rel => exact ⟨j + 1, by omega, by go_num, HJ2, zm⟩
        case measure => simp [intOf]; omega
      ·
       obtain rfl : j = rn := by omega
       obtain rfl : t = true := by rw [← HJ.out, ← HL.out, List.drop_length]; rfl
       have ko : Hid (leftV P Q j ys rows (k + 1) = r) := aa (by have h9 := HST.out; rw [Bool.true_and] at h9; exact h9.symm)
       clear HJ hjt
       go_wp2
       go_roundw
       case rel => exact ⟨k + 1, by omega, by go_num, ko, PT⟩
       case measure => simp [intOf]; omega
    ·
     have hrb : jd P Q n0 ⟨p, rn, rc, xs⟩ = false := by simp [jd, hne]
     rw [hrb, Bool.false_and] at hst
     obtain rfl : r = false := hst
     have hneq : ((rn : Int) != (n0 : Int)) = true := by simp; omega
     clear hrb NA
     go_wp2
     go_region_held3 (fun w' => w'.cell? ⟨w.heap.size, 0, none⟩ = some (.int .i64 P) ∧ w'.cell? ⟨w.heap.size, 1, none⟩ = some (.int .i64 Q) ∧ w'.cell? ⟨w.heap.size, 2, none⟩ = some (.int .i64 G) ∧ w'.cell? ⟨w.heap.size + 1, 0, none⟩ = some (.slice (some ⟨b1, o1, none⟩) yn yc) ∧ w'.cell? ⟨w.heap.size + 1, 1, none⟩ = some (.slice (some ⟨b, o, none⟩) yn bc) ∧ w'.cell? ⟨b1, o1 + k, none⟩ = some (.int .i64 y) ∧ w'.cell? ⟨b, o + k, none⟩ = some (.slice p rn rc) ∧ Hid (Below W.heap.size W w'))
      (first | exact hS.out _ aF.out.drew | (go_split_ands; exact hS.out _ (aF.out.drew.trans (bA.mono aF.out.size))) | go_keep)
      ((first | (go_at_call 90; (with_reducible refine (gL P Q G y true HM hp (by omega) hQ _).mono ?_); rintro e wA ⟨rfl, bA⟩)))
     rename_i hHeld
     obtain ⟨x0, x1, x2, x3, x4, x5, x6, nH⟩ := hHeld
     have dw := af zB.out nH.out
     clear x0 x1 x2 x3 x4 x5 x6
     go_wp2
     go_ret
     exact ⟨rfl, dw⟩
  ·
   obtain rfl : k = yn := by omega
   obtain rfl : r = true := by
    rw [← NA.out, leftV]
    have e1 : ys.drop k = [] := by rw [← hyn.out, List.drop_length]
    have e2 : rows.drop k = [] := by rw [← hbn.out, List.drop_length]
    rw [e1, e2]; rfl
   have dw := af zB.out aF.out
   clear NA hlt
   go_wp2
   go_ret
   exact ⟨rfl, dw⟩
theorem NT (P Q G : Int) (Y : Option Addr) (ys : List Int) (yn yc : Nat) (B : Option Addr) (rows : List Row) (bn bc : Nat) (HG : Hid (aJ P Q G = false)) (hyn : Hid (ys.length = yn)) (hbn : Hid (rows.length = bn)) (hQ : Q < 9223372036854775808) (w : World) (hY : Hid (Sl w Y ys)) (hB : Hid (Rw w B rows)) :
  Calls Tryz.prog 45 #[gv P Q G, dm Y yn yc B bn bc] w (Rt w (.bool false)) := by
 obtain ⟨w0, hW⟩ : ∃ W, (w.alloc (aN P Q G)).alloc (dW Y yn yc B bn bc) = W := ⟨_, rfl⟩
 have av : Hid (Below w.heap.size w w0) := aa (by rw [← hW]; exact aB (Below.refl _ _))
 have HX0 : Hid (eO w0 w.heap.size P Q G) := aa (by rw [← hW]; exact (az w P Q G).below (ai _ _))
 have dY : Hid (iQ w0 (w.heap.size + 1) (.slice Y yn yc) (.slice B bn bc)) := aa (by rw [← hW]; exact aV _ _ _ _ _)
 have gu : Hid (Sl w0 Y ys) := aa (hY.out.below av.out)
 have fA : Hid (Rw w0 B rows) := aa (hB.out.below av.out)
 have HW := aa hW
 clear hW hY hB
 go_in
 go_wp2_with fail
 rw [HW.out]
 go_wp2_with fail
 refine (fJ P Q G false HG hQ _).mono ?_
 rintro e w1 ⟨rfl, hb0⟩
 have hb1 := af (av.out) hb0
 have fT := aa (HX0.out.below hb0)
 have HR1 := aa (dY.out.below hb0)
 have mZ := aa (gu.out.below hb0)
 have fI := aa (fA.out.below hb0)
 clear hb0
 obtain ⟨c0, c1, c2⟩ := fT.out
 obtain ⟨d0, d1⟩ := HR1.out
 go_wp2
 go_ret
 exact ⟨rfl, hb1⟩
theorem NZ (P Q G : Int) (Y : Option Addr) (ys : List Int) (yn yc : Nat) (B : Option Addr) (rows : List Row) (bn bc : Nat) (HG : Hid (aJ P Q G = true)) (h1 : yn < 1) (hyn : Hid (ys.length = yn)) (hbn : Hid (rows.length = bn)) (hQ : Q < 9223372036854775808) (w : World) (hY : Hid (Sl w Y ys)) (hB : Hid (Rw w B rows)) :
  Calls Tryz.prog 45 #[gv P Q G, dm Y yn yc B bn bc] w (Rt w (.bool false)) := by
 obtain ⟨w0, hW⟩ : ∃ W, (w.alloc (aN P Q G)).alloc (dW Y yn yc B bn bc) = W := ⟨_, rfl⟩
 have av : Hid (Below w.heap.size w w0) := aa (by rw [← hW]; exact aB (Below.refl _ _))
 have HX0 : Hid (eO w0 w.heap.size P Q G) := aa (by rw [← hW]; exact (az w P Q G).below (ai _ _))
 have dY : Hid (iQ w0 (w.heap.size + 1) (.slice Y yn yc) (.slice B bn bc)) := aa (by rw [← hW]; exact aV _ _ _ _ _)
 have gu : Hid (Sl w0 Y ys) := aa (hY.out.below av.out)
 have fA : Hid (Rw w0 B rows) := aa (hB.out.below av.out)
 have HW := aa hW
 clear hW hY hB
 have d1 : decide ((yn : Int) < 1) = true := by simp; omega
 go_in
 go_wp2_with fail
 rw [HW.out]
 go_wp2_with fail
 refine (fJ P Q G true HG hQ _).mono ?_
 rintro e w1 ⟨rfl, hb0⟩
 have hb1 := af (av.out) hb0
 have fT := aa (HX0.out.below hb0)
 have HR1 := aa (dY.out.below hb0)
 have mZ := aa (gu.out.below hb0)
 have fI := aa (fA.out.below hb0)
 clear hb0
 obtain ⟨c0, c1, c2⟩ := fT.out
 obtain ⟨d0, d1⟩ := HR1.out
 go_wp2
 go_ret
 exact ⟨rfl, hb1⟩
theorem NY (P Q G : Int) (Y : Option Addr) (ys : List Int) (yn yc : Nat) (B : Option Addr) (rows : List Row) (bn bc : Nat) (HG : Hid (aJ P Q G = true)) (h1 : 1 ≤ yn) (h2 : 8 < yn) (hyn : Hid (ys.length = yn)) (hbn : Hid (rows.length = bn)) (hQ : Q < 9223372036854775808) (w : World) (hY : Hid (Sl w Y ys)) (hB : Hid (Rw w B rows)) :
  Calls Tryz.prog 45 #[gv P Q G, dm Y yn yc B bn bc] w (Rt w (.bool false)) := by
 obtain ⟨w0, hW⟩ : ∃ W, (w.alloc (aN P Q G)).alloc (dW Y yn yc B bn bc) = W := ⟨_, rfl⟩
 have av : Hid (Below w.heap.size w w0) := aa (by rw [← hW]; exact aB (Below.refl _ _))
 have HX0 : Hid (eO w0 w.heap.size P Q G) := aa (by rw [← hW]; exact (az w P Q G).below (ai _ _))
 have dY : Hid (iQ w0 (w.heap.size + 1) (.slice Y yn yc) (.slice B bn bc)) := aa (by rw [← hW]; exact aV _ _ _ _ _)
 have gu : Hid (Sl w0 Y ys) := aa (hY.out.below av.out)
 have fA : Hid (Rw w0 B rows) := aa (hB.out.below av.out)
 have HW := aa hW
 clear hW hY hB
 have d1 : decide ((yn : Int) < 1) = false := by simp; omega
 have d2 : decide ((8 : Int) < (yn : Int)) = true := by simp; omega
 go_in
 go_wp2_with fail
 rw [HW.out]
 go_wp2_with fail
 refine (fJ P Q G true HG hQ _).mono ?_
 rintro e w1 ⟨rfl, hb0⟩
 have hb1 := af (av.out) hb0
 have fT := aa (HX0.out.below hb0)
 have HR1 := aa (dY.out.below hb0)
 have mZ := aa (gu.out.below hb0)
 have fI := aa (fA.out.below hb0)
 clear hb0
 obtain ⟨c0, c1, c2⟩ := fT.out
 obtain ⟨d0, d1⟩ := HR1.out
 go_wp2
 go_ret
 exact ⟨rfl, hb1⟩
theorem NW (P Q G : Int) (Y : Option Addr) (ys : List Int) (yn yc : Nat) (B : Option Addr) (rows : List Row) (bn bc : Nat) (HG : Hid (aJ P Q G = true)) (h1 : 1 ≤ yn) (h2 : yn ≤ 8) (h3 : bn ≠ yn) (hyn : Hid (ys.length = yn)) (hbn : Hid (rows.length = bn)) (hQ : Q < 9223372036854775808) (w : World) (hY : Hid (Sl w Y ys)) (hB : Hid (Rw w B rows)) :
  Calls Tryz.prog 45 #[gv P Q G, dm Y yn yc B bn bc] w (Rt w (.bool false)) := by
 obtain ⟨w0, hW⟩ : ∃ W, (w.alloc (aN P Q G)).alloc (dW Y yn yc B bn bc) = W := ⟨_, rfl⟩
 have av : Hid (Below w.heap.size w w0) := aa (by rw [← hW]; exact aB (Below.refl _ _))
 have HX0 : Hid (eO w0 w.heap.size P Q G) := aa (by rw [← hW]; exact (az w P Q G).below (ai _ _))
 have dY : Hid (iQ w0 (w.heap.size + 1) (.slice Y yn yc) (.slice B bn bc)) := aa (by rw [← hW]; exact aV _ _ _ _ _)
 have gu : Hid (Sl w0 Y ys) := aa (hY.out.below av.out)
 have fA : Hid (Rw w0 B rows) := aa (hB.out.below av.out)
 have HW := aa hW
 clear hW hY hB
 have d1 : decide ((yn : Int) < 1) = false := by simp; omega
 have d2 : decide ((8 : Int) < (yn : Int)) = false := by simp; omega
 have d3 : ((bn : Int) != (yn : Int)) = true := by simp; omega
 go_in
 go_wp2_with fail
 rw [HW.out]
 go_wp2_with fail
 refine (fJ P Q G true HG hQ _).mono ?_
 rintro e w1 ⟨rfl, hb0⟩
 have hb1 := af (av.out) hb0
 have fT := aa (HX0.out.below hb0)
 have HR1 := aa (dY.out.below hb0)
 have mZ := aa (gu.out.below hb0)
 have fI := aa (fA.out.below hb0)
 clear hb0
 obtain ⟨c0, c1, c2⟩ := fT.out
 obtain ⟨d0, d1⟩ := HR1.out
 go_wp2
 go_ret
 exact ⟨rfl, hb1⟩
theorem NV (P Q G : Int) (Y : Option Addr) (ys : List Int) (yc : Nat) (B : Option Addr) (rows : List Row) (bn bc : Nat) (n0 : Nat) (hN : Hid (aU rows = n0)) (HG : Hid (aJ P Q G = true)) (h1 : 1 ≤ bn) (h2 : bn ≤ 8) (h4 : n0 < 1) (hyn : Hid (ys.length = bn)) (hbn : Hid (rows.length = bn)) (hQ : Q < 9223372036854775808) (w : World) (hY : Hid (Sl w Y ys)) (hB : Hid (Rw w B rows)) :
  Calls Tryz.prog 45 #[gv P Q G, dm Y bn yc B bn bc] w (Rt w (.bool false)) := by
 obtain ⟨w0, hW⟩ : ∃ W, (w.alloc (aN P Q G)).alloc (dW Y bn yc B bn bc) = W := ⟨_, rfl⟩
 have av : Hid (Below w.heap.size w w0) := aa (by rw [← hW]; exact aB (Below.refl _ _))
 have HX0 : Hid (eO w0 w.heap.size P Q G) := aa (by rw [← hW]; exact (az w P Q G).below (ai _ _))
 have dY : Hid (iQ w0 (w.heap.size + 1) (.slice Y bn yc) (.slice B bn bc)) := aa (by rw [← hW]; exact aV _ _ _ _ _)
 have gu : Hid (Sl w0 Y ys) := aa (hY.out.below av.out)
 have fA : Hid (Rw w0 B rows) := aa (hB.out.below av.out)
 have HW := aa hW
 clear hW hY hB
 have d1 : decide ((bn : Int) < 1) = false := by simp; omega
 have d2 : decide ((8 : Int) < (bn : Int)) = false := by simp; omega
 have d4 : decide ((n0 : Int) < 1) = true := by simp; omega
 go_in
 go_wp2_with fail
 rw [HW.out]
 go_wp2_with fail
 refine (fJ P Q G true HG hQ _).mono ?_
 rintro e w1 ⟨rfl, hb0⟩
 have hb1 := af (av.out) hb0
 have fT := aa (HX0.out.below hb0)
 have HR1 := aa (dY.out.below hb0)
 have mZ := aa (gu.out.below hb0)
 have fI := aa (fA.out.below hb0)
 clear hb0
 obtain ⟨c0, c1, c2⟩ := fT.out
 obtain ⟨d0, d1⟩ := HR1.out
 go_wp2_with fail
 refine (eB Y bn yc B rows bn bc n0 hbn (by omega) hN _ fI).mono ?_
 rintro e w2 ⟨rfl, hb0⟩
 have hb2 := af hb1 hb0
 have mD := aa (fT.out.below hb0)
 have HR2 := aa (HR1.out.below hb0)
 have Er := aa (mZ.out.below hb0)
 have nM := aa (fI.out.below hb0)
 clear c0 c1 c2 d0 d1 hb0
 obtain ⟨c0, c1, c2⟩ := mD.out
 obtain ⟨d0, d1⟩ := HR2.out
 go_wp2
 go_ret
 exact ⟨rfl, hb2⟩
theorem NU (P Q G : Int) (Y : Option Addr) (ys : List Int) (yc : Nat) (B : Option Addr) (rows : List Row) (bn bc : Nat) (n0 : Nat) (hN : Hid (aU rows = n0)) (HG : Hid (aJ P Q G = true)) (h1 : 1 ≤ bn) (h2 : bn ≤ 8) (h4 : 1 ≤ n0) (h5 : 12 < n0) (hyn : Hid (ys.length = bn)) (hbn : Hid (rows.length = bn)) (hQ : Q < 9223372036854775808) (w : World) (hY : Hid (Sl w Y ys)) (hB : Hid (Rw w B rows)) :
  Calls Tryz.prog 45 #[gv P Q G, dm Y bn yc B bn bc] w (Rt w (.bool false)) := by
 obtain ⟨w0, hW⟩ : ∃ W, (w.alloc (aN P Q G)).alloc (dW Y bn yc B bn bc) = W := ⟨_, rfl⟩
 have av : Hid (Below w.heap.size w w0) := aa (by rw [← hW]; exact aB (Below.refl _ _))
 have HX0 : Hid (eO w0 w.heap.size P Q G) := aa (by rw [← hW]; exact (az w P Q G).below (ai _ _))
 have dY : Hid (iQ w0 (w.heap.size + 1) (.slice Y bn yc) (.slice B bn bc)) := aa (by rw [← hW]; exact aV _ _ _ _ _)
 have gu : Hid (Sl w0 Y ys) := aa (hY.out.below av.out)
 have fA : Hid (Rw w0 B rows) := aa (hB.out.below av.out)
 have HW := aa hW
 clear hW hY hB
 have d1 : decide ((bn : Int) < 1) = false := by simp; omega
 have d2 : decide ((8 : Int) < (bn : Int)) = false := by simp; omega
 have d4 : decide ((n0 : Int) < 1) = false := by simp; omega
 have d5 : decide ((12 : Int) < (n0 : Int)) = true := by simp; omega
 go_in
 go_wp2_with fail
 rw [HW.out]
 go_wp2_with fail
 refine (fJ P Q G true HG hQ _).mono ?_
 rintro e w1 ⟨rfl, hb0⟩
 have hb1 := af (av.out) hb0
 have fT := aa (HX0.out.below hb0)
 have HR1 := aa (dY.out.below hb0)
 have mZ := aa (gu.out.below hb0)
 have fI := aa (fA.out.below hb0)
 clear hb0
 obtain ⟨c0, c1, c2⟩ := fT.out
 obtain ⟨d0, d1⟩ := HR1.out
 go_wp2_with fail
 refine (eB Y bn yc B rows bn bc n0 hbn (by omega) hN _ fI).mono ?_
 rintro e w2 ⟨rfl, hb0⟩
 have hb2 := af hb1 hb0
 have mD := aa (fT.out.below hb0)
 have HR2 := aa (HR1.out.below hb0)
 have Er := aa (mZ.out.below hb0)
 have nM := aa (fI.out.below hb0)
 clear c0 c1 c2 d0 d1 hb0
 obtain ⟨c0, c1, c2⟩ := mD.out
 obtain ⟨d0, d1⟩ := HR2.out
 go_wp2
 go_ret
 exact ⟨rfl, hb2⟩
theorem fo (P Q G : Int) (Y : Option Addr) (ys : List Int) (yn yc : Nat) (B : Option Addr) (rows : List Row) (bn bc : Nat) (r : Bool) (hr : Hid (aP P Q G ys rows = r)) (hyn : Hid (ys.length = yn)) (hbn : Hid (rows.length = bn)) (hQ : Q < 9223372036854775808) (w : World) (hY : Hid (Sl w Y ys)) (hB : Hid (Rw w B rows)) :
  Calls Tryz.prog 45 #[gv P Q G, dm Y yn yc B bn bc] w (Rt w (.bool r)) := by
 have hr' := hr.out
 rw [aP, hyn.out, hbn.out] at hr'
 cases hg : aJ P Q G with
 | false =>
  obtain rfl : r = false := by rw [← hr', hg, Bool.false_and]
  exact NT P Q G Y ys yn yc B rows bn bc (aa hg) hyn hbn hQ w hY hB
 | true =>
  rw [hg, Bool.true_and] at hr'
  by_cases h1 : yn < 1
  ·
   obtain rfl : r = false := by rw [← hr', decide_eq_false (show ¬ 1 ≤ yn by omega)]; rfl
   exact NZ P Q G Y ys yn yc B rows bn bc (aa hg) h1 hyn hbn hQ w hY hB
  ·
   rw [decide_eq_true (show 1 ≤ yn by omega), Bool.true_and] at hr'
   by_cases h2 : 8 < yn
   ·
    obtain rfl : r = false := by rw [← hr', decide_eq_false (show ¬ yn ≤ 8 by omega)]; rfl
    exact NY P Q G Y ys yn yc B rows bn bc (aa hg) (by omega) h2 hyn hbn hQ w hY hB
   ·
    rw [decide_eq_true (show yn ≤ 8 by omega), Bool.true_and] at hr'
    by_cases h3 : bn = yn
    ·
     subst h3
     rw [decide_eq_true rfl, Bool.true_and] at hr'
     obtain ⟨n0, hn0⟩ : ∃ n, aU rows = n := ⟨_, rfl⟩
     rw [hn0] at hr'
     by_cases h4 : n0 < 1
     ·
      obtain rfl : r = false := by rw [← hr', decide_eq_false (show ¬ 1 ≤ n0 by omega), Bool.false_and, Bool.and_false]
      exact NV P Q G Y ys yc B rows bn bc n0 (aa hn0) (aa hg) (by omega) (by omega) h4 hyn hbn hQ w hY hB
     ·
      rw [decide_eq_true (show 1 ≤ n0 by omega), Bool.true_and] at hr'
      by_cases h5 : 12 < n0
      ·
       obtain rfl : r = false := by rw [← hr', decide_eq_false (show ¬ n0 ≤ 12 by omega), Bool.false_and, Bool.and_false]
       exact NU P Q G Y ys yc B rows bn bc n0 (aa hn0) (aa hg) (by omega) (by omega) (by omega) h5 hyn hbn hQ w hY hB
      ·
       rw [decide_eq_true (show n0 ≤ 12 by omega), Bool.true_and] at hr'
       exact H6 P Q G Y ys bn yc B rows bc n0 r (aa hg) (aa (by rw [leftV, List.drop_zero, List.drop_zero]; exact hr')) (aa hn0) hyn hbn (by omega) (by omega) (by omega) (by omega) hQ w hY hB
    ·
     obtain rfl : r = false := by rw [← hr', decide_eq_false h3]; rfl
     exact NW P Q G Y ys yn yc B rows bn bc (aa hg) (by omega) (by omega) h3 hyn hbn hQ w hY hB
def lS (P Q G : Int) (ys : List Int) (rows : List Row) (xs : List Int) : Bool :=
 aP P Q G ys rows && (decide (xs.length = aU rows) && (xs.all (cu Q) && ((rows.map fun r => aO P 1 r.xs xs) == ys)))
theorem JD (g n cap : Nat) (zs : List Int) (Y : Option Addr) (ys : List Int) (m yc : Nat) (hn : zs.length = n) (hm : Hid (ys.length = m)) (hpos : 0 < m) (hbig : n < 1000) (hbig2 : m < 1000) (w : World) (h1 : Hid (Cells w g zs)) (h2 : Hid (Sl w Y ys)) :
  Calls Tryz.prog 21 #[.slice (some ⟨g, 0, none⟩) n cap, .slice Y m yc] w (Rt w (.bool (zs == ys))) := by
 obtain ⟨b, o, rfl, _⟩ := h2.out 0 (by rw [hm.out]; exact hpos)
 have hm' := hm.out
 refine (Tryz.slices_Equal_int g 0 n cap b o m yc zs ys w (by omega) (by omega) (by omega) (by omega) (fun j hj => ?_) (fun j hj => ?_)).mono ?_
 · rw [Nat.zero_add]; exact h1.out j hj
 ·
  obtain ⟨b', o', e1, e2⟩ := h2.out j hj
  cases e1
  exact e2
 ·
  rintro e w' ⟨rfl, q, rfl⟩
  refine ⟨?_, ay (Below.refl _ _) _⟩
  rw [List.take_of_length_le (by omega), List.take_of_length_le (by omega)]
def Bo (zs : List Int) (n : Nat) (w : World) (e : Ending) (w' : World) : Prop := ∃ g cap, e = .returned (.slice (some ⟨g, 0, none⟩) n cap) ∧ Hid (Cells w' g zs) ∧ Below w.heap.size w w'
theorem za.cells {zs : List Int} {n : Nat} {w w' : World} {e : Ending} (h : za zs w e w') (hn : zs.length = n) (hpos : 0 < n) : Bo zs n w e w' := by
 obtain ⟨v, he, ho, hb⟩ := h
 obtain ⟨g, cap, rfl, _, hc⟩ := dN.cells ho (by omega)
 rw [hn] at he
 exact ⟨g, cap, he, aa hc, hb⟩
theorem Cells.toSl {w : World} {b : Nat} {xs : List Int} (h : Hid (Cells w b xs)) : Hid (Sl w (some ⟨b, 0, none⟩) xs) := aa (dL h.out)
theorem IE (P Q G : Int) (Y : Option Addr) (ys : List Int) (yn yc : Nat) (B : Option Addr) (rows : List Row) (bn bc : Nat) (L : Option Addr) (ls : List Int) (ln lc : Nat) (hyn : Hid (ys.length = yn)) (hbn : Hid (rows.length = bn)) (hln : Hid (ls.length = ln)) (hlb : ln < 1000000) (cB : Hid (aP P Q G ys rows = false)) (hQ : Q < 9223372036854775808) (w : World) (hv : Hid (Vars w)) (hY : Hid (Sl w Y ys)) (hB : Hid (Rw w B rows)) (hL : Hid (Sl w L ls)) :
  Calls Tryz.prog 62 #[gv P Q G, dm Y yn yc B bn bc, .slice L ln lc] w (Rt w (.bool false)) := by
 obtain ⟨W, hW⟩ : ∃ W, (w.alloc (aN P Q G)).alloc (dW Y yn yc B bn bc) = W := ⟨_, rfl⟩
 have av : Hid (Below w.heap.size w W) := aa (by rw [← hW]; exact aB (Below.refl _ _))
 have HX0 : Hid (eO W w.heap.size P Q G) := aa (by rw [← hW]; exact (az w P Q G).below (ai _ _))
 have dY : Hid (iQ W (w.heap.size + 1) (.slice Y yn yc) (.slice B bn bc)) := aa (by rw [← hW]; exact aV _ _ _ _ _)
 have Jg := aa (show ∀ u1 : World, Hid (Below W.heap.size W u1) → Hid (Sl u1 Y ys) from fun u1 h1 => aa (hY.out.below (af av.out h1.out)))
 have CB := aa (show ∀ u1 : World, Hid (Below W.heap.size W u1) → Hid (Rw u1 B rows) from fun u1 h1 => aa (hB.out.below (af av.out h1.out)))
 have Qf := aa (show ∀ u1 : World, Hid (Below W.heap.size W u1) → Hid (Sl u1 L ls) from fun u1 h1 => aa (hL.out.below (af av.out h1.out)))
 have Mm := aa (show ∀ u1 : World, Hid (Below W.heap.size W u1) → Hid (Vars u1) from fun u1 h1 => aa (hv.out.below (af av.out h1.out)))
 have hS := aa (show ∀ u1 u2 : World, Hid (Below W.heap.size W u1) → Below u1.heap.size u1 u2 → (u2.cell? ⟨w.heap.size, 0, none⟩ = some (.int .i64 P) ∧ u2.cell? ⟨w.heap.size, 1, none⟩ = some (.int .i64 Q) ∧ u2.cell? ⟨w.heap.size, 2, none⟩ = some (.int .i64 G) ∧ u2.cell? ⟨w.heap.size + 1, 0, none⟩ = some (.slice Y yn yc) ∧ u2.cell? ⟨w.heap.size + 1, 1, none⟩ = some (.slice B bn bc) ∧ Hid (Below W.heap.size W u2)) from fun u1 u2 h1 h2 => have h3 := af h1.out h2; ⟨(HX0.out.below h3).1, (HX0.out.below h3).2.1, (HX0.out.below h3).2.2, (dY.out.below h3).1, (dY.out.below h3).2, aa h3⟩)
 have hR : Hid (Below W.heap.size W W) := aa (Below.refl _ _)
 have HW := aa hW
 clear hW hY hB hL
 go_in
 go_wp2_with fail
 rw [HW.out]
 refine wp_region_held_drew (S := fun w' => w'.cell? ⟨w.heap.size, 0, none⟩ = some (.int .i64 P) ∧ w'.cell? ⟨w.heap.size, 1, none⟩ = some (.int .i64 Q) ∧ w'.cell? ⟨w.heap.size, 2, none⟩ = some (.int .i64 G) ∧ w'.cell? ⟨w.heap.size + 1, 0, none⟩ = some (.slice Y yn yc) ∧ w'.cell? ⟨w.heap.size + 1, 1, none⟩ = some (.slice B bn bc) ∧ Hid (Below W.heap.size W w')) (by kernel_rfl) (hS.out _ _ hR ((Below.refl W.heap.size W).drew)) (fun hHeld => ?_)
 refine wpAnyH_take (i := 0) (oi := _) (v := ?_) rfl (by kernel_rfl) (by kernel_rfl) (by kernel_rfl) (fun _ _ _ h => h) (Or.inl ⟨by rfl, ?_⟩) (by assumption) ?_
 rotate_left; (intro wS hSw; (try dsimp only at hSw); go_simp <;> with_reducible rfl)
 try simp only [qq]
 refine wpAnyH_take (i := 1) (oi := _) (v := ?_) rfl (by kernel_rfl) (by kernel_rfl) (by kernel_rfl) (fun _ _ _ h => h) (Or.inl ⟨by rfl, ?_⟩) (by assumption) ?_
 rotate_left; (intro wS hSw; (try dsimp only at hSw); go_simp <;> with_reducible rfl)
 try simp only [qq]
 refine wpAnyH_ready (rs := [2]) (by kernel_rfl) (by simp) ?_
 refine AllReadyH.cons rfl (fun K hK => ?_) AllReadyH.nil
 go_simp
 (with_reducible refine (bH P Q G Y ys yn yc B rows bn bc false cB hyn hbn hQ _ ?_ ?_ ?_).mono ?_); (go_split_ands; exact Mm.out _ (by assumption)); (go_split_ands; exact Jg.out _ (by assumption)); (go_split_ands; exact CB.out _ (by assumption)); rintro e wA ⟨rfl, bA⟩
 refine hK.out _ _ ?_ (fun hHeld => ?_)
 · (go_split_ands; exact hS.out _ _ (by assumption) bA)
 clear hK K
 try simp only [qq]
 refine wpAnyH_take (i := 3) (oi := _) (v := ?_) rfl (by kernel_rfl) (by kernel_rfl) (by kernel_rfl) (fun _ _ _ h => h) (Or.inl ⟨by rfl, ?_⟩) (by assumption) ?_
 rotate_left; (intro wS hSw; (try dsimp only at hSw); go_simp <;> with_reducible rfl)
 try simp only [qq]
 refine wpAnyH_take (i := 4) (oi := _) (v := undef) rfl (by kernel_rfl) (by kernel_rfl) (by kernel_rfl) (fun _ _ _ h => h) (Or.inr ⟨by rfl, rfl⟩) (by assumption) ?_
 try simp only [qq]
 refine wpAnyH_take (i := 5) (oi := _) (v := undef) rfl (by kernel_rfl) (by kernel_rfl) (by kernel_rfl) (fun _ _ _ h => h) (Or.inr ⟨by rfl, rfl⟩) (by assumption) ?_
 try simp only [qq]
 refine wpAnyH_take (i := 6) (oi := _) (v := undef) rfl (by kernel_rfl) (by kernel_rfl) (by kernel_rfl) (fun _ _ _ h => h) (Or.inr ⟨by rfl, rfl⟩) (by assumption) ?_
 try simp only [qq]
 refine wpAnyH_take (i := 7) (oi := _) (v := undef) rfl (by kernel_rfl) (by kernel_rfl) (by kernel_rfl) (fun _ _ _ h => h) (Or.inr ⟨by rfl, rfl⟩) (by assumption) ?_
 try simp only [qq]
 refine wpAnyH_take (i := 8) (oi := _) (v := undef) rfl (by kernel_rfl) (by kernel_rfl) (by kernel_rfl) (fun _ _ _ h => h) (Or.inr ⟨by rfl, rfl⟩) (by assumption) ?_
 try simp only [qq]
 refine wpAnyH_take (i := 9) (oi := _) (v := ?_) rfl (by kernel_rfl) (by kernel_rfl) (by kernel_rfl) (fun _ _ _ h => h) (Or.inl ⟨by rfl, ?_⟩) (by assumption) ?_
 rotate_left; (intro wS hSw; (try dsimp only at hSw); go_simp <;> with_reducible rfl)
 try simp only [qq]
 refine wpAnyH_take (i := 10) (oi := _) (v := ?_) rfl (by kernel_rfl) (by kernel_rfl) (by kernel_rfl) (fun _ _ _ h => h) (Or.inl ⟨by rfl, ?_⟩) (by assumption) ?_
 rotate_left; (intro wS hSw; (try dsimp only at hSw); go_simp <;> with_reducible rfl)
 try simp only [qq]
 refine wpAnyH_take (i := 11) (oi := _) (v := undef) rfl (by kernel_rfl) (by kernel_rfl) (by kernel_rfl) (fun _ _ _ h => h) (Or.inr ⟨by rfl, rfl⟩) (by assumption) ?_
 try simp only [qq]
 refine wpAnyH_take (i := 12) (oi := _) (v := undef) rfl (by kernel_rfl) (by kernel_rfl) (by kernel_rfl) (fun _ _ _ h => h) (Or.inr ⟨by rfl, rfl⟩) (by assumption) ?_
 try simp only [qq]
 refine wpAnyH_take (i := 13) (oi := _) (v := undef) rfl (by kernel_rfl) (by kernel_rfl) (by kernel_rfl) (fun _ _ _ h => h) (Or.inr ⟨by rfl, rfl⟩) (by assumption) ?_
 try simp only [qq]
 refine wpAnyH_take (i := 14) (oi := _) (v := ?_) rfl (by kernel_rfl) (by kernel_rfl) (by kernel_rfl) (fun _ _ _ h => h) (Or.inl ⟨by rfl, ?_⟩) (by assumption) ?_
 rotate_left; (intro wS hSw; (try dsimp only at hSw); go_simp <;> with_reducible rfl)
 try simp only [qq]
 refine wpAnyH_take (i := 15) (oi := _) (v := ?_) rfl (by kernel_rfl) (by kernel_rfl) (by kernel_rfl) (fun _ _ _ h => h) (Or.inl ⟨by rfl, ?_⟩) (by assumption) ?_
 rotate_left; (intro wS hSw; (try dsimp only at hSw); go_simp <;> with_reducible rfl)
 try simp only [qq]
 refine wpAnyH_take (i := 16) (oi := _) (v := undef) rfl (by kernel_rfl) (by kernel_rfl) (by kernel_rfl) (fun _ _ _ h => h) (Or.inr ⟨by rfl, rfl⟩) (by assumption) ?_
 try simp only [qq]
 refine wpAnyH_take (i := 17) (oi := _) (v := undef) rfl (by kernel_rfl) (by kernel_rfl) (by kernel_rfl) (fun _ _ _ h => h) (Or.inr ⟨by rfl, rfl⟩) (by assumption) ?_
 try simp only [qq]
 refine wpAnyH_take (i := 18) (oi := _) (v := undef) rfl (by kernel_rfl) (by kernel_rfl) (by kernel_rfl) (fun _ _ _ h => h) (Or.inr ⟨by rfl, rfl⟩) (by assumption) ?_
 try simp only [qq]
 refine wpAnyH_take (i := 19) (oi := _) (v := undef) rfl (by kernel_rfl) (by kernel_rfl) (by kernel_rfl) (fun _ _ _ h => h) (Or.inr ⟨by rfl, rfl⟩) (by assumption) ?_
 try simp only [qq]
 refine wpAnyH_take (i := 20) (oi := _) (v := undef) rfl (by kernel_rfl) (by kernel_rfl) (by kernel_rfl) (fun _ _ _ h => h) (Or.inr ⟨by rfl, rfl⟩) (by assumption) ?_
 try simp only [qq]
 refine wpAnyH_take (i := 21) (oi := _) (v := undef) rfl (by kernel_rfl) (by kernel_rfl) (by kernel_rfl) (fun _ _ _ h => h) (Or.inr ⟨by rfl, rfl⟩) (by assumption) ?_
 try simp only [qq]
 refine wpAnyH_take (i := 22) (oi := _) (v := undef) rfl (by kernel_rfl) (by kernel_rfl) (by kernel_rfl) (fun _ _ _ h => h) (Or.inr ⟨by rfl, rfl⟩) (by assumption) ?_
 try simp only [qq]
 refine wpAnyH_take (i := 23) (oi := _) (v := undef) rfl (by kernel_rfl) (by kernel_rfl) (by kernel_rfl) (fun _ _ _ h => h) (Or.inr ⟨by rfl, rfl⟩) (by assumption) ?_
 try simp only [qq]
 refine wpAnyH_take (i := 24) (oi := _) (v := ?_) rfl (by kernel_rfl) (by kernel_rfl) (by kernel_rfl) (fun _ _ _ h => h) (Or.inl ⟨by rfl, ?_⟩) (by assumption) ?_
 rotate_left; (intro wS hSw; (try dsimp only at hSw); go_simp <;> with_reducible rfl)
 try simp only [qq]
 refine wpAnyH_take (i := 25) (oi := _) (v := ?_) rfl (by kernel_rfl) (by kernel_rfl) (by kernel_rfl) (fun _ _ _ h => h) (Or.inl ⟨by rfl, ?_⟩) (by assumption) ?_
 rotate_left; (intro wS hSw; (try dsimp only at hSw); go_simp <;> with_reducible rfl)
 try simp only [qq]
 refine wpAnyH_done (by kernel_rfl) ?_ _
 obtain ⟨x0, x1, x2, x3, x4, nH⟩ := hHeld
 have dw := af av.out nH.out
 go_wp2
 go_ret
 exact ⟨rfl, dw⟩
theorem II (P Q G : Int) (Y : Option Addr) (ys : List Int) (yn yc : Nat) (B : Option Addr) (rows : List Row) (bn bc : Nat) (L : Option Addr) (ls : List Int) (ln lc : Nat) (hyn : Hid (ys.length = yn)) (hbn : Hid (rows.length = bn)) (hln : Hid (ls.length = ln)) (hlb : ln < 1000000) (cB : Hid (aP P Q G ys rows = true)) (hlen : ls.length ≠ aU rows) (hQ : Q < 9223372036854775808) (w : World) (hv : Hid (Vars w)) (hY : Hid (Sl w Y ys)) (hB : Hid (Rw w B rows)) (hL : Hid (Sl w L ls)) :
  Calls Tryz.prog 62 #[gv P Q G, dm Y yn yc B bn bc, .slice L ln lc] w (Rt w (.bool false)) := by
 obtain ⟨W, hW⟩ : ∃ W, (w.alloc (aN P Q G)).alloc (dW Y yn yc B bn bc) = W := ⟨_, rfl⟩
 have av : Hid (Below w.heap.size w W) := aa (by rw [← hW]; exact aB (Below.refl _ _))
 have HX0 : Hid (eO W w.heap.size P Q G) := aa (by rw [← hW]; exact (az w P Q G).below (ai _ _))
 have dY : Hid (iQ W (w.heap.size + 1) (.slice Y yn yc) (.slice B bn bc)) := aa (by rw [← hW]; exact aV _ _ _ _ _)
 have Jg := aa (show ∀ u1 : World, Hid (Below W.heap.size W u1) → Hid (Sl u1 Y ys) from fun u1 h1 => aa (hY.out.below (af av.out h1.out)))
 have CB := aa (show ∀ u1 : World, Hid (Below W.heap.size W u1) → Hid (Rw u1 B rows) from fun u1 h1 => aa (hB.out.below (af av.out h1.out)))
 have Qf := aa (show ∀ u1 : World, Hid (Below W.heap.size W u1) → Hid (Sl u1 L ls) from fun u1 h1 => aa (hL.out.below (af av.out h1.out)))
 have Mm := aa (show ∀ u1 : World, Hid (Below W.heap.size W u1) → Hid (Vars u1) from fun u1 h1 => aa (hv.out.below (af av.out h1.out)))
 have hS := aa (show ∀ u1 u2 : World, Hid (Below W.heap.size W u1) → Below u1.heap.size u1 u2 → (u2.cell? ⟨w.heap.size, 0, none⟩ = some (.int .i64 P) ∧ u2.cell? ⟨w.heap.size, 1, none⟩ = some (.int .i64 Q) ∧ u2.cell? ⟨w.heap.size, 2, none⟩ = some (.int .i64 G) ∧ u2.cell? ⟨w.heap.size + 1, 0, none⟩ = some (.slice Y yn yc) ∧ u2.cell? ⟨w.heap.size + 1, 1, none⟩ = some (.slice B bn bc) ∧ Hid (Below W.heap.size W u2)) from fun u1 u2 h1 h2 => have h3 := af h1.out h2; ⟨(HX0.out.below h3).1, (HX0.out.below h3).2.1, (HX0.out.below h3).2.2, (dY.out.below h3).1, (dY.out.below h3).2, aa h3⟩)
 have hR : Hid (Below W.heap.size W W) := aa (Below.refl _ _)
 have HW := aa hW
 clear hW hY hB hL
 obtain ⟨v1, v2, v3, v4, v5, v6, v7, v8⟩ := ak cB.out
 have hbp : 0 < bn := by rw [← hbn.out]; omega
 obtain ⟨n0, hn0⟩ : ∃ n, aU rows = n := ⟨_, rfl⟩
 have HN := aa hn0
 have heq : ((ln : Int) == (n0 : Int)) = false := by rw [← hln.out, ← hn0]; simp; omega
 clear v1 v2 v3 v4 v5 v6 v7 v8 hn0 hlen
 go_in
 go_wp2_with fail
 rw [HW.out]
 refine wp_region_held_drew (S := fun w' => w'.cell? ⟨w.heap.size, 0, none⟩ = some (.int .i64 P) ∧ w'.cell? ⟨w.heap.size, 1, none⟩ = some (.int .i64 Q) ∧ w'.cell? ⟨w.heap.size, 2, none⟩ = some (.int .i64 G) ∧ w'.cell? ⟨w.heap.size + 1, 0, none⟩ = some (.slice Y yn yc) ∧ w'.cell? ⟨w.heap.size + 1, 1, none⟩ = some (.slice B bn bc) ∧ Hid (Below W.heap.size W w')) (by kernel_rfl) (hS.out _ _ hR ((Below.refl W.heap.size W).drew)) (fun hHeld => ?_)
 refine wpAnyH_take (i := 0) (oi := _) (v := ?_) rfl (by kernel_rfl) (by kernel_rfl) (by kernel_rfl) (fun _ _ _ h => h) (Or.inl ⟨by rfl, ?_⟩) (by assumption) ?_
 rotate_left; (intro wS hSw; (try dsimp only at hSw); go_simp <;> with_reducible rfl)
 try simp only [qq]
 refine wpAnyH_take (i := 1) (oi := _) (v := ?_) rfl (by kernel_rfl) (by kernel_rfl) (by kernel_rfl) (fun _ _ _ h => h) (Or.inl ⟨by rfl, ?_⟩) (by assumption) ?_
 rotate_left; (intro wS hSw; (try dsimp only at hSw); go_simp <;> with_reducible rfl)
 try simp only [qq]
 refine wpAnyH_ready (rs := [2]) (by kernel_rfl) (by simp) ?_
 refine AllReadyH.cons rfl (fun K hK => ?_) AllReadyH.nil
 go_simp
 (with_reducible refine (bH P Q G Y ys yn yc B rows bn bc true cB hyn hbn hQ _ ?_ ?_ ?_).mono ?_); (go_split_ands; exact Mm.out _ (by assumption)); (go_split_ands; exact Jg.out _ (by assumption)); (go_split_ands; exact CB.out _ (by assumption)); rintro e wA ⟨rfl, bA⟩
 refine hK.out _ _ ?_ (fun hHeld => ?_)
 · (go_split_ands; exact hS.out _ _ (by assumption) bA)
 clear hK K
 try simp only [qq]
 refine wpAnyH_take (i := 3) (oi := _) (v := ?_) rfl (by kernel_rfl) (by kernel_rfl) (by kernel_rfl) (fun _ _ _ h => h) (Or.inl ⟨by rfl, ?_⟩) (by assumption) ?_
 rotate_left; (intro wS hSw; (try dsimp only at hSw); go_simp <;> with_reducible rfl)
 try simp only [qq]
 refine wpAnyH_take (i := 4) (oi := _) (v := ?_) rfl (by kernel_rfl) (by kernel_rfl) (by kernel_rfl) (fun _ _ _ h => h) (Or.inl ⟨by rfl, ?_⟩) (by assumption) ?_
 rotate_left; (intro wS hSw; (try dsimp only at hSw); go_simp <;> with_reducible rfl)
 try simp only [qq]
 refine wpAnyH_take (i := 5) (oi := _) (v := ?_) rfl (by kernel_rfl) (by kernel_rfl) (by kernel_rfl) (fun _ _ _ h => h) (Or.inl ⟨by rfl, ?_⟩) (by assumption) ?_
 rotate_left; (intro wS hSw; (try dsimp only at hSw); go_simp <;> with_reducible rfl)
 try simp only [qq]
 refine wpAnyH_take (i := 6) (oi := _) (v := ?_) rfl (by kernel_rfl) (by kernel_rfl) (by kernel_rfl) (fun _ _ _ h => h) (Or.inl ⟨by rfl, ?_⟩) (by assumption) ?_
 rotate_left; (intro wS hSw; (try dsimp only at hSw); go_simp <;> with_reducible rfl)
 try simp only [qq]
 refine wpAnyH_ready (rs := [7]) (by kernel_rfl) (by simp) ?_
 refine AllReadyH.cons rfl (fun K hK => ?_) AllReadyH.nil
 go_simp
 (with_reducible refine (bJ Y yn yc B rows bn bc n0 hbn hbp HN _ ?_).mono ?_); (go_split_ands; exact CB.out _ (by assumption)); rintro e wA ⟨rfl, bA⟩
 refine hK.out _ _ ?_ (fun hHeld => ?_)
 · (go_split_ands; exact hS.out _ _ (by assumption) bA)
 clear hK K
 try simp only [qq]
 refine wpAnyH_take (i := 8) (oi := _) (v := ?_) rfl (by kernel_rfl) (by kernel_rfl) (by kernel_rfl) (fun _ _ _ h => h) (Or.inl ⟨by rfl, ?_⟩) (by assumption) ?_
 rotate_left; (intro wS hSw; (try dsimp only at hSw); go_simp <;> with_reducible rfl)
 try simp only [qq]
 refine wpAnyH_take (i := 9) (oi := _) (v := ?_) rfl (by kernel_rfl) (by kernel_rfl) (by kernel_rfl) (fun _ _ _ h => h) (Or.inl ⟨by rfl, ?_⟩) (by assumption) ?_
 rotate_left; (intro wS hSw; (try dsimp only at hSw); go_simp <;> with_reducible rfl)
 try simp only [qq]
 refine wpAnyH_take (i := 10) (oi := _) (v := ?_) rfl (by kernel_rfl) (by kernel_rfl) (by kernel_rfl) (fun _ _ _ h => h) (Or.inl ⟨by rfl, ?_⟩) (by assumption) ?_
 rotate_left; (intro wS hSw; (try dsimp only at hSw); go_simp <;> with_reducible rfl)
 try simp only [qq]
 refine wpAnyH_take (i := 11) (oi := _) (v := undef) rfl (by kernel_rfl) (by kernel_rfl) (by kernel_rfl) (fun _ _ _ h => h) (Or.inr ⟨by rfl, rfl⟩) (by assumption) ?_
 try simp only [qq]
 refine wpAnyH_take (i := 12) (oi := _) (v := undef) rfl (by kernel_rfl) (by kernel_rfl) (by kernel_rfl) (fun _ _ _ h => h) (Or.inr ⟨by rfl, rfl⟩) (by assumption) ?_
 try simp only [qq]
 refine wpAnyH_take (i := 13) (oi := _) (v := undef) rfl (by kernel_rfl) (by kernel_rfl) (by kernel_rfl) (fun _ _ _ h => h) (Or.inr ⟨by rfl, rfl⟩) (by assumption) ?_
 try simp only [qq]
 refine wpAnyH_take (i := 14) (oi := _) (v := ?_) rfl (by kernel_rfl) (by kernel_rfl) (by kernel_rfl) (fun _ _ _ h => h) (Or.inl ⟨by rfl, ?_⟩) (by assumption) ?_
 rotate_left; (intro wS hSw; (try dsimp only at hSw); go_simp <;> with_reducible rfl)
 try simp only [qq]
 refine wpAnyH_take (i := 15) (oi := _) (v := ?_) rfl (by kernel_rfl) (by kernel_rfl) (by kernel_rfl) (fun _ _ _ h => h) (Or.inl ⟨by rfl, ?_⟩) (by assumption) ?_
 rotate_left; (intro wS hSw; (try dsimp only at hSw); go_simp <;> with_reducible rfl)
 try simp only [qq]
 refine wpAnyH_take (i := 16) (oi := _) (v := undef) rfl (by kernel_rfl) (by kernel_rfl) (by kernel_rfl) (fun _ _ _ h => h) (Or.inr ⟨by rfl, rfl⟩) (by assumption) ?_
 try simp only [qq]
 refine wpAnyH_take (i := 17) (oi := _) (v := undef) rfl (by kernel_rfl) (by kernel_rfl) (by kernel_rfl) (fun _ _ _ h => h) (Or.inr ⟨by rfl, rfl⟩) (by assumption) ?_
 try simp only [qq]
 refine wpAnyH_take (i := 18) (oi := _) (v := undef) rfl (by kernel_rfl) (by kernel_rfl) (by kernel_rfl) (fun _ _ _ h => h) (Or.inr ⟨by rfl, rfl⟩) (by assumption) ?_
 try simp only [qq]
 refine wpAnyH_take (i := 19) (oi := _) (v := undef) rfl (by kernel_rfl) (by kernel_rfl) (by kernel_rfl) (fun _ _ _ h => h) (Or.inr ⟨by rfl, rfl⟩) (by assumption) ?_
 try simp only [qq]
 refine wpAnyH_take (i := 20) (oi := _) (v := undef) rfl (by kernel_rfl) (by kernel_rfl) (by kernel_rfl) (fun _ _ _ h => h) (Or.inr ⟨by rfl, rfl⟩) (by assumption) ?_
 try simp only [qq]
 refine wpAnyH_take (i := 21) (oi := _) (v := undef) rfl (by kernel_rfl) (by kernel_rfl) (by kernel_rfl) (fun _ _ _ h => h) (Or.inr ⟨by rfl, rfl⟩) (by assumption) ?_
 try simp only [qq]
 refine wpAnyH_take (i := 22) (oi := _) (v := undef) rfl (by kernel_rfl) (by kernel_rfl) (by kernel_rfl) (fun _ _ _ h => h) (Or.inr ⟨by rfl, rfl⟩) (by assumption) ?_
 try simp only [qq]
 refine wpAnyH_take (i := 23) (oi := _) (v := undef) rfl (by kernel_rfl) (by kernel_rfl) (by kernel_rfl) (fun _ _ _ h => h) (Or.inr ⟨by rfl, rfl⟩) (by assumption) ?_
 try simp only [qq]
 refine wpAnyH_take (i := 24) (oi := _) (v := ?_) rfl (by kernel_rfl) (by kernel_rfl) (by kernel_rfl) (fun _ _ _ h => h) (Or.inl ⟨by rfl, ?_⟩) (by assumption) ?_
 rotate_left; (intro wS hSw; (try dsimp only at hSw); go_simp <;> with_reducible rfl)
 try simp only [qq]
 refine wpAnyH_take (i := 25) (oi := _) (v := ?_) rfl (by kernel_rfl) (by kernel_rfl) (by kernel_rfl) (fun _ _ _ h => h) (Or.inl ⟨by rfl, ?_⟩) (by assumption) ?_
 rotate_left; (intro wS hSw; (try dsimp only at hSw); go_simp <;> with_reducible rfl)
 try simp only [qq]
 refine wpAnyH_done (by kernel_rfl) ?_ _
 obtain ⟨x0, x1, x2, x3, x4, nH⟩ := hHeld
 have dw := af av.out nH.out
 go_wp2
 go_ret
 exact ⟨rfl, dw⟩
theorem IG (P Q G : Int) (Y : Option Addr) (ys : List Int) (yn yc : Nat) (B : Option Addr) (rows : List Row) (bn bc : Nat) (L : Option Addr) (ls : List Int) (ln lc : Nat) (hyn : Hid (ys.length = yn)) (hbn : Hid (rows.length = bn)) (hln : Hid (ls.length = ln)) (hlb : ln < 1000000) (cB : Hid (aP P Q G ys rows = true)) (hlen : ls.length = aU rows) (Hl : Hid (ls.all (cu Q) = false)) (hQ : Q < 9223372036854775808) (w : World) (hv : Hid (Vars w)) (hY : Hid (Sl w Y ys)) (hB : Hid (Rw w B rows)) (hL : Hid (Sl w L ls)) :
  Calls Tryz.prog 62 #[gv P Q G, dm Y yn yc B bn bc, .slice L ln lc] w (Rt w (.bool false)) := by
 obtain ⟨W, hW⟩ : ∃ W, (w.alloc (aN P Q G)).alloc (dW Y yn yc B bn bc) = W := ⟨_, rfl⟩
 have av : Hid (Below w.heap.size w W) := aa (by rw [← hW]; exact aB (Below.refl _ _))
 have HX0 : Hid (eO W w.heap.size P Q G) := aa (by rw [← hW]; exact (az w P Q G).below (ai _ _))
 have dY : Hid (iQ W (w.heap.size + 1) (.slice Y yn yc) (.slice B bn bc)) := aa (by rw [← hW]; exact aV _ _ _ _ _)
 have Jg := aa (show ∀ u1 : World, Hid (Below W.heap.size W u1) → Hid (Sl u1 Y ys) from fun u1 h1 => aa (hY.out.below (af av.out h1.out)))
 have CB := aa (show ∀ u1 : World, Hid (Below W.heap.size W u1) → Hid (Rw u1 B rows) from fun u1 h1 => aa (hB.out.below (af av.out h1.out)))
 have Qf := aa (show ∀ u1 : World, Hid (Below W.heap.size W u1) → Hid (Sl u1 L ls) from fun u1 h1 => aa (hL.out.below (af av.out h1.out)))
 have Mm := aa (show ∀ u1 : World, Hid (Below W.heap.size W u1) → Hid (Vars u1) from fun u1 h1 => aa (hv.out.below (af av.out h1.out)))
 have hS := aa (show ∀ u1 u2 : World, Hid (Below W.heap.size W u1) → Below u1.heap.size u1 u2 → (u2.cell? ⟨w.heap.size, 0, none⟩ = some (.int .i64 P) ∧ u2.cell? ⟨w.heap.size, 1, none⟩ = some (.int .i64 Q) ∧ u2.cell? ⟨w.heap.size, 2, none⟩ = some (.int .i64 G) ∧ u2.cell? ⟨w.heap.size + 1, 0, none⟩ = some (.slice Y yn yc) ∧ u2.cell? ⟨w.heap.size + 1, 1, none⟩ = some (.slice B bn bc) ∧ Hid (Below W.heap.size W u2)) from fun u1 u2 h1 h2 => have h3 := af h1.out h2; ⟨(HX0.out.below h3).1, (HX0.out.below h3).2.1, (HX0.out.below h3).2.2, (dY.out.below h3).1, (dY.out.below h3).2, aa h3⟩)
 have hR : Hid (Below W.heap.size W W) := aa (Below.refl _ _)
 have HW := aa hW
 clear hW hY hB hL
 obtain ⟨v1, v2, v3, v4, v5, v6, v7, v8⟩ := ak cB.out
 have hbp : 0 < bn := by rw [← hbn.out]; omega
 obtain ⟨n0, hn0⟩ : ∃ n, aU rows = n := ⟨_, rfl⟩
 have HN := aa hn0
 have heq : ((ln : Int) == (n0 : Int)) = true := by rw [← hln.out, ← hn0]; simp; omega
 clear v1 v2 v3 v4 v5 v6 v7 v8 hn0 hlen
 go_in
 go_wp2_with fail
 rw [HW.out]
 refine wp_region_held_drew (S := fun w' => w'.cell? ⟨w.heap.size, 0, none⟩ = some (.int .i64 P) ∧ w'.cell? ⟨w.heap.size, 1, none⟩ = some (.int .i64 Q) ∧ w'.cell? ⟨w.heap.size, 2, none⟩ = some (.int .i64 G) ∧ w'.cell? ⟨w.heap.size + 1, 0, none⟩ = some (.slice Y yn yc) ∧ w'.cell? ⟨w.heap.size + 1, 1, none⟩ = some (.slice B bn bc) ∧ Hid (Below W.heap.size W w')) (by kernel_rfl) (hS.out _ _ hR ((Below.refl W.heap.size W).drew)) (fun hHeld => ?_)
 refine wpAnyH_take (i := 0) (oi := _) (v := ?_) rfl (by kernel_rfl) (by kernel_rfl) (by kernel_rfl) (fun _ _ _ h => h) (Or.inl ⟨by rfl, ?_⟩) (by assumption) ?_
 rotate_left; (intro wS hSw; (try dsimp only at hSw); go_simp <;> with_reducible rfl)
 try simp only [qq]
 refine wpAnyH_take (i := 1) (oi := _) (v := ?_) rfl (by kernel_rfl) (by kernel_rfl) (by kernel_rfl) (fun _ _ _ h => h) (Or.inl ⟨by rfl, ?_⟩) (by assumption) ?_
 rotate_left; (intro wS hSw; (try dsimp only at hSw); go_simp <;> with_reducible rfl)
 try simp only [qq]
 refine wpAnyH_ready (rs := [2]) (by kernel_rfl) (by simp) ?_
 refine AllReadyH.cons rfl (fun K hK => ?_) AllReadyH.nil
 go_simp
 (with_reducible refine (bH P Q G Y ys yn yc B rows bn bc true cB hyn hbn hQ _ ?_ ?_ ?_).mono ?_); (go_split_ands; exact Mm.out _ (by assumption)); (go_split_ands; exact Jg.out _ (by assumption)); (go_split_ands; exact CB.out _ (by assumption)); rintro e wA ⟨rfl, bA⟩
 refine hK.out _ _ ?_ (fun hHeld => ?_)
 · (go_split_ands; exact hS.out _ _ (by assumption) bA)
 clear hK K
 try simp only [qq]
 refine wpAnyH_take (i := 3) (oi := _) (v := ?_) rfl (by kernel_rfl) (by kernel_rfl) (by kernel_rfl) (fun _ _ _ h => h) (Or.inl ⟨by rfl, ?_⟩) (by assumption) ?_
 rotate_left; (intro wS hSw; (try dsimp only at hSw); go_simp <;> with_reducible rfl)
 try simp only [qq]
 refine wpAnyH_take (i := 4) (oi := _) (v := ?_) rfl (by kernel_rfl) (by kernel_rfl) (by kernel_rfl) (fun _ _ _ h => h) (Or.inl ⟨by rfl, ?_⟩) (by assumption) ?_
 rotate_left; (intro wS hSw; (try dsimp only at hSw); go_simp <;> with_reducible rfl)
 try simp only [qq]
 refine wpAnyH_take (i := 5) (oi := _) (v := ?_) rfl (by kernel_rfl) (by kernel_rfl) (by kernel_rfl) (fun _ _ _ h => h) (Or.inl ⟨by rfl, ?_⟩) (by assumption) ?_
 rotate_left; (intro wS hSw; (try dsimp only at hSw); go_simp <;> with_reducible rfl)
 try simp only [qq]
 refine wpAnyH_take (i := 6) (oi := _) (v := ?_) rfl (by kernel_rfl) (by kernel_rfl) (by kernel_rfl) (fun _ _ _ h => h) (Or.inl ⟨by rfl, ?_⟩) (by assumption) ?_
 rotate_left; (intro wS hSw; (try dsimp only at hSw); go_simp <;> with_reducible rfl)
 try simp only [qq]
 refine wpAnyH_ready (rs := [7]) (by kernel_rfl) (by simp) ?_
 refine AllReadyH.cons rfl (fun K hK => ?_) AllReadyH.nil
 go_simp
 (with_reducible refine (bJ Y yn yc B rows bn bc n0 hbn hbp HN _ ?_).mono ?_); (go_split_ands; exact CB.out _ (by assumption)); rintro e wA ⟨rfl, bA⟩
 refine hK.out _ _ ?_ (fun hHeld => ?_)
 · (go_split_ands; exact hS.out _ _ (by assumption) bA)
 clear hK K
 try simp only [qq]
 refine wpAnyH_take (i := 8) (oi := _) (v := ?_) rfl (by kernel_rfl) (by kernel_rfl) (by kernel_rfl) (fun _ _ _ h => h) (Or.inl ⟨by rfl, ?_⟩) (by assumption) ?_
 rotate_left; (intro wS hSw; (try dsimp only at hSw); go_simp <;> with_reducible rfl)
 try simp only [qq]
 refine wpAnyH_take (i := 9) (oi := _) (v := ?_) rfl (by kernel_rfl) (by kernel_rfl) (by kernel_rfl) (fun _ _ _ h => h) (Or.inl ⟨by rfl, ?_⟩) (by assumption) ?_
 rotate_left; (intro wS hSw; (try dsimp only at hSw); go_simp <;> with_reducible rfl)
 try simp only [qq]
 refine wpAnyH_take (i := 10) (oi := _) (v := ?_) rfl (by kernel_rfl) (by kernel_rfl) (by kernel_rfl) (fun _ _ _ h => h) (Or.inl ⟨by rfl, ?_⟩) (by assumption) ?_
 rotate_left; (intro wS hSw; (try dsimp only at hSw); go_simp <;> with_reducible rfl)
 try simp only [qq]
 refine wpAnyH_take (i := 11) (oi := _) (v := ?_) rfl (by kernel_rfl) (by kernel_rfl) (by kernel_rfl) (fun _ _ _ h => h) (Or.inl ⟨by rfl, ?_⟩) (by assumption) ?_
 rotate_left; (intro wS hSw; (try dsimp only at hSw); go_simp <;> with_reducible rfl)
 try simp only [qq]
 refine wpAnyH_take (i := 12) (oi := _) (v := ?_) rfl (by kernel_rfl) (by kernel_rfl) (by kernel_rfl) (fun _ _ _ h => h) (Or.inl ⟨by rfl, ?_⟩) (by assumption) ?_
 rotate_left; (intro wS hSw; (try dsimp only at hSw); go_simp <;> with_reducible rfl)
 try simp only [qq]
 refine wpAnyH_ready (rs := [13]) (by kernel_rfl) (by simp) ?_
 refine AllReadyH.cons rfl (fun K hK => ?_) AllReadyH.nil
 go_simp
 (with_reducible refine (bG P Q G L ls ln lc false Hl hln (aa hlb) _ ?_).mono ?_); (go_split_ands; exact Qf.out _ (by assumption)); rintro e wA ⟨rfl, bA⟩
 refine hK.out _ _ ?_ (fun hHeld => ?_)
 · (go_split_ands; exact hS.out _ _ (by assumption) bA)
 clear hK K
 try simp only [qq]
 refine wpAnyH_take (i := 14) (oi := _) (v := ?_) rfl (by kernel_rfl) (by kernel_rfl) (by kernel_rfl) (fun _ _ _ h => h) (Or.inl ⟨by rfl, ?_⟩) (by assumption) ?_
 rotate_left; (intro wS hSw; (try dsimp only at hSw); go_simp <;> with_reducible rfl)
 try simp only [qq]
 refine wpAnyH_take (i := 15) (oi := _) (v := ?_) rfl (by kernel_rfl) (by kernel_rfl) (by kernel_rfl) (fun _ _ _ h => h) (Or.inl ⟨by rfl, ?_⟩) (by assumption) ?_
 rotate_left; (intro wS hSw; (try dsimp only at hSw); go_simp <;> with_reducible rfl)
 try simp only [qq]
 refine wpAnyH_take (i := 16) (oi := _) (v := undef) rfl (by kernel_rfl) (by kernel_rfl) (by kernel_rfl) (fun _ _ _ h => h) (Or.inr ⟨by rfl, rfl⟩) (by assumption) ?_
 try simp only [qq]
 refine wpAnyH_take (i := 17) (oi := _) (v := undef) rfl (by kernel_rfl) (by kernel_rfl) (by kernel_rfl) (fun _ _ _ h => h) (Or.inr ⟨by rfl, rfl⟩) (by assumption) ?_
 try simp only [qq]
 refine wpAnyH_take (i := 18) (oi := _) (v := undef) rfl (by kernel_rfl) (by kernel_rfl) (by kernel_rfl) (fun _ _ _ h => h) (Or.inr ⟨by rfl, rfl⟩) (by assumption) ?_
 try simp only [qq]
 refine wpAnyH_take (i := 19) (oi := _) (v := undef) rfl (by kernel_rfl) (by kernel_rfl) (by kernel_rfl) (fun _ _ _ h => h) (Or.inr ⟨by rfl, rfl⟩) (by assumption) ?_
 try simp only [qq]
 refine wpAnyH_take (i := 20) (oi := _) (v := undef) rfl (by kernel_rfl) (by kernel_rfl) (by kernel_rfl) (fun _ _ _ h => h) (Or.inr ⟨by rfl, rfl⟩) (by assumption) ?_
 try simp only [qq]
 refine wpAnyH_take (i := 21) (oi := _) (v := undef) rfl (by kernel_rfl) (by kernel_rfl) (by kernel_rfl) (fun _ _ _ h => h) (Or.inr ⟨by rfl, rfl⟩) (by assumption) ?_
 try simp only [qq]
 refine wpAnyH_take (i := 22) (oi := _) (v := undef) rfl (by kernel_rfl) (by kernel_rfl) (by kernel_rfl) (fun _ _ _ h => h) (Or.inr ⟨by rfl, rfl⟩) (by assumption) ?_
 try simp only [qq]
 refine wpAnyH_take (i := 23) (oi := _) (v := undef) rfl (by kernel_rfl) (by kernel_rfl) (by kernel_rfl) (fun _ _ _ h => h) (Or.inr ⟨by rfl, rfl⟩) (by assumption) ?_
 try simp only [qq]
 refine wpAnyH_take (i := 24) (oi := _) (v := ?_) rfl (by kernel_rfl) (by kernel_rfl) (by kernel_rfl) (fun _ _ _ h => h) (Or.inl ⟨by rfl, ?_⟩) (by assumption) ?_
 rotate_left; (intro wS hSw; (try dsimp only at hSw); go_simp <;> with_reducible rfl)
 try simp only [qq]
 refine wpAnyH_take (i := 25) (oi := _) (v := ?_) rfl (by kernel_rfl) (by kernel_rfl) (by kernel_rfl) (fun _ _ _ h => h) (Or.inl ⟨by rfl, ?_⟩) (by assumption) ?_
 rotate_left; (intro wS hSw; (try dsimp only at hSw); go_simp <;> with_reducible rfl)
 try simp only [qq]
 refine wpAnyH_done (by kernel_rfl) ?_ _
 obtain ⟨x0, x1, x2, x3, x4, nH⟩ := hHeld
 have dw := af av.out nH.out
 go_wp2
 go_ret
 exact ⟨rfl, dw⟩
theorem IJ (P Q G : Int) (Y : Option Addr) (ys : List Int) (yn yc : Nat) (B : Option Addr) (rows : List Row) (bn bc : Nat) (L : Option Addr) (ls : List Int) (ln lc : Nat) (hyn : Hid (ys.length = yn)) (hbn : Hid (rows.length = bn)) (hln : Hid (ls.length = ln)) (hlb : ln < 1000000) (cB : Hid (aP P Q G ys rows = true)) (hlen : ls.length = aU rows) (Hl : Hid (ls.all (cu Q) = true)) (hQ : Q < 9223372036854775808) (w : World) (hv : Hid (Vars w)) (hY : Hid (Sl w Y ys)) (hB : Hid (Rw w B rows)) (hL : Hid (Sl w L ls)) :
  Calls Tryz.prog 62 #[gv P Q G, dm Y yn yc B bn bc, .slice L ln lc] w (Rt w (.bool ((rows.map fun r => aO P 1 r.xs ls) == ys))) := by
 obtain ⟨W, hW⟩ : ∃ W, (w.alloc (aN P Q G)).alloc (dW Y yn yc B bn bc) = W := ⟨_, rfl⟩
 have av : Hid (Below w.heap.size w W) := aa (by rw [← hW]; exact aB (Below.refl _ _))
 have HX0 : Hid (eO W w.heap.size P Q G) := aa (by rw [← hW]; exact (az w P Q G).below (ai _ _))
 have dY : Hid (iQ W (w.heap.size + 1) (.slice Y yn yc) (.slice B bn bc)) := aa (by rw [← hW]; exact aV _ _ _ _ _)
 have Jg := aa (show ∀ u1 : World, Hid (Below W.heap.size W u1) → Hid (Sl u1 Y ys) from fun u1 h1 => aa (hY.out.below (af av.out h1.out)))
 have CB := aa (show ∀ u1 : World, Hid (Below W.heap.size W u1) → Hid (Rw u1 B rows) from fun u1 h1 => aa (hB.out.below (af av.out h1.out)))
 have Qf := aa (show ∀ u1 : World, Hid (Below W.heap.size W u1) → Hid (Sl u1 L ls) from fun u1 h1 => aa (hL.out.below (af av.out h1.out)))
 have Mm := aa (show ∀ u1 : World, Hid (Below W.heap.size W u1) → Hid (Vars u1) from fun u1 h1 => aa (hv.out.below (af av.out h1.out)))
 have hS := aa (show ∀ u1 u2 : World, Hid (Below W.heap.size W u1) → Below u1.heap.size u1 u2 → (u2.cell? ⟨w.heap.size, 0, none⟩ = some (.int .i64 P) ∧ u2.cell? ⟨w.heap.size, 1, none⟩ = some (.int .i64 Q) ∧ u2.cell? ⟨w.heap.size, 2, none⟩ = some (.int .i64 G) ∧ u2.cell? ⟨w.heap.size + 1, 0, none⟩ = some (.slice Y yn yc) ∧ u2.cell? ⟨w.heap.size + 1, 1, none⟩ = some (.slice B bn bc) ∧ Hid (Below W.heap.size W u2)) from fun u1 u2 h1 h2 => have h3 := af h1.out h2; ⟨(HX0.out.below h3).1, (HX0.out.below h3).2.1, (HX0.out.below h3).2.2, (dY.out.below h3).1, (dY.out.below h3).2, aa h3⟩)
 have hR : Hid (Below W.heap.size W W) := aa (Below.refl _ _)
 have HW := aa hW
 clear hW hY hB hL
 obtain ⟨v1, v2, v3, v4, v5, v6, v7, v8⟩ := ak cB.out
 have hbp : 0 < bn := by rw [← hbn.out]; omega
 obtain ⟨n0, hn0⟩ : ∃ n, aU rows = n := ⟨_, rfl⟩
 have HN := aa hn0
 have heq : ((ln : Int) == (n0 : Int)) = true := by rw [← hln.out, ← hn0]; simp; omega
 obtain ⟨hp2, hp, hq3, wK⟩ := aM v1
 rw [← hlen, hln.out] at v8
 have vT := aa v8
 have hby : bn = yn := by rw [← hbn.out, ← hyn.out]; exact v4
 have TH : bn ≤ 8 := by rw [← hbn.out]; omega
 subst hby
 have hzl : (rows.map fun r => aO P 1 r.xs ls).length = bn := by rw [List.length_map]; exact hbn.out
 clear v1 v2 v3 v4 v5 v6 v7 v8 hn0 hlen
 go_in
 go_wp2_with fail
 rw [HW.out]
 go_region_held3 (fun w' => w'.cell? ⟨w.heap.size, 0, none⟩ = some (.int .i64 P) ∧ w'.cell? ⟨w.heap.size, 1, none⟩ = some (.int .i64 Q) ∧ w'.cell? ⟨w.heap.size, 2, none⟩ = some (.int .i64 G) ∧ w'.cell? ⟨w.heap.size + 1, 0, none⟩ = some (.slice Y bn yc) ∧ w'.cell? ⟨w.heap.size + 1, 1, none⟩ = some (.slice B bn bc) ∧ Hid (Below W.heap.size W w'))
  (first | exact hS.out _ _ hR ((Below.refl W.heap.size W).drew) | (go_split_ands; exact hS.out _ _ (by assumption) bA) | go_keep)
  ((first
   | (go_at_call 48; (with_reducible refine (bH P Q G Y ys bn yc B rows bn bc true cB hyn hbn hQ _ ?_ ?_ ?_).mono ?_); (go_split_ands; exact Mm.out _ (by assumption)); (go_split_ands; exact Jg.out _ (by assumption)); (go_split_ands; exact CB.out _ (by assumption)); rintro e wA ⟨rfl, bA⟩)
   | (go_at_call 96; (with_reducible refine (bJ Y bn yc B rows bn bc n0 hbn hbp HN _ ?_).mono ?_); (go_split_ands; exact CB.out _ (by assumption)); rintro e wA ⟨rfl, bA⟩)
   | (go_at_call 97; (with_reducible refine (bG P Q G L ls ln lc true Hl hln (aa hlb) _ ?_).mono ?_); (go_split_ands; exact Qf.out _ (by assumption)); rintro e wA ⟨rfl, bA⟩)
   | (go_at_call 100; (with_reducible refine (iF P Q G B rows bn bc L ls ln lc hbn hln hlb (by omega) vT Hl hp2 hp hQ _ ?_ ?_).mono ?_); (go_split_ands; exact CB.out _ (by assumption)); (go_split_ands; exact Qf.out _ (by assumption)); (intro e wA hA; obtain ⟨g, cap, rfl, hcA, bA⟩ := hA.cells hzl hbp))
   | (go_at_call 21; (with_reducible refine (JD g bn cap (rows.map fun r => aO P 1 r.xs ls) Y ys bn yc hzl hyn hbp (by omega) (by omega) _ hcA ?_).mono ?_); (go_split_ands; exact Jg.out _ (by assumption)); rintro e wA ⟨rfl, bA⟩)))
 rename_i hHeld
 obtain ⟨x0, x1, x2, x3, x4, nH⟩ := hHeld
 have dw := af av.out nH.out
 go_wp2
 go_ret
 exact ⟨rfl, dw⟩
theorem Ch (P Q G : Int) (Y : Option Addr) (ys : List Int) (yn yc : Nat) (B : Option Addr) (rows : List Row) (bn bc : Nat) (L : Option Addr) (ls : List Int) (ln lc : Nat) (r : Bool) (hr : Hid (lS P Q G ys rows ls = r)) (hyn : Hid (ys.length = yn)) (hbn : Hid (rows.length = bn)) (hln : Hid (ls.length = ln)) (hlb : ln < 1000000) (hQ : Q < 9223372036854775808) (w : World) (hv : Hid (Vars w)) (hY : Hid (Sl w Y ys)) (hB : Hid (Rw w B rows)) (hL : Hid (Sl w L ls)) :
  Calls Tryz.prog 62 #[gv P Q G, dm Y yn yc B bn bc, .slice L ln lc] w (Rt w (.bool r)) := by
 have hr' := hr.out
 unfold lS at hr'
 cases h1 : aP P Q G ys rows with
 | false =>
  obtain rfl : r = false := by rw [← hr', h1, Bool.false_and]
  exact IE P Q G Y ys yn yc B rows bn bc L ls ln lc hyn hbn hln hlb (aa h1) hQ w hv hY hB hL
 | true =>
  rw [h1, Bool.true_and] at hr'
  by_cases h2 : ls.length = aU rows
  ·
   rw [decide_eq_true h2, Bool.true_and] at hr'
   cases h3 : ls.all (cu Q) with
   | false =>
    obtain rfl : r = false := by rw [← hr', h3, Bool.false_and]
    exact IG P Q G Y ys yn yc B rows bn bc L ls ln lc hyn hbn hln hlb (aa h1) h2 (aa h3) hQ w hv hY hB hL
   | true =>
    rw [h3, Bool.true_and] at hr'
    rw [← hr']
    exact IJ P Q G Y ys yn yc B rows bn bc L ls ln lc hyn hbn hln hlb (aa h1) h2 (aa h3) hQ w hv hY hB hL
  ·
   obtain rfl : r = false := by rw [← hr', decide_eq_false h2, Bool.false_and]
   exact II P Q G Y ys yn yc B rows bn bc L ls ln lc hyn hbn hln hlb (aa h1) h2 hQ w hv hY hB hL
theorem dN.rowF {w : World} {B : Nat} {v : Value} {xs : List Int} (h : dN w B v xs) (hne : 0 < xs.length) : ∃ g cap, v = .slice (some ⟨g, 0, none⟩) xs.length cap ∧ B ≤ g ∧ qh w g xs.length (fun j => xs.getD j 0) := by
 obtain ⟨g, cap, hv, hg, hc⟩ := dN.cells h hne
 obtain ⟨_, h2⟩ := h
 rcases h2 with ⟨_, h0⟩ | ⟨g', cap', cur, hv', _, hh, _⟩
 · omega
 ·
  rw [hv] at hv'
  cases hv'
  exact ⟨g, cap, hv, hg, fun j hj => hc j hj, fun j => aS hh j⟩
theorem qh.below {w w' : World} {g n : Nat} {f : Nat → Int} (h : qh w g n f) (hn : 0 < n) (hb : Below w.heap.size w w') : qh w' g n f := by
 have hg : g < w.heap.size := World.block_lt_of_cell? _ _ (h.1 0 hn)
 exact ⟨fun j hj => (hb.cell (p := ⟨g, j, none⟩) hg).trans (h.1 j hj), fun j => (hb.frozen (p := ⟨g, j, none⟩) hg).trans (h.2 j)⟩
def l6 (P Q c : Int) (ys : List Int) (rows : List Row) (zs : List Int) (i : Nat) : Int := aO P 1 (rows.getD i aG).xs zs * pw (ys.getD i 0) ((Q - c) % Q) P % P
def iX (P Q c : Int) (ys : List Int) (rows : List Row) (zs : List Int) : List Int := (List.range rows.length).map (l6 P Q c ys rows zs)
theorem bC (P Q c : Int) (ys : List Int) (rows : List Row) (zs : List Int) : (iX P Q c ys rows zs).length = rows.length := by simp [iX]
theorem mF {P Q c : Int} {ys : List Int} {rows : List Row} {zs : List Int} {i : Nat} (h : i < rows.length) : (iX P Q c ys rows zs).getD i 0 = l6 P Q c ys rows zs i := by
 rw [List.getD_eq_getElem?_getD, List.getElem?_eq_getElem (by rw [bC]; exact h)]
 simp [iX]
theorem pG {f : Row → Int} {rows : List Row} {i : Nat} (h : i < rows.length) : (rows.map f).getD i 0 = f (rows.getD i aG) := by
 rw [List.getD_eq_getElem?_getD, List.getElem?_eq_getElem (by simpa using h), List.getD_eq_getElem?_getD, List.getElem?_eq_getElem h]
 simp
theorem mG {P : Int} (hp : 2 ≤ P) : ∀ (xs es : List Int) (acc : Int), 0 ≤ acc → acc < P → 0 ≤ aO P acc xs es ∧ aO P acc xs es < P
 | [], es, acc, h0, h1 => by cases es <;> exact ⟨h0, h1⟩
 | x :: xs, [], acc, h0, h1 => ⟨h0, h1⟩
 | x :: xs, e :: es, acc, h0, h1 => by
  rw [aO]
  exact mG hp xs es _ (Int.emod_nonneg _ (by omega)) (Int.emod_lt_of_pos _ (by omega))
theorem DX (P Q G : Int) (Y : Option Addr) (ys : List Int) (yc : Nat) (B : Option Addr) (rows : List Row) (n bc : Nat) (c : Int) (L : Option Addr) (zs : List Int) (ln lc : Nat) (cB : Hid (aP P Q G ys rows = true)) (hyn : Hid (ys.length = n)) (hbn : Hid (rows.length = n)) (hln : Hid (zs.length = ln)) (hlen : zs.length = aU rows)
  (Hl : Hid (zs.all (cu Q) = true)) (hc0 : 0 ≤ c) (hc1 : c < Q) (hQ : Q < 9223372036854775808) (w : World) (hY : Hid (Sl w Y ys)) (hB : Hid (Rw w B rows)) (hL : Hid (Sl w L zs)) :
  Calls Tryz.prog 55 #[gv P Q G, dm Y n yc B n bc, .int .i64 c, .slice L ln lc] w (Bo (iX P Q c ys rows zs) n w) := by
 obtain ⟨v1, v2, v3, v4, v5, v6, v7, v8⟩ := ak cB.out
 obtain ⟨hp2, hp, hq3, wK⟩ := aM v1
 rw [← hlen, hln.out] at v8
 have vT := aa v8
 have hnp : 0 < n := by rw [← hyn.out]; omega
 have UT : n ≤ 8 := by rw [← hyn.out]; omega
 have Q_ : ln ≤ 12 := by rw [← hln.out]; omega
 have R4 := aa v5
 have hzl : (rows.map fun r => aO P 1 r.xs zs).length = n := by rw [List.length_map]; exact hbn.out
 clear v1 v2 v3 v4 v5 v6 v7 v8
 obtain ⟨b1, o1, rfl, _⟩ := hY.out 0 (by rw [hyn.out]; exact hnp)
 obtain ⟨w0, hW⟩ : ∃ W, (w.alloc (aN P Q G)).alloc (dW (some ⟨b1, o1, none⟩) n yc B n bc) = W := ⟨_, rfl⟩
 have av : Hid (Below w.heap.size w w0) := aa (by rw [← hW]; exact aB (Below.refl _ _))
 have HX0 : Hid (eO w0 w.heap.size P Q G) := aa (by rw [← hW]; exact (az w P Q G).below (ai _ _))
 have dY : Hid (iQ w0 (w.heap.size + 1) (.slice (some ⟨b1, o1, none⟩) n yc) (.slice B n bc)) := aa (by rw [← hW]; exact aV _ _ _ _ _)
 have gu := aa (hY.out.below av.out)
 have oL := aa (hB.out.below av.out)
 have sU := aa (hL.out.below av.out)
 have HW := aa hW
 clear hW hY hB hL
 obtain ⟨d0, d1⟩ := dY.out
 obtain ⟨c0, c1, c2⟩ := HX0.out
 go_in
 go_wp2_with fail
 rw [HW.out]
 refine (iF P Q G B rows n bc L zs ln lc hbn hln (by omega) (by omega) vT Hl hp2 hp hQ _ oL sU).mono ?_
 rintro e W ⟨v, rfl, ho, hb0⟩
 obtain ⟨g, cap, rfl, hg, hrf⟩ := ho.rowF (by rw [hzl]; exact hnp)
 rw [hzl] at hrf
 have hvl : (Value.slice (some ⟨g, 0, none⟩) ((rows.map fun r => aO P 1 r.xs zs).length) cap) = .slice (some ⟨g, 0, none⟩) n cap := by rw [hzl]
 rw [hvl]
 have Di := aa (HX0.out.below hb0)
 have HRW := aa (dY.out.below hb0)
 have R3 := aa (gu.out.below hb0)
 have zB := aa (af av.out hb0)
 have hgw : w.heap.size + 1 < g := by have h1 : w.heap.size + 1 < w0.heap.size := World.block_lt_of_cell? _ _ dY.out.1; omega
 have hyg : b1 < g := by
  obtain ⟨bb, oo, e1, e2⟩ := gu.out 0 (by rw [hyn.out]; exact hnp)
  cases e1
  have h1 : b1 < w0.heap.size := World.block_lt_of_cell? _ _ e2
  omega
 have Qk : Hid (qh W g n (fun j => if j < 0 then l6 P Q c ys rows zs j else aO P 1 (rows.getD j aG).xs zs)) := aa ⟨fun j hj => by
  have h1 := hrf.1 j hj
  dsimp only at h1
  rw [pG (by rw [hbn.out]; exact hj)] at h1
  dsimp only
  rw [if_neg (by omega)]
  exact h1, hrf.2⟩
 have Uk := aa (Nat.le_trans av.out.size hg)
 clear ho hb0 hrf hvl hg c0 c1 c2 d0 d1
 obtain ⟨d0, d1⟩ := HRW.out
 go_wp2
 go_loopw [22] (fun i wr => ∃ k : Nat, k ≤ n ∧ i = .int .i64 k ∧ Hid (qh wr g n (fun j => if j < k then l6 P Q c ys rows zs j else aO P 1 (rows.getD j aG).xs zs)) ∧ Hid (Below g W wr)) (fun i _ => n - (intOf i).toNat)
 case atStart => exact ⟨0, by omega, rfl, Qk, aa (Below.refl _ _)⟩
 case round =>
  obtain ⟨k, hk, rfl, Km, aF⟩ := hrel
  by_cases hlt : k < n
  ·
   have hkl : k < ys.length := by rw [hyn.out]; exact hlt
   have hkr : k < rows.length := by rw [hbn.out]; exact hlt
   obtain ⟨bb, oo, e1, hi0⟩ := R3.out k hkl
   cases e1
   have hi1 := (aF.out.cell (p := ⟨b1, o1 + k, none⟩) hyg).trans hi0
   have c0 := (aF.out.cell (p := ⟨w.heap.size, 0, none⟩) (by show w.heap.size < g; omega)).trans Di.out.1
   have c1 := (aF.out.cell (p := ⟨w.heap.size, 1, none⟩) (by show w.heap.size < g; omega)).trans Di.out.2.1
   have hcell : wr.cell? ⟨g, k, none⟩ = some (.int .i64 (aO P 1 (rows.getD k aG).xs zs)) := by
    have h3 := Km.out.1 k hlt
    simp only [Nat.lt_irrefl, if_false] at h3
    exact h3
   have hfz := Km.out.2 k
   have uH := eH R4.out hkl
   obtain ⟨q0, q1⟩ := mG hp2 (rows.getD k aG).xs zs 1 (by omega) (by omega)
   have uC : l6 P Q c ys rows zs k = aO P 1 (rows.getD k aG).xs zs * pw (ys.getD k 0) ((Q - c) % Q) P % P := rfl
   obtain ⟨a, ha⟩ : ∃ a, aO P 1 (rows.getD k aG).xs zs = a := ⟨_, rfl⟩
   obtain ⟨y, hy⟩ : ∃ x, ys.getD k 0 = x := ⟨_, rfl⟩
   rw [ha] at hcell q0 q1 uC
   rw [hy] at hi1 uH uC
   have y0 := d_ uH
   have y1 := ek uH
   obtain ⟨ex, hex⟩ : ∃ e, (Q - c) % Q = e := ⟨_, rfl⟩
   have VB : 0 ≤ ex := by rw [← hex]; exact Int.emod_nonneg _ (by omega)
   have ZZ : ex < Q := by rw [← hex]; exact Int.emod_lt_of_pos _ (by omega)
   rw [hex] at uC
   obtain ⟨p, hpw⟩ : ∃ p, pw y ex P = p := ⟨_, rfl⟩
   obtain ⟨p0, p1⟩ : 0 ≤ p ∧ p < P := by rw [← hpw]; exact tX _ _ _ (by omega)
   rw [hpw] at uC
   obtain ⟨t, ht⟩ : ∃ t, a * p % P = t := ⟨_, rfl⟩
   rw [ht] at uC
   have HN : ∀ q, Hid (qh ((wr.drewN q).setCell ⟨g, k, none⟩ (.int .i64 t)) g n (fun j => if j < k + 1 then l6 P Q c ys rows zs j else aO P 1 (rows.getD j aG).xs zs)) := fun q => by
    have h3 := zO (qh.below Km.out hnp (ay (Below.refl _ _) q)) hlt t
    have e : (fun j => if j = k then t else if j < k then l6 P Q c ys rows zs j else aO P 1 (rows.getD j aG).xs zs) = (fun j => if j < k + 1 then l6 P Q c ys rows zs j else aO P 1 (rows.getD j aG).xs zs) := by
     funext j
     by_cases hj : j = k
     · subst hj; rw [if_pos rfl, if_pos (by omega), uC]
     ·
      rw [if_neg hj]
      by_cases hj2 : j < k
      · rw [if_pos hj2, if_pos (by omega)]
      · rw [if_neg hj2, if_neg (by omega)]
    rw [e] at h3
    exact aa h3
   have V_ := aa HN
   have HB2 := aa (show ∀ q, Hid (Below g W ((wr.drewN q).setCell ⟨g, k, none⟩ (.int .i64 t))) from fun q => aa ((ay aF.out q).setCell (Nat.le_refl _) _))
   have hdf : IntKind.i64.wrap (Q - c) = Q - c := IntWalk.i64_in _ (by omega)
   have D5 : (Q - c).tmod Q = ex := by rw [Int.tmod_eq_emod_of_nonneg (by omega), hex]
   have hwx : IntKind.i64.wrap ex = ex := IntWalk.i64_in _ (by omega)
   have hQn : ¬ (Q = 0) := by omega
   have lX := aa hpw
   have qx := aa ht
   have MV := aa uC
   clear hkl hkr hi0 uH uC ha hy hex hpw ht HN
   go_wp2
   go_quiet ((go_at_call 79; exact Calls.quiet_of (pow_eq y ex P p lX (by omega) hp (by omega) y1 VB (by omega) _)))
   go_wp2_with fail
   go_region_with ((go_at_call 84; refine (sI a p P t qx hp q0 q1 p0 p1 _).mono ?_; rintro e w' ⟨rfl, n3, rfl⟩))
   all_goals
    go_wp2
    go_roundw
    case rel => exact ⟨k + 1, by omega, by go_num, V_.out _, HB2.out _⟩
    case measure => simp [intOf]; omega
  ·
   obtain rfl : k = n := by omega
   have HF : Hid (Cells wr g (iX P Q c ys rows zs)) := aa (fun j hj => by
    rw [bC, hbn.out] at hj
    rw [mF (by rw [hbn.out]; exact hj), Km.out.1 j hj]
    dsimp only
    rw [if_pos hj])
   have dw : Below w.heap.size w wr := zB.out.trans (aF.out.mono Uk.out)
   clear Km hlt
   go_wp2
   go_ret
   exact ⟨g, cap, rfl, HF, dw⟩
abbrev jR (pa : Option Addr) (na ca : Nat) (C : Int) (pz : Option Addr) (nz cz : Nat) : Value := .agg #[.slice pa na ca, .int .i64 C, .slice pz nz cz]
abbrev gD (pa : Option Addr) (na ca : Nat) (C : Int) (pz : Option Addr) (nz cz : Nat) : Obj := .cells #[.slice pa na ca, .int .i64 C, .slice pz nz cz] 36
def xC (w : World) (a : Nat) (x y z : Value) : Prop := w.cell? ⟨a, 0, none⟩ = some x ∧ w.cell? ⟨a, 1, none⟩ = some y ∧ w.cell? ⟨a, 2, none⟩ = some z
theorem xC.below {w w' : World} {a : Nat} {x y z : Value} (h : xC w a x y z) (hb : Below w.heap.size w w') : xC w' a x y z :=
 ⟨cell_below h.1 hb, cell_below h.2.1 hb, cell_below h.2.2 hb⟩
theorem xW (w : World) (T : TypeId) (x y z : Value) : xC (w.alloc (.cells #[x, y, z] T)) w.heap.size x y z := ⟨World.cell?_alloc_at _ _ _ _ rfl, World.cell?_alloc_at _ _ _ _ rfl, World.cell?_alloc_at _ _ _ _ rfl⟩
theorem O8 (w : World) (o1 o2 : Obj) (T : TypeId) (x y z : Value) : xC (((w.alloc o1).alloc o2).alloc (.cells #[x, y, z] T)) (w.heap.size + 2) x y z := by
 have e : ((w.alloc o1).alloc o2).heap.size = w.heap.size + 2 := by simp
 rw [← e]
 exact xW _ _ _ _ _
theorem yS {w : World} {o1 o2 o3 : Obj} : Below w.heap.size w (((w.alloc o1).alloc o2).alloc o3) :=
 (((Below.refl _ _).alloc (Nat.le_refl _) _).alloc (by simp) _).alloc (by simp; omega) _
theorem Cm (P Q G : Int) (Y : Option Addr) (ys : List Int) (n yc : Nat) (B : Option Addr) (rows : List Row) (bc : Nat) (A : Option Addr) (al : List Int) (ca : Nat) (C : Int) (Z : Option Addr) (zs : List Int) (nz cz : Nat)
  (cB : Hid (aP P Q G ys rows = true)) (hyn : Hid (ys.length = n)) (hbn : Hid (rows.length = n)) (iV : Hid (al.length = n)) (hzn : Hid (zs.length = nz)) (hlen : zs.length = aU rows) (Hl : Hid (zs.all (cu Q) = true)) (hc0 : 0 ≤ C) (hc1 : C < Q) (r : Bool) (hr : Hid ((iX P Q C ys rows zs == al) = r))
  (hQ : Q < 9223372036854775808) (w : World) (hv : Hid (Vars w)) (hY : Hid (Sl w Y ys)) (hB : Hid (Rw w B rows)) (hA : Hid (Sl w A al)) (hZ : Hid (Sl w Z zs)) :
  Calls Tryz.prog 50 #[gv P Q G, dm Y n yc B n bc, jR A n ca C Z nz cz] w (Rt w (.bool r)) := by
 obtain ⟨v1, v2, v3, v4, v5, v6, v7, v8⟩ := ak cB.out
 have hnp : 0 < n := by rw [← hyn.out]; omega
 have UT : n ≤ 8 := by rw [← hyn.out]; omega
 have Zb : nz ≤ 12 := by rw [← hzn.out]; omega
 have HN : Hid (aU rows = nz) := aa (hlen.symm.trans hzn.out)
 have hnn : ((n : Int) != (n : Int)) = false := by simp
 have hzz : ((nz : Int) != (nz : Int)) = false := by simp
 have MW := aa (DD hc0 hc1)
 have hsl : (iX P Q C ys rows zs).length = n := by rw [bC]; exact hbn.out
 clear v1 v2 v3 v4 v5 v6 v7 v8
 obtain ⟨W, hW⟩ : ∃ W, ((w.alloc (aN P Q G)).alloc (dW Y n yc B n bc)).alloc (gD A n ca C Z nz cz) = W := ⟨_, rfl⟩
 have av : Hid (Below w.heap.size w W) := aa (by rw [← hW]; exact yS)
 have HX0 : Hid (eO W w.heap.size P Q G) := aa (by rw [← hW]; exact ((az w P Q G).below (ai _ _)).below (ai _ _))
 have dY : Hid (iQ W (w.heap.size + 1) (.slice Y n yc) (.slice B n bc)) := aa (by rw [← hW]; exact (aV _ _ _ _ _).below (ai _ _))
 have nE : Hid (xC W (w.heap.size + 2) (.slice A n ca) (.int .i64 C) (.slice Z nz cz)) := aa (by rw [← hW]; exact O8 w _ _ _ _ _ _)
 have Mm := aa (show ∀ u1 : World, Hid (Below W.heap.size W u1) → Hid (Vars u1) from fun u1 h1 => aa (hv.out.below (af av.out h1.out)))
 have Jg := aa (show ∀ u1 : World, Hid (Below W.heap.size W u1) → Hid (Sl u1 Y ys) from fun u1 h1 => aa (hY.out.below (af av.out h1.out)))
 have CB := aa (show ∀ u1 : World, Hid (Below W.heap.size W u1) → Hid (Rw u1 B rows) from fun u1 h1 => aa (hB.out.below (af av.out h1.out)))
 have ZL := aa (show ∀ u1 : World, Hid (Below W.heap.size W u1) → Hid (Sl u1 A al) from fun u1 h1 => aa (hA.out.below (af av.out h1.out)))
 have XI := aa (show ∀ u1 : World, Hid (Below W.heap.size W u1) → Hid (Sl u1 Z zs) from fun u1 h1 => aa (hZ.out.below (af av.out h1.out)))
 have hS := aa (show ∀ u1 u2 : World, Hid (Below W.heap.size W u1) → Below u1.heap.size u1 u2 → (u2.cell? ⟨w.heap.size, 0, none⟩ = some (.int .i64 P) ∧ u2.cell? ⟨w.heap.size, 1, none⟩ = some (.int .i64 Q) ∧ u2.cell? ⟨w.heap.size, 2, none⟩ = some (.int .i64 G) ∧ u2.cell? ⟨w.heap.size + 1, 0, none⟩ = some (.slice Y n yc) ∧ u2.cell? ⟨w.heap.size + 1, 1, none⟩ = some (.slice B n bc) ∧ u2.cell? ⟨w.heap.size + 2, 0, none⟩ = some (.slice A n ca) ∧ u2.cell? ⟨w.heap.size + 2, 1, none⟩ = some (.int .i64 C) ∧ u2.cell? ⟨w.heap.size + 2, 2, none⟩ = some (.slice Z nz cz) ∧ Hid (Below W.heap.size W u2)) from fun u1 u2 h1 h2 => have h3 := af h1.out h2; ⟨(HX0.out.below h3).1, (HX0.out.below h3).2.1, (HX0.out.below h3).2.2, (dY.out.below h3).1, (dY.out.below h3).2, (nE.out.below h3).1, (nE.out.below h3).2.1, (nE.out.below h3).2.2, aa h3⟩)
 have hR : Hid (Below W.heap.size W W) := aa (Below.refl _ _)
 have HW := aa hW
 clear hW hv hY hB hA hZ
 go_in
 go_wp2_with fail
 rw [HW.out]
 go_region_held3 (fun w' => w'.cell? ⟨w.heap.size, 0, none⟩ = some (.int .i64 P) ∧ w'.cell? ⟨w.heap.size, 1, none⟩ = some (.int .i64 Q) ∧ w'.cell? ⟨w.heap.size, 2, none⟩ = some (.int .i64 G) ∧ w'.cell? ⟨w.heap.size + 1, 0, none⟩ = some (.slice Y n yc) ∧ w'.cell? ⟨w.heap.size + 1, 1, none⟩ = some (.slice B n bc) ∧ w'.cell? ⟨w.heap.size + 2, 0, none⟩ = some (.slice A n ca) ∧ w'.cell? ⟨w.heap.size + 2, 1, none⟩ = some (.int .i64 C) ∧ w'.cell? ⟨w.heap.size + 2, 2, none⟩ = some (.slice Z nz cz) ∧ Hid (Below W.heap.size W w'))
  (first | exact hS.out _ _ hR ((Below.refl W.heap.size W).drew) | (go_split_ands; exact hS.out _ _ (by assumption) bA) | (go_split_ands; exact hS.out _ _ (by assumption) (ai _ _)) | go_keep)
  ((first
   | (go_at_call 48; (with_reducible refine (bH P Q G Y ys n yc B rows n bc true cB hyn hbn hQ _ ?_ ?_ ?_).mono ?_); (go_split_ands; exact Mm.out _ (by assumption)); (go_split_ands; exact Jg.out _ (by assumption)); (go_split_ands; exact CB.out _ (by assumption)); rintro e wA ⟨rfl, bA⟩)
   | (go_at_call 96; (with_reducible refine (bJ Y n yc B rows n bc nz hbn hnp HN _ ?_).mono ?_); (go_split_ands; exact CB.out _ (by assumption)); rintro e wA ⟨rfl, bA⟩)
   | (go_at_call 97; (with_reducible refine (bG P Q G Z zs nz cz true Hl hzn (aa (by omega)) _ ?_).mono ?_); (go_split_ands; exact XI.out _ (by assumption)); rintro e wA ⟨rfl, bA⟩)
   | (go_at_call 97; (with_reducible refine (bG P Q G (some ⟨wA.heap.size, 0, none⟩) [C] 1 1 true MW (aa rfl) (aa (by omega)) _ ?_).mono ?_); exact aa (dL (jI wA _ C)); rintro e wA ⟨rfl, bA⟩)))
 rename_i hHeld
 obtain ⟨x0, x1, x2, x3, x4, x5, x6, x7, nH⟩ := hHeld
 clear x0 x1 x2 x3 x4 x5 x6 x7
 obtain ⟨W2, hW2⟩ : ∃ x, x = wA := ⟨_, rfl⟩
 go_wp2
 go_region_held3 (fun w' => w'.cell? ⟨w.heap.size, 0, none⟩ = some (.int .i64 P) ∧ w'.cell? ⟨w.heap.size, 1, none⟩ = some (.int .i64 Q) ∧ w'.cell? ⟨w.heap.size, 2, none⟩ = some (.int .i64 G) ∧ w'.cell? ⟨w.heap.size + 1, 0, none⟩ = some (.slice Y n yc) ∧ w'.cell? ⟨w.heap.size + 1, 1, none⟩ = some (.slice B n bc) ∧ w'.cell? ⟨w.heap.size + 2, 0, none⟩ = some (.slice A n ca) ∧ w'.cell? ⟨w.heap.size + 2, 1, none⟩ = some (.int .i64 C) ∧ w'.cell? ⟨w.heap.size + 2, 2, none⟩ = some (.slice Z nz cz) ∧ Hid (Below W.heap.size W w'))
  (first | exact hS.out _ _ nH ((Below.refl _ _).drew) | (go_split_ands; exact hS.out _ _ (by assumption) bA) | go_keep)
  ((first
   | (go_at_call 55; (with_reducible refine (DX P Q G Y ys yc B rows n bc C Z zs nz cz cB hyn hbn hzn hlen Hl hc0 hc1 hQ _ ?_ ?_ ?_).mono ?_); (go_split_ands; exact Jg.out _ (by assumption)); (go_split_ands; exact CB.out _ (by assumption)); (go_split_ands; exact XI.out _ (by assumption)); rintro e wA ⟨g, cap, rfl, hcA, bA⟩)
   | (go_at_call 21; (with_reducible refine (JD g n cap (iX P Q C ys rows zs) A al n ca hsl iV hnp (by omega) (by omega) _ hcA ?_).mono ?_); (go_split_ands; exact ZL.out _ (by assumption)); rintro e wA ⟨rfl, bA⟩)))
 rename_i hHeld
 obtain ⟨x0, x1, x2, x3, x4, x5, x6, x7, fH⟩ := hHeld
 have dw := af av.out fH.out
 clear x0 x1 x2 x3 x4 x5 x6 x7
 go_wp2
 go_ret
 exact ⟨by first | (rw [hr.out]; done) | (rw [hr.out]; rfl) | (rw [hr.out]; simp) | (simp [hr.out]; done), dw⟩
def Kc (al : List Int) (n : Nat) (C : Int) (zl : List Int) (m : Nat) (w : World) (e : Ending) (w' : World) : Prop :=
 ∃ A c Z d, e = .returned (.tuple #[jR A n c C Z m d, .int .i64 0]) ∧ Sl w' A al ∧ Sl w' Z zl ∧ Below w.heap.size w w'
theorem rF {B a : Nat} {w w1 : World} (h : Below B w w1) (hB : B ≤ a) (x y z : Value) :
  Below B w (((w1.setCell ⟨a, 0, none⟩ x).setCell ⟨a, 1, none⟩ y).setCell ⟨a, 2, none⟩ z) := ((h.setCell hB _).setCell hB _).setCell hB _
theorem Sl.set {w : World} {A : Option Addr} {xs : List Int} {a : Nat} {j : Nat} {v : Value} (h : Sl w A xs) (hne : ∀ b o, A = some ⟨b, o, none⟩ → 0 < xs.length → b ≠ a) : Sl (w.setCell ⟨a, j, none⟩ v) A xs := fun k hk => by
 obtain ⟨b, o, e, hc⟩ := h k hk
 refine ⟨b, o, e, ?_⟩
 have := hne b o e (by omega)
 rw [World.cell?_setCell_far _ _ _ _ (fun e => this e.symm)]
 exact hc
theorem Qx (P : Int) (Q : Int) (G : Int) (Y : Option Addr) (yc : Nat) (B : Option Addr) (bn : Nat) (bc : Nat) (w : World) : ∃ w0, Hid ((((w.alloc (aN P Q G)).alloc (dW Y bn yc B bn bc)).alloc (gD none 0 0 0 none 0 0)) = w0) ∧ Hid (Below w.heap.size w w0) ∧ Hid (∀ u : World, Hid (Below w0.heap.size w0 u) → u.cell? ⟨w.heap.size, 0, none⟩ = some (.int .i64 P) ∧ u.cell? ⟨w.heap.size, 1, none⟩ = some (.int .i64 Q) ∧ u.cell? ⟨w.heap.size, 2, none⟩ = some (.int .i64 G) ∧ u.cell? ⟨w.heap.size + 1, 0, none⟩ = some (.slice Y bn yc) ∧ u.cell? ⟨w.heap.size + 1, 1, none⟩ = some (.slice B bn bc) ∧ Own u ⟨w.heap.size + 2, 0, none⟩ (.slice none 0 0) ∧ Own u ⟨w.heap.size + 2, 1, none⟩ (.int .i64 0) ∧ Own u ⟨w.heap.size + 2, 2, none⟩ (.slice none 0 0)) := by
 obtain ⟨w0, hW⟩ : ∃ W, (((w.alloc (aN P Q G)).alloc (dW Y bn yc B bn bc)).alloc (gD none 0 0 0 none 0 0)) = W := ⟨_, rfl⟩
 have av : Hid (Below w.heap.size w w0) := aa (by rw [← hW]; exact (((Below.refl _ _).alloc (Nat.le_refl _) _).alloc (by simp) _).alloc (by simp; omega) _)
 have hc : w0.cell? ⟨w.heap.size, 0, none⟩ = some (.int .i64 P) ∧ w0.cell? ⟨w.heap.size, 1, none⟩ = some (.int .i64 Q) ∧ w0.cell? ⟨w.heap.size, 2, none⟩ = some (.int .i64 G) ∧ w0.cell? ⟨w.heap.size + 1, 0, none⟩ = some (.slice Y bn yc) ∧ w0.cell? ⟨w.heap.size + 1, 1, none⟩ = some (.slice B bn bc) ∧ Own w0 ⟨w.heap.size + 2, 0, none⟩ (.slice none 0 0) ∧ Own w0 ⟨w.heap.size + 2, 1, none⟩ (.int .i64 0) ∧ Own w0 ⟨w.heap.size + 2, 2, none⟩ (.slice none 0 0) := by rw [← hW]; exact ⟨cell_below (cell_below (gP (by simp) (by rfl)) (ai _ _)) (ai _ _), cell_below (cell_below (gP (by simp) (by rfl)) (ai _ _)) (ai _ _), cell_below (cell_below (gP (by simp) (by rfl)) (ai _ _)) (ai _ _), cell_below (gP (by simp) (by rfl)) (ai _ _), cell_below (gP (by simp) (by rfl)) (ai _ _), lV (by simp) (by rfl), lV (by simp) (by rfl), lV (by simp) (by rfl)⟩
 have kC := aa (show ∀ u : World, Hid (Below w0.heap.size w0 u) → u.cell? ⟨w.heap.size, 0, none⟩ = some (.int .i64 P) ∧ u.cell? ⟨w.heap.size, 1, none⟩ = some (.int .i64 Q) ∧ u.cell? ⟨w.heap.size, 2, none⟩ = some (.int .i64 G) ∧ u.cell? ⟨w.heap.size + 1, 0, none⟩ = some (.slice Y bn yc) ∧ u.cell? ⟨w.heap.size + 1, 1, none⟩ = some (.slice B bn bc) ∧ Own u ⟨w.heap.size + 2, 0, none⟩ (.slice none 0 0) ∧ Own u ⟨w.heap.size + 2, 1, none⟩ (.int .i64 0) ∧ Own u ⟨w.heap.size + 2, 2, none⟩ (.slice none 0 0) from fun u h => ⟨cell_below hc.1 h.out, cell_below hc.2.1 h.out, cell_below hc.2.2.1 h.out, cell_below hc.2.2.2.1 h.out, cell_below hc.2.2.2.2.1 h.out, (hc.2.2.2.2.2.1).below h.out, (hc.2.2.2.2.2.2.1).below h.out, (hc.2.2.2.2.2.2.2).below h.out⟩)
 exact ⟨w0, aa hW, av, kC⟩
theorem Fv (P Q G : Int) (Y : Option Addr) (ys : List Int) (yc : Nat) (B : Option Addr) (rows : List Row) (bn bc : Nat) (c : Int) (L : Option Addr) (ls : List Int) (ln lc : Nat) (hr : Hid (p9 P Q G ys rows ls [c] = 0)) (hc0 : 0 ≤ c) (hc1 : c < Q) (hyn : Hid (ys.length = bn)) (hbn : Hid (rows.length = bn)) (hln : Hid (ls.length = ln)) (hlb : ln < 1000000) (hQ : Q < 9223372036854775808) (w : World) (hv : Hid (Vars w)) (hY : Hid (Sl w Y ys)) (hB : Hid (Rw w B rows)) (hL : Hid (Sl w L ls)) :
  Calls Tryz.prog 20 #[gv P Q G, dm Y bn yc B bn bc, .int .i64 c, .slice L ln lc] w (Kc (iX P Q c ys rows ls) bn c ls ln w) := by
 obtain ⟨k1, k2, k3, k4⟩ := yO hr.out
 have cB := aa k1
 have Hl := aa k3
 have hnp : 0 < bn := by have := (ak k1).2.1; have := hyn.out; omega
 have hsl : (iX P Q c ys rows ls).length = bn := by rw [bC]; exact hbn.out
 clear k1 k3 k4
 obtain ⟨w0, HW, av, kC⟩ := Qx P Q G Y yc B bn bc w
 have kV := aa (show ∀ u : World, Hid (Below w0.heap.size w0 u) → Hid (Vars u) from fun u h => aa ((hv.out.below) (af av.out h.out)))
 have kY := aa (show ∀ u : World, Hid (Below w0.heap.size w0 u) → Hid (Sl u Y ys) from fun u h => aa ((hY.out.below) (af av.out h.out)))
 have kB := aa (show ∀ u : World, Hid (Below w0.heap.size w0 u) → Hid (Rw u B rows) from fun u h => aa ((hB.out.below) (af av.out h.out)))
 have kL := aa (show ∀ u : World, Hid (Below w0.heap.size w0 u) → Hid (Sl u L ls) from fun u h => aa ((hL.out.below) (af av.out h.out)))
 have aA : Hid (Below w0.heap.size w0 w0) := aa (Below.refl _ _)
 clear hv hY hB hL
 go_in
 go_wp2_with fail
 rw [HW.out]
 obtain ⟨EI, EH, EG, EF, EE, ⟨xK, EB⟩, ⟨BB, EA⟩, ⟨BA, Ez⟩⟩ := kC.out _ aA
 have hq := ai w0 (.cells #[.int .i64 c] 3)
 have HO : Hid (Sl (w0.alloc (.cells #[.int .i64 c] 3)) (some ⟨w.heap.size + 1 + 1 + 1, 0, none⟩) [c]) := aa (by
  have e : w.heap.size + 1 + 1 + 1 = w0.heap.size := by rw [← HW.out]; simp
  rw [e]
  exact dL (jI w0 3 c))
 have Kz := aa (af aA.out hq)
 clear hq
 go_wp2_with fail
 refine (og P Q G Y ys bn yc B rows bn bc L ls ln lc (some ⟨w.heap.size + 1 + 1 + 1, 0, none⟩) [c] 1 1 0 hr hyn hbn hln hlb (aa rfl) (by omega) hQ _ (kV.out _ Kz) (kY.out _ Kz) (kB.out _ Kz) (kL.out _ Kz) HO).mono ?_
 rintro e w1 ⟨rfl, hb0⟩
 have bF := aa (af Kz.out hb0)
 clear EI EH EG EF EE xK EB BB EA BA Ez
 clear hb0
 obtain ⟨EI, EH, EG, EF, EE, ⟨xK, EB⟩, ⟨BB, EA⟩, ⟨BA, Ez⟩⟩ := kC.out _ bF
 go_wp2_with fail
 refine (DX P Q G Y ys yc B rows bn bc c L ls ln lc cB hyn hbn hln k2 Hl hc0 hc1 hQ _ (kY.out _ bF) (kB.out _ bF) (kL.out _ bF)).mono ?_
 rintro e w2 ⟨g, cap, rfl, hcA, hb0⟩
 have fD := aa (af bF.out hb0)
 clear EI EH EG EF EE xK EB BB EA BA Ez
 clear hb0
 have zk : Hid (Below w2.heap.size w2 w2) := aa (Below.refl _ _)
 obtain ⟨EI, EH, EG, EF, EE, ⟨xK, EB⟩, ⟨BB, EA⟩, ⟨BA, Ez⟩⟩ := kC.out _ fD
 have kA := aa (show ∀ u : World, Hid (Below w2.heap.size w2 u) → Hid (Sl u (some ⟨g, 0, none⟩) (iX P Q c ys rows ls)) from fun u h => aa ((Cells.toSl hcA).out.below h.out))
 have hga : g ≠ w.heap.size + 2 := fun e => by
  have h1 := hcA.out 0 (by rw [hsl]; exact hnp)
  rw [e, xK] at h1
  cases h1
 have Q9 : w.heap.size + 2 < w2.heap.size := World.block_lt_of_cell? _ _ xK
 go_wp2_with fail
 refine (uT L ls ln lc hln hlb _ (kL.out _ fD)).mono ?_
 rintro e w3 ⟨B2, c2, rfl, hz, hgz, hb0⟩
 have fC := aa (af fD.out hb0)
 have zi := aa (af zk.out hb0)
 clear EI EH EG EF EE xK EB BB EA BA Ez
 clear hb0
 obtain ⟨EI, EH, EG, EF, EE, ⟨xK, EB⟩, ⟨BB, EA⟩, ⟨BA, Ez⟩⟩ := kC.out _ fC
 have dw := af av.out fC.out
 have HA := (kA.out _ zi)
 have HZ := aa hz
 clear hz
 have Cs : ∀ b o, B2 = some ⟨b, o, none⟩ → 0 < ls.length → b ≠ w.heap.size + 2 := fun b o e hp => by
  obtain ⟨g3, e3, h3⟩ := hgz hp
  rw [e] at e3
  cases e3
  omega
 clear hgz
 go_wp2
 refine bodyPost_ret (v := .tuple #[jR (some ⟨g, 0, none⟩) bn cap c B2 ln c2, .int .i64 0]) (by simp [results, Tryz.results20, go_sem, xK, BB, BA]) rfl ⟨_, _, _, _, rfl, ?_, ?_, rF dw (by omega) _ _ _⟩
 · exact ((HA.out.set (fun b o e _ => by cases e; exact hga)).set (fun b o e _ => by cases e; exact hga)).set (fun b o e _ => by cases e; exact hga)
 · exact ((HZ.out.set Cs).set Cs).set Cs
theorem FC (P Q G : Int) (Y : Option Addr) (ys : List Int) (n yc : Nat) (B : Option Addr) (rows : List Row) (bc : Nat) (A : Option Addr) (al : List Int) (na ca : Nat) (C : Int) (Z : Option Addr) (zs : List Int) (nz cz : Nat) (cB : Hid (aP P Q G ys rows = true)) (hyn : Hid (ys.length = n)) (hbn : Hid (rows.length = n)) (iV : Hid (al.length = na)) (hzn : Hid (zs.length = nz)) (hna : na < 1000000) (hnz : nz < 1000000) (hQ : Q < 9223372036854775808) (hne : na ≠ n) (w : World) (hv : Hid (Vars w)) (hY : Hid (Sl w Y ys)) (hB : Hid (Rw w B rows)) (hA : Hid (Sl w A al)) (hZ : Hid (Sl w Z zs)) :
  Calls Tryz.prog 50 #[gv P Q G, dm Y n yc B n bc, jR A na ca C Z nz cz] w (Rt w (.bool false)) := by
 obtain ⟨v1, v2, v3, v4, v5, v6, v7, v8⟩ := ak cB.out
 have hnp : 0 < n := by rw [← hyn.out]; omega
 obtain ⟨nu, hnu⟩ : ∃ k, aU rows = k := ⟨_, rfl⟩
 have HN := aa hnu
 clear v1 v2 v3 v4 v5 v6 v7 v8 hnu
 have e1 : ((na : Int) != (n : Int)) = true := by simp; omega
 obtain ⟨w0, HW, av, kC⟩ := xQ (aN P Q G) vw (dW Y n yc B n bc) Gx (gD A na ca C Z nz cz) Bt w
 have kV := mkV av hv
 have kY := mkS av hY
 have kB := vH (fun u => Rw u B rows) av hB (·.below)
 have kA := mkS av hA
 have kZ := mkS av hZ
 have aA := dS w0
 clear hv hY hB hA hZ
 go_in
 go_wp2_with fail
 rw [HW.out]
 have hO := kC
 refine je [] aA (fun hHeld => ?_)
 refine aQ 0 ?_
 refine aQ 1 ?_
 refine dO 2 fun K hK => ?_
 go_simp
 (with_reducible refine (bH P Q G Y ys n yc B rows n bc true cB hyn hbn hQ _ ?_ ?_ ?_).mono ?_); (go_split_ands; exact kV.out _ (by assumption)); (go_split_ands; exact kY.out _ (by assumption)); (go_split_ands; exact kB.out _ (by assumption)); rintro e wA ⟨rfl, bA⟩
 refine hK.out _ _ (cZ hHeld bA) (fun hHeld => ?_)
 clear hK K
 try simp only [qq]
 refine aX 3 4 5 6 ?_
 refine aX 7 8 9 10 ?_
 refine aQ 11 ?_
 refine aQ 12 ?_
 refine aQ 13 ?_
 refine gz 14 15 16 17 ?_
 refine kH 18 ?_
 refine kH 19 ?_
 refine aQ 20 ?_
 refine aQ 21 ?_
 refine gz 22 23 24 25 ?_
 refine kH 26 ?_
 refine kH 27 ?_
 refine aQ 28 ?_
 refine aQ 29 ?_
 refine gz 30 31 32 33 ?_
 refine kH 34 ?_
 refine aQ 35 ?_
 refine jf ?_
 have fH := hHeld
 have dw := af av.out fH.out
 go_wp2
 go_ret
 exact ⟨rfl, dw⟩
theorem FB (P Q G : Int) (Y : Option Addr) (ys : List Int) (n yc : Nat) (B : Option Addr) (rows : List Row) (bc : Nat) (A : Option Addr) (al : List Int) (na ca : Nat) (C : Int) (Z : Option Addr) (zs : List Int) (nz cz : Nat) (cB : Hid (aP P Q G ys rows = true)) (hyn : Hid (ys.length = n)) (hbn : Hid (rows.length = n)) (iV : Hid (al.length = na)) (hzn : Hid (zs.length = nz)) (hna : na < 1000000) (hnz : nz < 1000000) (hQ : Q < 9223372036854775808) (heq : na = n) (hne : nz ≠ aU rows) (w : World) (hv : Hid (Vars w)) (hY : Hid (Sl w Y ys)) (hB : Hid (Rw w B rows)) (hA : Hid (Sl w A al)) (hZ : Hid (Sl w Z zs)) :
  Calls Tryz.prog 50 #[gv P Q G, dm Y n yc B n bc, jR A na ca C Z nz cz] w (Rt w (.bool false)) := by
 obtain ⟨v1, v2, v3, v4, v5, v6, v7, v8⟩ := ak cB.out
 have hnp : 0 < n := by rw [← hyn.out]; omega
 obtain ⟨nu, hnu⟩ : ∃ k, aU rows = k := ⟨_, rfl⟩
 have HN := aa hnu
 clear v1 v2 v3 v4 v5 v6 v7 v8 hnu
 have e1 : ((na : Int) != (n : Int)) = false := by simp; omega
 have e2 : ((nz : Int) != (nu : Int)) = true := by have := HN.out; simp; omega
 clear heq hne
 obtain ⟨w0, HW, av, kC⟩ := xQ (aN P Q G) vw (dW Y n yc B n bc) Gx (gD A na ca C Z nz cz) Bt w
 have kV := mkV av hv
 have kY := mkS av hY
 have kB := vH (fun u => Rw u B rows) av hB (·.below)
 have kA := mkS av hA
 have kZ := mkS av hZ
 have aA := dS w0
 clear hv hY hB hA hZ
 go_in
 go_wp2_with fail
 rw [HW.out]
 have hO := kC
 refine je [] aA (fun hHeld => ?_)
 refine aQ 0 ?_
 refine aQ 1 ?_
 refine dO 2 fun K hK => ?_
 go_simp
 (with_reducible refine (bH P Q G Y ys n yc B rows n bc true cB hyn hbn hQ _ ?_ ?_ ?_).mono ?_); (go_split_ands; exact kV.out _ (by assumption)); (go_split_ands; exact kY.out _ (by assumption)); (go_split_ands; exact kB.out _ (by assumption)); rintro e wA ⟨rfl, bA⟩
 refine hK.out _ _ (cZ hHeld bA) (fun hHeld => ?_)
 clear hK K
 try simp only [qq]
 refine aX 3 4 5 6 ?_
 refine aX 7 8 9 10 ?_
 refine aX 11 12 13 14 ?_
 refine aQ 15 ?_
 refine aQ 16 ?_
 refine aQ 17 ?_
 refine dO 18 fun K hK => ?_
 go_simp
 (with_reducible refine (bJ Y n yc B rows n bc nu hbn hnp HN _ ?_).mono ?_); (go_split_ands; exact kB.out _ (by assumption)); rintro e wA ⟨rfl, bA⟩
 refine hK.out _ _ (cZ hHeld bA) (fun hHeld => ?_)
 clear hK K
 try simp only [qq]
 refine aQ 19 ?_
 refine aQ 20 ?_
 refine aQ 21 ?_
 refine gz 22 23 24 25 ?_
 refine kH 26 ?_
 refine kH 27 ?_
 refine aQ 28 ?_
 refine aQ 29 ?_
 refine gz 30 31 32 33 ?_
 refine kH 34 ?_
 refine aQ 35 ?_
 refine jf ?_
 have fH := hHeld
 have dw := af av.out fH.out
 go_wp2
 go_ret
 exact ⟨rfl, dw⟩
theorem Fz (P Q G : Int) (Y : Option Addr) (ys : List Int) (n yc : Nat) (B : Option Addr) (rows : List Row) (bc : Nat) (A : Option Addr) (al : List Int) (na ca : Nat) (C : Int) (Z : Option Addr) (zs : List Int) (nz cz : Nat) (cB : Hid (aP P Q G ys rows = true)) (hyn : Hid (ys.length = n)) (hbn : Hid (rows.length = n)) (iV : Hid (al.length = na)) (hzn : Hid (zs.length = nz)) (hna : na < 1000000) (hnz : nz < 1000000) (hQ : Q < 9223372036854775808) (heq : na = n) (heq2 : nz = aU rows) (hc : cu Q C = false) (w : World) (hv : Hid (Vars w)) (hY : Hid (Sl w Y ys)) (hB : Hid (Rw w B rows)) (hA : Hid (Sl w A al)) (hZ : Hid (Sl w Z zs)) :
  Calls Tryz.prog 50 #[gv P Q G, dm Y n yc B n bc, jR A na ca C Z nz cz] w (Rt w (.bool false)) := by
 obtain ⟨v1, v2, v3, v4, v5, v6, v7, v8⟩ := ak cB.out
 have hnp : 0 < n := by rw [← hyn.out]; omega
 obtain ⟨nu, hnu⟩ : ∃ k, aU rows = k := ⟨_, rfl⟩
 have HN := aa hnu
 clear v1 v2 v3 v4 v5 v6 v7 v8 hnu
 have e1 : ((na : Int) != (n : Int)) = false := by simp; omega
 have e2 : ((nz : Int) != (nu : Int)) = false := by have := HN.out; simp; omega
 clear heq heq2
 have MW : Hid ([C].all (cu Q) = false) := aa (by simpa using hc)
 clear hc
 obtain ⟨w0, HW, av, kC⟩ := xQ (aN P Q G) vw (dW Y n yc B n bc) Gx (gD A na ca C Z nz cz) Bt w
 have kV := mkV av hv
 have kY := mkS av hY
 have kB := vH (fun u => Rw u B rows) av hB (·.below)
 have kA := mkS av hA
 have kZ := mkS av hZ
 have aA := dS w0
 clear hv hY hB hA hZ
 go_in
 go_wp2_with fail
 rw [HW.out]
 have hO := kC
 refine je [] aA (fun hHeld => ?_)
 refine aQ 0 ?_
 refine aQ 1 ?_
 refine dO 2 fun K hK => ?_
 go_simp
 (with_reducible refine (bH P Q G Y ys n yc B rows n bc true cB hyn hbn hQ _ ?_ ?_ ?_).mono ?_); (go_split_ands; exact kV.out _ (by assumption)); (go_split_ands; exact kY.out _ (by assumption)); (go_split_ands; exact kB.out _ (by assumption)); rintro e wA ⟨rfl, bA⟩
 refine hK.out _ _ (cZ hHeld bA) (fun hHeld => ?_)
 clear hK K
 try simp only [qq]
 refine aX 3 4 5 6 ?_
 refine aX 7 8 9 10 ?_
 refine aX 11 12 13 14 ?_
 refine aQ 15 ?_
 refine aQ 16 ?_
 refine aQ 17 ?_
 refine dO 18 fun K hK => ?_
 go_simp
 (with_reducible refine (bJ Y n yc B rows n bc nu hbn hnp HN _ ?_).mono ?_); (go_split_ands; exact kB.out _ (by assumption)); rintro e wA ⟨rfl, bA⟩
 refine hK.out _ _ (cZ hHeld bA) (fun hHeld => ?_)
 clear hK K
 try simp only [qq]
 refine aX 19 20 21 22 ?_
 refine aQ 23 ?_
 refine aQ 24 ?_
 refine dO 25 fun K hK => ?_
 go_simp
 refine hK.out _ _ (cZ hHeld (ai _ _)) (fun hHeld => ?_)
 clear hK K
 try simp only [qq]
 refine dO 26 fun K hK => ?_
 go_simp
 (with_reducible refine (bG P Q G (some ⟨wA.heap.size, 0, none⟩) [C] 1 1 false MW (aa rfl) (aa (by omega)) _ (aa (dL (jI wA _ C)))).mono ?_); rintro e wB ⟨rfl, bA⟩
 refine hK.out _ _ (cZ hHeld bA) (fun hHeld => ?_)
 clear hK K
 try simp only [qq]
 refine aQ 27 ?_
 refine aQ 28 ?_
 refine aQ 29 ?_
 refine gz 30 31 32 33 ?_
 refine kH 34 ?_
 refine aQ 35 ?_
 refine jf ?_
 have fH := hHeld
 have dw := af av.out fH.out
 go_wp2
 go_ret
 exact ⟨rfl, dw⟩
theorem Fy (P Q G : Int) (Y : Option Addr) (ys : List Int) (n yc : Nat) (B : Option Addr) (rows : List Row) (bc : Nat) (A : Option Addr) (al : List Int) (na ca : Nat) (C : Int) (Z : Option Addr) (zs : List Int) (nz cz : Nat) (cB : Hid (aP P Q G ys rows = true)) (hyn : Hid (ys.length = n)) (hbn : Hid (rows.length = n)) (iV : Hid (al.length = na)) (hzn : Hid (zs.length = nz)) (hna : na < 1000000) (hnz : nz < 1000000) (hQ : Q < 9223372036854775808) (heq : na = n) (heq2 : nz = aU rows) (hc : cu Q C = true) (Hl : Hid (zs.all (cu Q) = false)) (w : World) (hv : Hid (Vars w)) (hY : Hid (Sl w Y ys)) (hB : Hid (Rw w B rows)) (hA : Hid (Sl w A al)) (hZ : Hid (Sl w Z zs)) :
  Calls Tryz.prog 50 #[gv P Q G, dm Y n yc B n bc, jR A na ca C Z nz cz] w (Rt w (.bool false)) := by
 obtain ⟨v1, v2, v3, v4, v5, v6, v7, v8⟩ := ak cB.out
 have hnp : 0 < n := by rw [← hyn.out]; omega
 obtain ⟨nu, hnu⟩ : ∃ k, aU rows = k := ⟨_, rfl⟩
 have HN := aa hnu
 clear v1 v2 v3 v4 v5 v6 v7 v8 hnu
 have e1 : ((na : Int) != (n : Int)) = false := by simp; omega
 have e2 : ((nz : Int) != (nu : Int)) = false := by have := HN.out; simp; omega
 clear heq heq2
 have MW : Hid ([C].all (cu Q) = true) := aa (by simpa using hc)
 clear hc
 obtain ⟨w0, HW, av, kC⟩ := xQ (aN P Q G) vw (dW Y n yc B n bc) Gx (gD A na ca C Z nz cz) Bt w
 have kV := mkV av hv
 have kY := mkS av hY
 have kB := vH (fun u => Rw u B rows) av hB (·.below)
 have kA := mkS av hA
 have kZ := mkS av hZ
 have aA := dS w0
 clear hv hY hB hA hZ
 go_in
 go_wp2_with fail
 rw [HW.out]
 have hO := kC
 refine je [] aA (fun hHeld => ?_)
 refine aQ 0 ?_
 refine aQ 1 ?_
 refine dO 2 fun K hK => ?_
 go_simp
 (with_reducible refine (bH P Q G Y ys n yc B rows n bc true cB hyn hbn hQ _ ?_ ?_ ?_).mono ?_); (go_split_ands; exact kV.out _ (by assumption)); (go_split_ands; exact kY.out _ (by assumption)); (go_split_ands; exact kB.out _ (by assumption)); rintro e wA ⟨rfl, bA⟩
 refine hK.out _ _ (cZ hHeld bA) (fun hHeld => ?_)
 clear hK K
 try simp only [qq]
 refine aX 3 4 5 6 ?_
 refine aX 7 8 9 10 ?_
 refine aX 11 12 13 14 ?_
 refine aQ 15 ?_
 refine aQ 16 ?_
 refine aQ 17 ?_
 refine dO 18 fun K hK => ?_
 go_simp
 (with_reducible refine (bJ Y n yc B rows n bc nu hbn hnp HN _ ?_).mono ?_); (go_split_ands; exact kB.out _ (by assumption)); rintro e wA ⟨rfl, bA⟩
 refine hK.out _ _ (cZ hHeld bA) (fun hHeld => ?_)
 clear hK K
 try simp only [qq]
 refine aX 19 20 21 22 ?_
 refine aQ 23 ?_
 refine aQ 24 ?_
 refine dO 25 fun K hK => ?_
 go_simp
 refine hK.out _ _ (cZ hHeld (ai _ _)) (fun hHeld => ?_)
 clear hK K
 try simp only [qq]
 refine dO 26 fun K hK => ?_
 go_simp
 (with_reducible refine (bG P Q G (some ⟨wA.heap.size, 0, none⟩) [C] 1 1 true MW (aa rfl) (aa (by omega)) _ (aa (dL (jI wA _ C)))).mono ?_); rintro e wB ⟨rfl, bA⟩
 refine hK.out _ _ (cZ hHeld bA) (fun hHeld => ?_)
 clear hK K
 try simp only [qq]
 refine aX 27 28 29 30 ?_
 refine aQ 31 ?_
 refine aQ 32 ?_
 refine dO 33 fun K hK => ?_
 go_simp
 (with_reducible refine (bG P Q G Z zs nz cz false Hl hzn (aa hnz) _ ?_).mono ?_); (go_split_ands; exact kZ.out _ (by assumption)); rintro e wA ⟨rfl, bA⟩
 refine hK.out _ _ (cZ hHeld bA) (fun hHeld => ?_)
 clear hK K
 try simp only [qq]
 refine aQ 34 ?_
 refine aQ 35 ?_
 refine jf ?_
 have fH := hHeld
 have dw := af av.out fH.out
 go_wp2
 go_ret
 exact ⟨rfl, dw⟩
def bN (P Q C : Int) (ys : List Int) (rows : List Row) (al zs : List Int) : Bool := decide (al.length = rows.length) && (decide (zs.length = aU rows) && (cu Q C && (zs.all (cu Q) && (iX P Q C ys rows zs == al))))
theorem gY {P Q C : Int} {ys : List Int} {rows : List Row} {al zs : List Int} (h : bN P Q C ys rows al zs = true) : al.length = rows.length ∧ zs.length = aU rows ∧ cu Q C = true ∧ zs.all (cu Q) = true ∧ iX P Q C ys rows zs = al := by
 simp only [bN, Bool.and_eq_true, decide_eq_true_eq] at h
 exact ⟨h.1, h.2.1, h.2.2.1, h.2.2.2.1, by simpa using h.2.2.2.2⟩
theorem Ab (P Q G : Int) (Y : Option Addr) (ys : List Int) (n yc : Nat) (B : Option Addr) (rows : List Row) (bc : Nat) (A : Option Addr) (al : List Int) (na ca : Nat) (C : Int) (Z : Option Addr) (zs : List Int) (nz cz : Nat) (cB : Hid (aP P Q G ys rows = true)) (hyn : Hid (ys.length = n)) (hbn : Hid (rows.length = n)) (iV : Hid (al.length = na)) (hzn : Hid (zs.length = nz)) (hna : na < 1000000) (hnz : nz < 1000000) (hQ : Q < 9223372036854775808) (r : Bool) (hr : Hid (bN P Q C ys rows al zs = r)) (w : World) (hv : Hid (Vars w)) (hY : Hid (Sl w Y ys)) (hB : Hid (Rw w B rows)) (hA : Hid (Sl w A al)) (hZ : Hid (Sl w Z zs)) :
  Calls Tryz.prog 50 #[gv P Q G, dm Y n yc B n bc, jR A na ca C Z nz cz] w (Rt w (.bool r)) := by
 by_cases h1 : na = n
 ·
  by_cases h2 : nz = aU rows
  ·
   cases h3 : cu Q C with
   | false =>
    obtain rfl : r = false := by rw [← hr.out]; unfold bN; rw [h3]; simp
    exact Fz P Q G Y ys n yc B rows bc A al na ca C Z zs nz cz cB hyn hbn iV hzn hna hnz hQ h1 h2 h3 w hv hY hB hA hZ
   | true =>
    cases h4 : zs.all (cu Q) with
    | false =>
     obtain rfl : r = false := by rw [← hr.out]; unfold bN; rw [h4]; simp
     exact Fy P Q G Y ys n yc B rows bc A al na ca C Z zs nz cz cB hyn hbn iV hzn hna hnz hQ h1 h2 h3 (aa h4) w hv hY hB hA hZ
    | true =>
     subst h1
     refine Cm P Q G Y ys na yc B rows bc A al ca C Z zs nz cz cB hyn hbn iV hzn (by rw [hzn.out]; exact h2) (aa h4) (lH h3) (qC h3) r (aa ?_) hQ w hv hY hB hA hZ
     rw [← hr.out]
     unfold bN
     have e1 : al.length = rows.length := iV.out.trans hbn.out.symm
     have e2 : zs.length = aU rows := hzn.out.trans h2
     rw [decide_eq_true e1, decide_eq_true e2, h3, h4]
     rfl
  ·
   obtain rfl : r = false := by
    rw [← hr.out]; unfold bN
    rw [decide_eq_false (show ¬ zs.length = aU rows by rw [hzn.out]; exact h2)]; simp
   exact FB P Q G Y ys n yc B rows bc A al na ca C Z zs nz cz cB hyn hbn iV hzn hna hnz hQ h1 h2 w hv hY hB hA hZ
 ·
  obtain rfl : r = false := by
   rw [← hr.out]; unfold bN
   rw [decide_eq_false (show ¬ al.length = rows.length by rw [iV.out, hbn.out]; exact h1)]; rfl
  exact FC P Q G Y ys n yc B rows bc A al na ca C Z zs nz cz cB hyn hbn iV hzn hna hnz hQ h1 w hv hY hB hA hZ
structure FT where
 kind : Int
 Y : Option Addr
 yn : Nat
 yc : Nat
 ys : List Int
 B : Option Addr
 bn : Nat
 bc : Nat
 rows : List Row
 L : Option Addr
 ln : Nat
 lc : Nat
 l : List FT
abbrev aY : FT := ⟨0, none, 0, 0, [], none, 0, 0, [], none, 0, 0, []⟩
abbrev fV (f : FT) : Value := .agg #[.int .i64 f.kind, .slice f.Y f.yn f.yc, .slice f.B f.bn f.bc, .slice f.L f.ln f.lc]
structure TT where
 c : Int
 A : Option Addr
 na : Nat
 ca : Nat
 al : List Int
 pc : Int
 Z : Option Addr
 nz : Nat
 cz : Nat
 zs : List Int
 L : Option Addr
 ln : Nat
 lc : Nat
 l : List TT
abbrev noT : TT := ⟨0, none, 0, 0, [], 0, none, 0, 0, [], none, 0, 0, []⟩
abbrev tV (t : TT) : Value := .agg #[.int .i64 t.c, .slice t.A t.na t.ca, .int .i64 t.pc, .slice t.Z t.nz t.cz, .slice t.L t.ln t.lc]
def GL (w : World) (L : Option Addr) (l : List FT) : Prop := ∀ k, k < l.length → ∃ b o, L = some ⟨b, o, none⟩ ∧ w.cell? ⟨b, o + k * 4, none⟩ = some (.int .i64 (l.getD k aY).kind) ∧ w.cell? ⟨b, o + k * 4 + 1, none⟩ = some (.slice (l.getD k aY).Y (l.getD k aY).yn (l.getD k aY).yc) ∧
 w.cell? ⟨b, o + k * 4 + 2, none⟩ = some (.slice (l.getD k aY).B (l.getD k aY).bn (l.getD k aY).bc) ∧ w.cell? ⟨b, o + k * 4 + 3, none⟩ = some (.slice (l.getD k aY).L (l.getD k aY).ln (l.getD k aY).lc)
theorem GL.below {w w' : World} {L : Option Addr} {l : List FT} (h : GL w L l) (hb : Below w.heap.size w w') : GL w' L l := fun k hk => by
 obtain ⟨b, o, h1, h2, h3, h4, h5⟩ := h k hk
 exact ⟨b, o, h1, cell_below h2 hb, cell_below h3 hb, cell_below h4 hb, cell_below h5 hb⟩
def RV (w : World) (L : Option Addr) (l : List TT) : Prop := ∀ k, k < l.length → ∃ b o, L = some ⟨b, o, none⟩ ∧ w.cell? ⟨b, o + k * 5, none⟩ = some (.int .i64 (l.getD k noT).c) ∧ w.cell? ⟨b, o + k * 5 + 1, none⟩ = some (.slice (l.getD k noT).A (l.getD k noT).na (l.getD k noT).ca) ∧
 w.cell? ⟨b, o + k * 5 + 2, none⟩ = some (.int .i64 (l.getD k noT).pc) ∧ w.cell? ⟨b, o + k * 5 + 3, none⟩ = some (.slice (l.getD k noT).Z (l.getD k noT).nz (l.getD k noT).cz) ∧ w.cell? ⟨b, o + k * 5 + 4, none⟩ = some (.slice (l.getD k noT).L (l.getD k noT).ln (l.getD k noT).lc)
theorem RV.below {w w' : World} {L : Option Addr} {l : List TT} (h : RV w L l) (hb : Below w.heap.size w w') : RV w' L l := fun k hk => by
 obtain ⟨b, o, h1, h2, h3, h4, h5, h6⟩ := h k hk
 exact ⟨b, o, h1, cell_below h2 hb, cell_below h3 hb, cell_below h4 hb, cell_below h5 hb, cell_below h6 hb⟩
mutual
def dU (w : World) : FT → Prop
 | ⟨_, Y, yn, _, ys, B, bn, _, rows, L, ln, _, l⟩ => (ys.length = yn ∧ rows.length = bn ∧ l.length = ln ∧ ln < 9223372036854775808) ∧ Sl w Y ys ∧ Rw w B rows ∧ GL w L l ∧ Bw w l
def Bw (w : World) : List FT → Prop
 | [] => True
 | f :: l => dU w f ∧ Bw w l
end
mutual
def bI (w : World) : TT → Prop
 | ⟨_, A, na, _, al, _, Z, nz, _, zs, L, ln, _, l⟩ => (al.length = na ∧ zs.length = nz ∧ l.length = ln ∧ ln < 9223372036854775808) ∧ Sl w A al ∧ Sl w Z zs ∧ RV w L l ∧ xy w l
def xy (w : World) : List TT → Prop
 | [] => True
 | t :: l => bI w t ∧ xy w l
end
theorem Ey {w : World} : ∀ {l : List FT} {k : Nat}, Bw w l → k < l.length → dU w (l.getD k aY)
 | f :: l, 0, h, _ => by rw [Bw] at h; exact h.1
 | f :: l, k + 1, h, hk => by
  rw [Bw] at h
  rw [List.getD_cons_succ]
  exact Ey h.2 (by simpa using hk)
theorem Eo {w : World} : ∀ {l : List TT} {k : Nat}, xy w l → k < l.length → bI w (l.getD k noT)
 | t :: l, 0, h, _ => by rw [xy] at h; exact h.1
 | t :: l, k + 1, h, hk => by
  rw [xy] at h
  rw [List.getD_cons_succ]
  exact Eo h.2 (by simpa using hk)
mutual
theorem dU.below {w w' : World} (hb : Below w.heap.size w w') : ∀ {f : FT}, dU w f → dU w' f
 | ⟨_, Y, yn, _, ys, B, bn, _, rows, L, ln, _, l⟩, h => by
  rw [dU] at h ⊢
  exact ⟨h.1, h.2.1.below hb, h.2.2.1.below hb, h.2.2.2.1.below hb, Bw.below hb h.2.2.2.2⟩
theorem Bw.below {w w' : World} (hb : Below w.heap.size w w') : ∀ {l : List FT}, Bw w l → Bw w' l
 | [], _ => by rw [Bw]; trivial
 | f :: l, h => by
  rw [Bw] at h ⊢
  exact ⟨dU.below hb h.1, Bw.below hb h.2⟩
end
mutual
theorem bI.below {w w' : World} (hb : Below w.heap.size w w') : ∀ {t : TT}, bI w t → bI w' t
 | ⟨_, A, na, _, al, _, Z, nz, _, zs, L, ln, _, l⟩, h => by
  rw [bI] at h ⊢
  exact ⟨h.1, h.2.1.below hb, h.2.2.1.below hb, h.2.2.2.1.below hb, xy.below hb h.2.2.2.2⟩
theorem xy.below {w w' : World} (hb : Below w.heap.size w w') : ∀ {l : List TT}, xy w l → xy w' l
 | [], _ => by rw [xy]; trivial
 | t :: l, h => by
  rw [xy] at h ⊢
  exact ⟨bI.below hb h.1, xy.below hb h.2⟩
end
mutual
def FT.nd : FT → Nat
 | ⟨_, _, _, _, _, _, _, _, _, _, _, _, l⟩ => lQ l + 1
def lQ : List FT → Nat
 | [] => 0
 | f :: l => f.nd + lQ l
end
mutual
def FT.dp : FT → Nat
 | ⟨_, _, _, _, _, _, _, _, _, _, _, _, l⟩ => vM l + 1
def vM : List FT → Nat
 | [] => 0
 | f :: l => max f.dp (vM l)
end
mutual
def TT.dp : TT → Nat
 | ⟨_, _, _, _, _, _, _, _, _, _, _, _, _, l⟩ => ER l + 1
def ER : List TT → Nat
 | [] => 0
 | t :: l => max t.dp (ER l)
end
theorem FT.nd_eq (f : FT) : f.nd = lQ f.l + 1 := by cases f; rw [FT.nd]
theorem FT.dp_eq (f : FT) : f.dp = vM f.l + 1 := by cases f; rw [FT.dp]
theorem TT.dp_eq (t : TT) : t.dp = ER t.l + 1 := by cases t; rw [TT.dp]
theorem yM : ∀ {l : List FT} {k : Nat}, k < l.length → (l.getD k aY).dp ≤ vM l
 | f :: l, 0, _ => by rw [vM]; exact Nat.le_max_left _ _
 | f :: l, k + 1, hk => by
  rw [vM, List.getD_cons_succ]
  exact Nat.le_trans (yM (by simpa using hk)) (Nat.le_max_right _ _)
theorem zH : ∀ {l : List TT} {k : Nat}, k < l.length → (l.getD k noT).dp ≤ ER l
 | t :: l, 0, _ => by rw [ER]; exact Nat.le_max_left _ _
 | t :: l, k + 1, hk => by
  rw [ER, List.getD_cons_succ]
  exact Nat.le_trans (zH (by simpa using hk)) (Nat.le_max_right _ _)
theorem yw : ∀ (a b : List FT), lQ (a ++ b) = lQ a + lQ b
 | [], b => by simp [lQ]
 | x :: a, b => by simp only [List.cons_append, lQ, yw a b]; omega
theorem Eg : ∀ (a b : List FT), vM (a ++ b) = max (vM a) (vM b)
 | [], b => by simp [vM]
 | x :: a, b => by simp only [List.cons_append, vM, Eg a b]; omega
theorem nk {l : List FT} {k : Nat} (h : k < l.length) : l.take (k + 1) = l.take k ++ [l.getD k aY] := by
 rw [List.take_add_one, List.getElem?_eq_getElem h, List.getD_eq_getElem?_getD, List.getElem?_eq_getElem h]; rfl
theorem pq {l : List FT} {k : Nat} (h : k < l.length) : lQ (l.take (k + 1)) = lQ (l.take k) + (l.getD k aY).nd := by
 rw [nk h, yw]; simp only [lQ]; omega
theorem JG {l : List FT} {k : Nat} (h : k < l.length) : vM (l.take (k + 1)) = max (vM (l.take k)) (l.getD k aY).dp := by
 rw [nk h, Eg]; simp only [vM]; omega
theorem jU {l : List FT} (k : Nat) : lQ (l.take k) ≤ lQ l := by
 conv => rhs; rw [← List.take_append_drop k l]
 rw [yw]; omega
theorem uq (f : FT) : 1 ≤ f.nd := by rw [f.nd_eq]; omega
mutual
theorem AA : ∀ (f : FT), f.dp ≤ f.nd
 | ⟨_, _, _, _, _, _, _, _, _, _, _, _, l⟩ => by rw [FT.dp, FT.nd]; have := wV l; omega
theorem wV : ∀ (l : List FT), vM l ≤ lQ l
 | [] => by simp [vM]
 | f :: l => by rw [vM, lQ]; have := AA f; have := wV l; omega
end
def vQ (x : Int) : Prop := 1 ≤ x ∧ x < 2305843009213693952
def GM (ys : List Int) (rows : List Row) : Prop := (1 ≤ ys.length ∧ ys.length ≤ 8 ∧ rows.length = ys.length ∧ 1 ≤ aU rows ∧ aU rows ≤ 12) ∧ ∀ i, i < ys.length → vQ (ys.getD i 0) ∧ (rows.getD i aG).n = aU rows ∧ ∀ j, j < aU rows → vQ ((rows.getD i aG).xs.getD j 0)
mutual
def FT.fm : FT → Prop
 | ⟨kind, _, _, _, ys, _, _, _, rows, _, _, _, l⟩ => (kind = 1 ∧ l = [] ∧ GM ys rows) ∨ ((kind = 2 ∨ kind = 3) ∧ ys = [] ∧ rows = [] ∧ (1 ≤ l.length ∧ l.length ≤ 8) ∧ RL l)
def RL : List FT → Prop
 | [] => True
 | f :: l => f.fm ∧ RL l
end
mutual
def FT.sh : FT → Prop
 | ⟨kind, _, _, _, ys, _, _, _, rows, _, _, _, l⟩ => (kind = 1 ∧ l = []) ∨ ((kind = 2 ∨ kind = 3) ∧ ys = [] ∧ rows = [] ∧ (1 ≤ l.length ∧ l.length ≤ 8) ∧ Jq l)
def Jq : List FT → Prop
 | [] => True
 | f :: l => f.sh ∧ Jq l
end
theorem Ar : ∀ (l : List FT), Jq l ↔ ∀ k, k < l.length → (l.getD k aY).sh
 | [] => by simp [Jq]
 | f :: l => by
  rw [Jq, Ar l]
  refine ⟨fun h k hk => ?_, fun h => ⟨h 0 (by simp), fun k hk => by have := h (k + 1) (by simpa using hk); rwa [List.getD_cons_succ] at this⟩⟩
  cases k with
  | zero => exact h.1
  | succ k => rw [List.getD_cons_succ]; exact h.2 k (by simpa using hk)
theorem FT.sh_eq (f : FT) : f.sh ↔ (f.kind = 1 ∧ f.l = []) ∨ ((f.kind = 2 ∨ f.kind = 3) ∧ f.ys = [] ∧ f.rows = [] ∧ (1 ≤ f.l.length ∧ f.l.length ≤ 8) ∧ ∀ k, k < f.l.length → (f.l.getD k aY).sh) := by
 cases f; rw [FT.sh, Ar]
mutual
def FT.at_ (P Q G : Int) : FT → Prop
 | ⟨kind, _, _, _, ys, _, _, _, rows, _, _, _, l⟩ => (kind = 1 ∧ aP P Q G ys rows = true) ∨ (kind ≠ 1 ∧ JC P Q G l)
def JC (P Q G : Int) : List FT → Prop
 | [] => True
 | f :: l => f.at_ P Q G ∧ JC P Q G l
end
theorem Ea : ∀ (l : List FT), RL l ↔ ∀ k, k < l.length → (l.getD k aY).fm
 | [] => by simp [RL]
 | f :: l => by
  rw [RL, Ea l]
  refine ⟨fun h k hk => ?_, fun h => ⟨h 0 (by simp), fun k hk => by have := h (k + 1) (by simpa using hk); rwa [List.getD_cons_succ] at this⟩⟩
  cases k with
  | zero => exact h.1
  | succ k => rw [List.getD_cons_succ]; exact h.2 k (by simpa using hk)
theorem Aw {P Q G : Int} : ∀ (l : List FT), JC P Q G l ↔ ∀ k, k < l.length → (l.getD k aY).at_ P Q G
 | [] => by simp [JC]
 | f :: l => by
  rw [JC, Aw l]
  refine ⟨fun h k hk => ?_, fun h => ⟨h 0 (by simp), fun k hk => by have := h (k + 1) (by simpa using hk); rwa [List.getD_cons_succ] at this⟩⟩
  cases k with
  | zero => exact h.1
  | succ k => rw [List.getD_cons_succ]; exact h.2 k (by simpa using hk)
theorem FT.fm_eq (f : FT) : f.fm ↔ (f.kind = 1 ∧ f.l = [] ∧ GM f.ys f.rows) ∨ ((f.kind = 2 ∨ f.kind = 3) ∧ f.ys = [] ∧ f.rows = [] ∧ (1 ≤ f.l.length ∧ f.l.length ≤ 8) ∧ ∀ k, k < f.l.length → (f.l.getD k aY).fm) := by
 cases f; rw [FT.fm, Ea]
theorem FT.at_eq {P Q G : Int} (f : FT) : f.at_ P Q G ↔ (f.kind = 1 ∧ aP P Q G f.ys f.rows = true) ∨ (f.kind ≠ 1 ∧ ∀ k, k < f.l.length → (f.l.getD k aY).at_ P Q G) := by
 cases f; rw [FT.at_, Aw]
structure VF (P Q G : Int) (f : FT) : Prop where
 g : aJ P Q G = true
 n : f.nd ≤ 30
 d : f.dp ≤ 6
 s : f.sh
 a : f.at_ P Q G
def fu (Q : Int) (l : List TT) : Int := l.foldl (fun s t => (s + t.c) % Q) 0
mutual
def FT.acc (P Q : Int) : FT → TT → Prop
 | ⟨kind, _, _, _, ys, _, _, _, rows, _, _, _, l⟩, t => (0 ≤ t.c ∧ t.c < Q) ∧ ((kind = 1 ∧ t.l = [] ∧ t.pc = t.c ∧ bN P Q t.pc ys rows t.al t.zs = true) ∨ (kind ≠ 1 ∧ (t.al = [] ∧ t.pc = 0 ∧ t.zs = []) ∧ t.l.length = l.length ∧ Ay P Q l t.l ∧ (kind = 2 → ∀ k, k < l.length → (t.l.getD k noT).c = t.c) ∧ (kind = 2 ∨ fu Q t.l = t.c)))
def Ay (P Q : Int) : List FT → List TT → Prop
 | [], _ => True
 | _ :: _, [] => False
 | f :: l, t :: ts => f.acc P Q t ∧ Ay P Q l ts
end
theorem qN {P Q : Int} : ∀ (l : List FT) (ts : List TT), ts.length = l.length → (Ay P Q l ts ↔ ∀ k, k < l.length → (l.getD k aY).acc P Q (ts.getD k noT))
 | [], _, _ => by simp [Ay]
 | _ :: _, [], h => by simp at h
 | f :: l, t :: ts, h => by
  rw [Ay, qN l ts (by simpa using h)]
  refine ⟨fun h k hk => ?_, fun h => ⟨h 0 (by simp), fun k hk => by have := h (k + 1) (by simpa using hk); rwa [List.getD_cons_succ, List.getD_cons_succ] at this⟩⟩
  cases k with
  | zero => exact h.1
  | succ k => rw [List.getD_cons_succ, List.getD_cons_succ]; exact h.2 k (by simpa using hk)
theorem FT.acc_eq {P Q : Int} (f : FT) (t : TT) : f.acc P Q t ↔ (0 ≤ t.c ∧ t.c < Q) ∧ ((f.kind = 1 ∧ t.l = [] ∧ t.pc = t.c ∧ bN P Q t.pc f.ys f.rows t.al t.zs = true) ∨ (f.kind ≠ 1 ∧ (t.al = [] ∧ t.pc = 0 ∧ t.zs = []) ∧ t.l.length = f.l.length ∧ (∀ k, k < f.l.length → (f.l.getD k aY).acc P Q (t.l.getD k noT)) ∧ (f.kind = 2 → ∀ k, k < f.l.length → (t.l.getD k noT).c = t.c) ∧ (f.kind = 2 ∨ fu Q t.l = t.c))) := by
 cases f
 rw [FT.acc]
 constructor
 ·
  rintro ⟨h1, h2 | ⟨h2, h3, h4, h5, h6⟩⟩
  · exact ⟨h1, .inl h2⟩
  · exact ⟨h1, .inr ⟨h2, h3, h4, (qN _ _ h4).1 h5, h6⟩⟩
 ·
  rintro ⟨h1, h2 | ⟨h2, h3, h4, h5, h6⟩⟩
  · exact ⟨h1, .inl h2⟩
  · exact ⟨h1, .inr ⟨h2, h3, h4, (qN _ _ h4).2 h5, h6⟩⟩
abbrev fO (kind : Int) (Y : Option Addr) (yn yc : Nat) (B : Option Addr) (bn bc : Nat) (L : Option Addr) (ln lc : Nat) : Obj := .cells #[.int .i64 kind, .slice Y yn yc, .slice B bn bc, .slice L ln lc] 30
abbrev tO (c : Int) (A : Option Addr) (na ca : Nat) (pc : Int) (Z : Option Addr) (nz cz : Nat) (L : Option Addr) (ln lc : Nat) : Obj := .cells #[.int .i64 c, .slice A na ca, .int .i64 pc, .slice Z nz cz, .slice L ln lc] 39
theorem sM {w w0 : World} {f : FT} (hb : Hid (Below w.heap.size w w0)) (h : Hid (dU w f)) : Hid (∀ u : World, Hid (Below w0.heap.size w0 u) → Hid (dU u f)) := vH (fun u => dU u f) hb h (fun h b => dU.below b h)
theorem Gu {w w0 : World} {t : TT} (hb : Hid (Below w.heap.size w w0)) (h : Hid (bI w t)) : Hid (∀ u : World, Hid (Below w0.heap.size w0 u) → Hid (bI u t)) := vH (fun u => bI u t) hb h (fun h b => bI.below b h)
theorem dU.kid {w : World} {f : FT} {k : Nat} (h : dU w f) (hk : k < f.ln) : ∃ b o, f.L = some ⟨b, o, none⟩ ∧ w.cell? ⟨b, o + k * 4, none⟩ = some (.int .i64 (f.l.getD k aY).kind) ∧ w.cell? ⟨b, o + k * 4 + 1, none⟩ = some (.slice (f.l.getD k aY).Y (f.l.getD k aY).yn (f.l.getD k aY).yc) ∧
  w.cell? ⟨b, o + k * 4 + 2, none⟩ = some (.slice (f.l.getD k aY).B (f.l.getD k aY).bn (f.l.getD k aY).bc) ∧ w.cell? ⟨b, o + k * 4 + 3, none⟩ = some (.slice (f.l.getD k aY).L (f.l.getD k aY).ln (f.l.getD k aY).lc) ∧ dU w (f.l.getD k aY) := by
 obtain ⟨kind, Y, yn, yc, ys, B, bn, bc, rows, L, ln, lc, l⟩ := f
 rw [dU] at h
 obtain ⟨⟨h1, h2, h3, h4⟩, h5, h6, h7, h8⟩ := h
 dsimp only at hk ⊢
 obtain ⟨b, o, e, c0, c1, c2, c3⟩ := h7 k (by omega)
 exact ⟨b, o, e, c0, c1, c2, c3, Ey h8 (by omega)⟩
theorem bI.kid {w : World} {t : TT} {k : Nat} (h : bI w t) (hk : k < t.ln) : ∃ b o, t.L = some ⟨b, o, none⟩ ∧ w.cell? ⟨b, o + k * 5, none⟩ = some (.int .i64 (t.l.getD k noT).c) ∧ w.cell? ⟨b, o + k * 5 + 1, none⟩ = some (.slice (t.l.getD k noT).A (t.l.getD k noT).na (t.l.getD k noT).ca) ∧
  w.cell? ⟨b, o + k * 5 + 2, none⟩ = some (.int .i64 (t.l.getD k noT).pc) ∧ w.cell? ⟨b, o + k * 5 + 3, none⟩ = some (.slice (t.l.getD k noT).Z (t.l.getD k noT).nz (t.l.getD k noT).cz) ∧ w.cell? ⟨b, o + k * 5 + 4, none⟩ = some (.slice (t.l.getD k noT).L (t.l.getD k noT).ln (t.l.getD k noT).lc) ∧ bI w (t.l.getD k noT) := by
 obtain ⟨c, A, na, ca, al, pc, Z, nz, cz, zs, L, ln, lc, l⟩ := t
 rw [bI] at h
 obtain ⟨⟨h1, h2, h3, h4⟩, h5, h6, h7, h8⟩ := h
 dsimp only at hk ⊢
 obtain ⟨b, o, e, c0, c1, c2, c3, c4⟩ := h7 k (by omega)
 exact ⟨b, o, e, c0, c1, c2, c3, c4, Eo h8 (by omega)⟩
theorem dU.lens {w : World} {f : FT} (h : dU w f) : f.ys.length = f.yn ∧ f.rows.length = f.bn ∧ f.l.length = f.ln ∧ f.ln < 9223372036854775808 := by
 cases f; rw [dU] at h; exact h.1
theorem bI.lens {w : World} {t : TT} (h : bI w t) : t.al.length = t.na ∧ t.zs.length = t.nz ∧ t.l.length = t.ln ∧ t.ln < 9223372036854775808 := by
 cases t; rw [bI] at h; exact h.1
theorem FT.kid_dp {f : FT} {k d : Nat} (h : f.dp ≤ d + 1) (hk : k < f.l.length) : (f.l.getD k aY).dp ≤ d := by
 have := f.dp_eq; have := yM hk; omega
theorem TT.kid_dp {t : TT} {k d : Nat} (h : t.dp ≤ d + 1) (hk : k < t.l.length) : (t.l.getD k noT).dp ≤ d := by
 have := t.dp_eq; have := zH hk; omega
def KE (most : Int) (w : World) (e : Ending) (w' : World) : Prop := ∃ v : Int, e = .returned (.int .i64 v) ∧ 1 ≤ v ∧ v ≤ most ∧ Below w.heap.size w w'
theorem ug : ∀ (d : Nat) (f : FT) (most : Int) (w : World), f.dp ≤ d → 1 ≤ most → most ≤ 61 → Hid (dU w f) → Calls Tryz.prog 5 #[fV f, .int .i64 most] w (KE most w)
 | 0, f, _, _, h, _, _, _ => by have := f.dp_eq; omega
 | d + 1, f, most, w, hd, h1, h2, hF => by
  obtain ⟨kind, Y, yn, yc, ys, B, bn, bc, rows, L, ln, lc, l⟩ := f
  obtain ⟨_, _, hln, hlb⟩ := hF.out.lens
  dsimp only at hln hlb
  obtain ⟨w0, HW, av, kC⟩ := st1 (fO kind Y yn yc B bn bc L ln lc) qQ w
  have kF := sM av hF
  have aA := dS w0
  clear hF
  go_in
  go_wp2_with fail
  rw [HW.out]
  have zc := kC.out _ aA
  go_loopw [5, 6] (fun vn vi wr => ∃ (k : Nat) (v : Int), k ≤ ln ∧ vi = .int .i64 k ∧ vn = .int .i64 v ∧ 1 ≤ v ∧ v ≤ most ∧ Hid (Below w0.heap.size w0 wr)) (fun _ vi _ => ln - (intOf vi).toNat)
  case atStart => exact ⟨0, 1, by omega, rfl, rfl, by omega, h1, dS w0⟩
  case round =>
   obtain ⟨k, v, hk, rfl, rfl, v1, v2, aF⟩ := hrel
   clear zc
   obtain ⟨c0, c1, c2, c3⟩ := kC.out _ aF
   by_cases hlt : k < ln
   ·
    by_cases Xf : v < most
    ·
     have hkl : k < l.length := by omega
     obtain ⟨b, o, hL, i0, i1, i2, i3, gV⟩ := (kF.out _ aF).out.kid (k := k) hlt
     dsimp only at hL i0 i1 i2 i3 gV
     subst hL
     obtain ⟨x, hx⟩ : ∃ x, l.getD k aY = x := ⟨_, rfl⟩
     have hdp : x.dp ≤ d := by rw [← hx]; exact FT.kid_dp hd hkl
     rw [hx] at i0 i1 i2 i3 gV
     have HX := aa gV
     clear gV hx hkl
     obtain ⟨xk, xY, jL, jM, xys, xB, jN, jO, fE, xL, jm, jo, xl⟩ := x
     dsimp only at i0 i1 i2 i3
     go_wp2_with fail
     refine (ug d _ (most - v) _ hdp (by omega) (by omega) HX).mono ?_
     rintro e w2 ⟨r, rfl, r1, r2, hb2⟩
     have HB2 := cZ aF hb2
     clear hb2 i0 i1 i2 i3 c0 c1 c2 c3
     go_wp2
     go_roundw
     case rel => exact ⟨k + 1, v + r, by omega, by go_num, by go_num, by omega, by omega, HB2⟩
     case measure => simp [intOf]; omega
    ·
     go_wp2
     go_ret
     exact ⟨v, rfl, v1, v2, gN av aF⟩
   ·
    obtain rfl : k = ln := by omega
    go_wp2
    go_ret
    exact ⟨v, rfl, v1, v2, gN av aF⟩
theorem uf : ∀ (d : Nat) (t : TT) (most : Int) (w : World), t.dp ≤ d → 1 ≤ most → most ≤ 61 → Hid (bI w t) → Calls Tryz.prog 6 #[tV t, .int .i64 most] w (KE most w)
 | 0, t, _, _, h, _, _, _ => by have := t.dp_eq; omega
 | d + 1, t, most, w, hd, h1, h2, hF => by
  obtain ⟨tc, A, na, ca, al, pc, Z, nz, cz, zs, L, ln, lc, l⟩ := t
  obtain ⟨_, _, hln, hlb⟩ := hF.out.lens
  dsimp only at hln hlb
  obtain ⟨w0, HW, av, kC⟩ := st1 (tO tc A na ca pc Z nz cz L ln lc) Br w
  have kF := Gu av hF
  have aA := dS w0
  clear hF
  go_in
  go_wp2_with fail
  rw [HW.out]
  have zc := kC.out _ aA
  go_loopw [5, 6] (fun vn vi wr => ∃ (k : Nat) (v : Int), k ≤ ln ∧ vi = .int .i64 k ∧ vn = .int .i64 v ∧ 1 ≤ v ∧ v ≤ most ∧ Hid (Below w0.heap.size w0 wr)) (fun _ vi _ => ln - (intOf vi).toNat)
  case atStart => exact ⟨0, 1, by omega, rfl, rfl, by omega, h1, dS w0⟩
  case round =>
   obtain ⟨k, v, hk, rfl, rfl, v1, v2, aF⟩ := hrel
   clear zc
   obtain ⟨c0, c1, c2, c3, c4⟩ := kC.out _ aF
   by_cases hlt : k < ln
   ·
    by_cases Xf : v < most
    ·
     have hkl : k < l.length := by omega
     obtain ⟨b, o, hL, i0, i1, i2, i3, i4, gV⟩ := (kF.out _ aF).out.kid (k := k) hlt
     dsimp only at hL i0 i1 i2 i3 i4 gV
     subst hL
     obtain ⟨x, hx⟩ : ∃ x, l.getD k noT = x := ⟨_, rfl⟩
     have hdp : x.dp ≤ d := by rw [← hx]; exact TT.kid_dp hd hkl
     rw [hx] at i0 i1 i2 i3 i4 gV
     have HX := aa gV
     clear gV hx hkl
     obtain ⟨xk, xA, xna, xca, xal, xpc, xZ, xnz, xcz, xzs, xL, jm, jo, xl⟩ := x
     dsimp only at i0 i1 i2 i3 i4
     go_wp2_with fail
     refine (uf d _ (most - v) _ hdp (by omega) (by omega) HX).mono ?_
     rintro e w2 ⟨r, rfl, r1, r2, hb2⟩
     have HB2 := cZ aF hb2
     clear hb2 i0 i1 i2 i3 i4 c0 c1 c2 c3 c4
     go_wp2
     go_roundw
     case rel => exact ⟨k + 1, v + r, by omega, by go_num, by go_num, by omega, by omega, HB2⟩
     case measure => simp [intOf]; omega
    ·
     go_wp2
     go_ret
     exact ⟨v, rfl, v1, v2, gN av aF⟩
   ·
    obtain rfl : k = ln := by omega
    go_wp2
    go_ret
    exact ⟨v, rfl, v1, v2, gN av aF⟩
def vR (p q : Prop) (w : World) (e : Ending) (w' : World) : Prop := ∃ b : Bool, e = .returned (.bool b) ∧ (p → b = true) ∧ (b = true → q) ∧ Below w.heap.size w w'
theorem q8 : ∀ (d : Nat) (f : FT) (w : World), f.dp ≤ d → Hid (dU w f) → Calls Tryz.prog 42 #[fV f] w (Rt w (.int .i64 (min (f.nd : Int) 31)))
 | 0, f, _, h, _ => by have := f.dp_eq; omega
 | d + 1, f, w, hd, hF => by
  obtain ⟨kind, Y, yn, yc, ys, B, bn, bc, rows, L, ln, lc, l⟩ := f
  obtain ⟨_, _, hln, hlb⟩ := hF.out.lens
  dsimp only at hln hlb
  obtain ⟨w0, HW, av, kC⟩ := st1 (fO kind Y yn yc B bn bc L ln lc) qQ w
  have kF := sM av hF
  clear hF
  go_in
  go_wp2_with fail
  rw [HW.out]
  go_loopw [3, 4] (fun vn vi wr => ∃ (k : Nat) (v : Int), k ≤ ln ∧ vi = .int .i64 k ∧ vn = .int .i64 v ∧ 1 ≤ v ∧ v ≤ 61 ∧ Hid ((v = lQ (l.take k) + 1 ∧ v ≤ 30) ∨ (31 ≤ v ∧ 31 ≤ (lQ (l.take k) : Int) + 1)) ∧ Hid (Below w0.heap.size w0 wr)) (fun _ vi _ => ln - (intOf vi).toNat)
  case atStart => exact ⟨0, 1, by omega, rfl, rfl, by omega, by omega, aa (by simp [lQ]), dS w0⟩
  case round =>
   obtain ⟨k, v, hk, rfl, rfl, v1, v2, HV, aF⟩ := hrel
   obtain ⟨c0, c1, c2, c3⟩ := kC.out _ aF
   have hfin : ∀ (k2 : Nat), k2 ≤ ln → (31 ≤ v ∧ 31 ≤ (lQ (l.take k2) : Int) + 1 ∨ v = lQ l + 1) → min v 31 = min (((⟨kind, Y, yn, yc, ys, B, bn, bc, rows, L, ln, lc, l⟩ : FT).nd : Nat) : Int) 31 := fun k2 h2 h3 => by
    have e1 : (⟨kind, Y, yn, yc, ys, B, bn, bc, rows, L, ln, lc, l⟩ : FT).nd = lQ l + 1 := FT.nd_eq _
    have e2 := jU (l := l) k2
    rw [e1]; omega
   by_cases hlt : k < ln
   ·
    by_cases Xf : v ≤ 30
    ·
     have hkl : k < l.length := by omega
     obtain ⟨b, o, hL, i0, i1, i2, i3, gV⟩ := (kF.out _ aF).out.kid (k := k) hlt
     dsimp only at hL i0 i1 i2 i3 gV
     subst hL
     have htk := pq hkl
     obtain ⟨x, hx⟩ : ∃ x, l.getD k aY = x := ⟨_, rfl⟩
     have hdp : x.dp ≤ d := by rw [← hx]; exact FT.kid_dp hd hkl
     rw [hx] at i0 i1 i2 i3 gV htk
     have HX := aa gV
     have hnp := uq x
     obtain ⟨r, hr⟩ : ∃ r, min (x.nd : Int) 31 = r := ⟨_, rfl⟩
     have r1 : 1 ≤ r ∧ r ≤ 31 := by omega
     have ko : Hid ((v + r = lQ (l.take (k + 1)) + 1 ∧ v + r ≤ 30) ∨ (31 ≤ v + r ∧ 31 ≤ (lQ (l.take (k + 1)) : Int) + 1)) := aa (by have := HV.out; omega)
     have fQ := aa (fun w2 h => q8 d x w2 hdp h)
     rw [hr] at fQ
     clear gV hx hkl HV htk hr hnp hdp hfin
     obtain ⟨xk, xY, jL, jM, xys, xB, jN, jO, fE, xL, jm, jo, xl⟩ := x
     dsimp only at i0 i1 i2 i3
     go_wp2_with fail
     refine (fQ.out _ HX).mono ?_
     rintro e w2 ⟨rfl, hb2⟩
     have HB2 := cZ aF hb2
     clear hb2 i0 i1 i2 i3 c0 c1 c2 c3
     go_wp2
     go_roundw
     case rel => exact ⟨k + 1, v + r, by omega, by go_num, by go_num, by omega, by omega, ko, HB2⟩
     case measure => simp [intOf]; omega
    ·
     have hm := hfin k hk (.inl (by have := HV.out; omega))
     clear hfin HV
     go_wp2
     go_ret
     exact ⟨by rw [← hm]; rfl, gN av aF⟩
   ·
    obtain rfl : k = ln := by omega
    have hm := hfin k hk (by have := HV.out; rw [List.take_of_length_le (by omega)] at this ⊢; omega)
    clear hfin HV
    go_wp2
    go_ret
    exact ⟨by rw [← hm]; rfl, gN av aF⟩
theorem rD : ∀ (d : Nat) (f : FT) (w : World), d ≤ 1000 → f.dp ≤ d → Hid (dU w f) → Calls Tryz.prog 43 #[fV f] w (Rt w (.int .i64 f.dp))
 | 0, f, _, _, h, _ => by have := f.dp_eq; omega
 | d + 1, f, w, hd1, hd, hF => by
  obtain ⟨Z6, Mh⟩ : ∃ z, f.dp = z := ⟨_, rfl⟩
  obtain ⟨kind, Y, yn, yc, ys, B, bn, bc, rows, L, ln, lc, l⟩ := f
  obtain ⟨_, _, hln, hlb⟩ := hF.out.lens
  dsimp only at hln hlb
  have e1 : (⟨kind, Y, yn, yc, ys, B, bn, bc, rows, L, ln, lc, l⟩ : FT).dp = vM l + 1 := FT.dp_eq _
  obtain ⟨w0, HW, av, kC⟩ := st1 (fO kind Y yn yc B bn bc L ln lc) qQ w
  have kF := sM av hF
  clear hF
  rw [Mh]
  go_in
  go_wp2_with fail
  rw [HW.out]
  go_loopw [3, 4] (fun vn vi wr => ∃ (k v : Nat), k ≤ ln ∧ vi = .int .i64 k ∧ vn = .int .i64 v ∧ v ≤ d ∧ Hid (v = vM (l.take k)) ∧ Hid (Below w0.heap.size w0 wr)) (fun _ vi _ => ln - (intOf vi).toNat)
  case atStart => exact ⟨0, 0, by omega, rfl, rfl, by omega, aa (by simp [vM]), dS w0⟩
  case round =>
   obtain ⟨k, v, hk, rfl, rfl, v1, HV, aF⟩ := hrel
   obtain ⟨c0, c1, c2, c3⟩ := kC.out _ aF
   by_cases hlt : k < ln
   ·
    have hkl : k < l.length := by omega
    obtain ⟨b, o, hL, i0, i1, i2, i3, gV⟩ := (kF.out _ aF).out.kid (k := k) hlt
    dsimp only at hL i0 i1 i2 i3 gV
    subst hL
    have htk := JG hkl
    obtain ⟨x, hx⟩ : ∃ x, l.getD k aY = x := ⟨_, rfl⟩
    have hdp : x.dp ≤ d := by rw [← hx]; exact FT.kid_dp hd hkl
    rw [hx] at i0 i1 i2 i3 gV htk
    have HX := aa gV
    obtain ⟨r, hr⟩ : ∃ r, x.dp = r := ⟨_, rfl⟩
    have ko : Hid (max v r = vM (l.take (k + 1))) := aa (by rw [htk, HV.out, hr])
    have fQ := aa (fun w2 h => rD d x w2 (by omega) hdp h)
    rw [hr] at fQ hdp
    have hmx : max (v : Int) (r : Int) = ((max v r : Nat) : Int) := by omega
    have hmd : max v r ≤ d := by omega
    obtain ⟨mv, hmv⟩ : ∃ z, max v r = z := ⟨_, rfl⟩
    rw [hmv] at hmx hmd ko
    clear gV hx hkl HV htk hr hmv Mh e1 hd
    obtain ⟨xk, xY, jL, jM, xys, xB, jN, jO, fE, xL, jm, jo, xl⟩ := x
    dsimp only at i0 i1 i2 i3
    go_wp2_with fail
    refine (fQ.out _ HX).mono ?_
    rintro e w2 ⟨rfl, hb2⟩
    have HB2 := cZ aF hb2
    clear hb2 i0 i1 i2 i3 c0 c1 c2 c3
    go_wp2
    go_roundw
    case rel => exact ⟨k + 1, mv, by omega, by go_num, rfl, hmd, ko, HB2⟩
    case measure => simp [intOf]; omega
   ·
    obtain rfl : k = ln := by omega
    have hm : v + 1 = Z6 := by have := HV.out; rw [List.take_of_length_le (by omega)] at this; rw [← Mh, e1, this]
    clear HV e1 Mh
    subst hm
    go_wp2
    go_ret
    exact ⟨rfl, gN av aF⟩
theorem vK (Y : Option Addr) (ys : List Int) (yn yc : Nat) (B : Option Addr) (rows : List Row) (bn bc : Nat) (hyn : Hid (ys.length = yn)) (hbn : Hid (rows.length = bn)) (w : World) (hY : Hid (Sl w Y ys)) (hB : Hid (Rw w B rows)) :
  Calls Tryz.prog 88 #[dm Y yn yc B bn bc] w (vR (GM ys rows) True w) := by
 obtain ⟨w0, HW, av, kC⟩ := st1 (dW Y yn yc B bn bc) TS w
 have kY := mkS av hY
 have kB := vH (fun u => Rw u B rows) av hB (·.below)
 have aA := dS w0
 have Zd := hyn.out
 have Zz := hbn.out
 clear hY hB
 have no : Hid (∀ u : World, Hid (Below w0.heap.size w0 u) → ¬ GM ys rows → vR (GM ys rows) True w (.returned (.bool false)) u) := aa (fun u h h2 => ⟨false, rfl, fun h3 => absurd h3 h2, fun _ => trivial, gN av h⟩)
 go_in
 go_upto_region 1 with (fail)
 rw [show w.alloc (dW Y yn yc B bn bc) = w0 from HW.out]
 obtain ⟨c0, c1⟩ := kC.out _ aA
 by_cases h1 : yn < 1
 ·
  have d1 : decide ((yn : Int) < 1) = true := by simp; omega
  go_wp2
  go_ret
  exact no.out _ aA (fun h => by have := h.1; omega)
 have d1 : decide ((yn : Int) < 1) = false := by simp; omega
 by_cases h2 : 8 < yn
 ·
  have d2 : decide ((8 : Int) < (yn : Int)) = true := by simp; omega
  go_wp2
  go_ret
  exact no.out _ aA (fun h => by have := h.1; omega)
 have d2 : decide ((8 : Int) < (yn : Int)) = false := by simp; omega
 by_cases h3 : bn = yn
 case neg =>
  have d3 : ((bn : Int) != (yn : Int)) = true := by simp; omega
  go_wp2
  go_ret
  exact no.out _ aA (fun h => by have := h.1; omega)
 subst h3
 have d3 : ((bn : Int) != (bn : Int)) = false := by simp
 obtain ⟨nr, hnr⟩ : ∃ z, aU rows = z := ⟨_, rfl⟩
 obtain ⟨⟨b, o, Qg, e0⟩, _, _⟩ := (kB.out _ aA).out 0 (by omega)
 rw [show (rows.getD 0 aG).val = .slice (rows.getD 0 aG).p nr (rows.getD 0 aG).c by rw [← hnr]; rfl] at e0
 subst Qg
 have M5 := aa hnr
 clear hnr
 obtain ⟨WZ, Ai⟩ : ∃ z, (rows.getD 0 aG).p = z := ⟨_, rfl⟩
 obtain ⟨W9, Aj⟩ : ∃ z, (rows.getD 0 aG).c = z := ⟨_, rfl⟩
 rw [Ai, Aj, Nat.add_zero] at e0
 have kE := Y4 e0
 clear Ai Aj
 by_cases h4 : nr < 1
 ·
  have d4 : decide ((nr : Int) < 1) = true := by simp; omega
  go_wp2
  go_ret
  exact no.out _ aA (fun h => by have := h.1; have := M5.out; omega)
 have d4 : decide ((nr : Int) < 1) = false := by simp; omega
 by_cases h5 : 12 < nr
 ·
  have d5 : decide ((12 : Int) < (nr : Int)) = true := by simp; omega
  go_wp2
  go_ret
  exact no.out _ aA (fun h => by have := h.1; have := M5.out; omega)
 have d5 : decide ((12 : Int) < (nr : Int)) = false := by simp; omega
 go_wp2_with fail
 clear d1 d2 d3 d4 d5 e0 c0 c1
 go_loopw [3] (fun vi wr => ∃ k : Nat, k ≤ bn ∧ vi = .int .i64 k ∧ Hid (Below w0.heap.size w0 wr)) (fun vi _ => bn - (intOf vi).toNat)
 case atStart => exact ⟨0, by omega, rfl, aA⟩
 case round =>
  obtain ⟨k, hk, rfl, aF⟩ := hrel
  obtain ⟨c0, c1⟩ := kC.out _ aF
  by_cases hlt : k < bn
  case neg =>
   obtain rfl : k = bn := by omega
   go_wp2
   go_ret
   exact ⟨true, rfl, fun _ => rfl, fun _ => trivial, gN av aF⟩
  obtain ⟨bY, oY, TI, i0⟩ := (kY.out _ aF).out k (by omega)
  subst TI
  obtain ⟨⟨bB, oB, hBb, j0⟩, hRl, hRs⟩ := (kB.out _ aF).out k (by omega)
  injection hBb with hBb
  injection hBb with hb1 hb2
  subst hb1 hb2
  have e0 := kE.out _ aF
  obtain ⟨y, hy⟩ : ∃ z, ys.getD k 0 = z := ⟨_, rfl⟩
  obtain ⟨R, hR⟩ : ∃ z, rows.getD k aG = z := ⟨_, rfl⟩
  rw [hy] at i0
  rw [hR] at j0 hRl hRs
  have GJ : Hid (GM ys rows → vQ y ∧ R.n = nr ∧ ∀ j, j < nr → vQ (R.xs.getD j 0)) := aa (fun h => by
   have h2 := h.2 k (by omega)
   rw [hy, hR, M5.out] at h2
   exact h2)
  have kJ : Hid (∀ u : World, Hid (Below w0.heap.size w0 u) → u.cell? ⟨b, o + k, none⟩ = some (.slice R.p R.n R.c) ∧ Hid (Sl u R.p R.xs)) := aa (fun u hu => by
   obtain ⟨⟨b', o', e1, e2⟩, _, e3⟩ := (kB.out u hu).out k (by omega)
   injection e1 with e1
   injection e1 with e4 e5
   subst e4 e5
   rw [hR] at e2 e3
   exact ⟨e2, aa e3⟩)
  clear hy hR
  obtain ⟨rp, rn, rc, KG⟩ := R
  dsimp only at hRl hRs GJ kJ
  rw [show (⟨rp, rn, rc, KG⟩ : Row).val = .slice rp rn rc from rfl] at j0
  have HB2 : Hid (∀ q : Nat, Hid (Below w0.heap.size w0 (wr.drewN q))) := aa (fun q => aa (ay aF.out q))
  by_cases h6 : y < 1
  ·
   have d6 : decide (y < 1) = true := by simp [h6]
   go_wp2
   go_quiet (fail)
   go_wp2
   go_ret
   exact no.out _ (HB2.out _) (fun h => by have := (GJ.out h).1.1; omega)
  have d6 : decide (y < 1) = false := by simp; omega
  by_cases h7 : 2305843009213693952 ≤ y
  ·
   have d7 : decide (2305843009213693952 ≤ y) = true := by simp [h7]
   go_wp2
   go_quiet (fail)
   go_wp2
   go_ret
   exact no.out _ (HB2.out _) (fun h => by have := (GJ.out h).1.2; omega)
  have d7 : decide (2305843009213693952 ≤ y) = false := by simp; omega
  by_cases h8 : rn = nr
  case neg =>
   have d8 : ((rn : Int) != (nr : Int)) = true := by simp; omega
   go_wp2
   go_quiet (fail)
   go_wp2
   go_ret
   exact no.out _ (HB2.out _) (fun h => by have := (GJ.out h).2.1; omega)
  subst h8
  have d8 : ((rn : Int) != (rn : Int)) = false := by simp
  go_wp2
  go_quiet (fail)
  go_wp2
  clear d6 d7 d8 i0 j0 e0 c0 c1
  go_loopw [4] (fun vj wr2 => ∃ j : Nat, j ≤ rn ∧ vj = .int .i64 j ∧ Hid (Below w0.heap.size w0 wr2)) (fun vj _ => rn - (intOf vj).toNat)
  case atStart => exact ⟨0, by omega, rfl, HB2.out _⟩
  case round =>
   obtain ⟨j, hj, rfl, GK⟩ := hrel
   obtain ⟨c0, c1⟩ := kC.out _ GK
   obtain ⟨j0, hSR⟩ := kJ.out _ GK
   by_cases hlj : j < rn
   case neg =>
    obtain rfl : j = rn := by omega
    go_wp2
    go_roundw
    case rel => exact ⟨k + 1, by omega, by go_num, GK⟩
    case measure => simp [intOf]; omega
   obtain ⟨bR, oR, hRb, x0⟩ := hSR.out j (by omega)
   subst hRb
   obtain ⟨x, hx⟩ : ∃ z, KG.getD j 0 = z := ⟨_, rfl⟩
   rw [hx] at x0
   have Tc : Hid (GM ys rows → vQ x) := aa (fun h => by rw [← hx]; exact (GJ.out h).2.2 j hlj)
   clear hx
   by_cases h9 : x < 1
   ·
    have d9 : decide (x < 1) = true := by simp [h9]
    go_wp2
    go_ret
    exact no.out _ GK (fun h => by have := (Tc.out h).1; omega)
   have d9 : decide (x < 1) = false := by simp; omega
   by_cases h10 : 2305843009213693952 ≤ x
   ·
    have d10 : decide (2305843009213693952 ≤ x) = true := by simp [h10]
    go_wp2
    go_ret
    exact no.out _ GK (fun h => by have := (Tc.out h).2; omega)
   have d10 : decide (2305843009213693952 ≤ x) = false := by simp; omega
   go_wp2
   go_roundw
   case rel => exact ⟨j + 1, by omega, by go_num, GK⟩
   case measure => simp [intOf]; omega
theorem dU.rel {w : World} {f : FT} (h : dU w f) : Sl w f.Y f.ys ∧ Rw w f.B f.rows := by
 cases f; rw [dU] at h; exact ⟨h.2.1, h.2.2.1⟩
theorem eD {p q : Prop} {w w0 u : World} (hw : Hid (Below w.heap.size w w0)) (h : Hid (Below w0.heap.size w0 u)) (h2 : ¬ p) : vR p q w (.returned (.bool false)) u := ⟨false, rfl, fun h3 => absurd h3 h2, fun h3 => absurd h3 (by decide), gN hw h⟩
theorem sO {p q : Prop} {w w0 u : World} (hw : Hid (Below w.heap.size w w0)) (h : Hid (Below w0.heap.size w0 u)) (h2 : q) : vR p q w (.returned (.bool true)) u := ⟨true, rfl, fun _ => rfl, fun _ => h2, gN hw h⟩
theorem pW : ∀ (d : Nat) (f : FT) (w : World), f.dp ≤ d → Hid (dU w f) → Calls Tryz.prog 44 #[fV f] w (vR f.fm f.sh w)
 | 0, f, _, h, _ => by have := f.dp_eq; omega
 | d + 1, f, w, hd, hF => by
  have HP := aa f.fm_eq
  have HS := aa f.sh_eq
  obtain ⟨p, hp⟩ : ∃ z, f.fm = z := ⟨_, rfl⟩
  obtain ⟨q, hq⟩ : ∃ z, f.sh = z := ⟨_, rfl⟩
  rw [hp] at HP ⊢
  rw [hq] at HS ⊢
  clear hp hq
  obtain ⟨kind, Y, yn, yc, ys, B, bn, bc, rows, L, ln, lc, l⟩ := f
  obtain ⟨hyn, hbn, hln, hlb⟩ := hF.out.lens
  dsimp only at hyn hbn hln hlb HP HS
  obtain ⟨w0, HW, av, kC⟩ := st1 (fO kind Y yn yc B bn bc L ln lc) qQ w
  have kF := sM av hF
  have aA := dS w0
  clear hF
  go_in
  go_upto_region 1 with (fail)
  rw [show w.alloc (fO kind Y yn yc B bn bc L ln lc) = w0 from HW.out]
  obtain ⟨c0, c1, c2, c3⟩ := kC.out _ aA
  by_cases hk1 : kind = 1
  ·
   have d1 : (kind == 1) = true := by simp [hk1]
   by_cases hl0 : ln = 0
   ·
    have d2 : ((ln : Int) == 0) = true := by simp [hl0]
    go_wp2_with fail
    refine (vK Y ys yn yc B rows bn bc (aa hyn) (aa hbn) _ (aa (kF.out _ aA).out.rel.1) (aa (kF.out _ aA).out.rel.2)).mono ?_
    rintro e w2 ⟨r, rfl, hr, _, hb2⟩
    have HB2 := cZ aA hb2
    clear c0 c1 c2 c3 hb2
    have hsh : q := HS.out.2 (.inl ⟨hk1, List.eq_nil_of_length_eq_zero (by omega)⟩)
    cases r with
    | true =>
     go_wp2
     go_ret
     exact sO av HB2 hsh
    | false =>
     go_wp2
     go_ret
     exact eD av HB2 (fun h => by
      rcases HP.out.1 h with ⟨_, _, h3⟩ | ⟨h3, _⟩
      · exact absurd (hr h3) (by simp)
      · omega)
   ·
    have d2 : ((ln : Int) == 0) = false := by simp; omega
    go_wp2
    go_ret
    exact eD av aA (fun h => by
      rcases HP.out.1 h with ⟨_, h3, _⟩ | ⟨h3, _⟩
      · subst h3; simp at hln; omega
      · omega)
  have d1 : (kind == 1) = false := by simp [hk1]
  by_cases hk2 : kind = 2 ∨ kind = 3
  case neg =>
   have d2 : (kind != 2) = true := by simp; omega
   have d3 : (kind != 3) = true := by simp; omega
   go_wp2
   go_ret
   exact eD av aA (fun h => by rcases HP.out.1 h with ⟨h3, _⟩ | ⟨h3, _⟩ <;> omega)
  have dd : (kind != 2) = false ∨ ((kind != 2) = true ∧ (kind != 3) = false) := by
   rcases hk2 with h | h
   · left; simp [h]
   · right; simp [h]
  rcases dd with d2 | ⟨d2, d3⟩
  all_goals
   by_cases hy0 : yn = 0
   case neg =>
    have d4 : decide ((0 : Int) < (yn : Int)) = true := by simp; omega
    go_wp2
    go_ret
    exact eD av aA (fun h => by
     rcases HP.out.1 h with ⟨h3, _⟩ | ⟨_, h3, _⟩
     · omega
     · subst h3; simp at hyn; omega)
   have d4 : decide ((0 : Int) < (yn : Int)) = false := by simp; omega
   by_cases hb0 : bn = 0
   case neg =>
    have d5 : decide ((0 : Int) < (bn : Int)) = true := by simp; omega
    go_wp2
    go_ret
    exact eD av aA (fun h => by
     rcases HP.out.1 h with ⟨h3, _⟩ | ⟨_, _, h3, _⟩
     · omega
     · subst h3; simp at hbn; omega)
   have d5 : decide ((0 : Int) < (bn : Int)) = false := by simp; omega
   by_cases hl1 : ln < 1
   ·
    have d6 : decide ((ln : Int) < 1) = true := by simp; omega
    go_wp2
    go_ret
    exact eD av aA (fun h => by rcases HP.out.1 h with ⟨h3, _⟩ | ⟨_, _, _, h3, _⟩ <;> omega)
   have d6 : decide ((ln : Int) < 1) = false := by simp; omega
   by_cases Ak : 8 < ln
   ·
    have d7 : decide ((8 : Int) < (ln : Int)) = true := by simp; omega
    go_wp2
    go_ret
    exact eD av aA (fun h => by rcases HP.out.1 h with ⟨h3, _⟩ | ⟨_, _, _, h3, _⟩ <;> omega)
   have d7 : decide ((8 : Int) < (ln : Int)) = false := by simp; omega
   go_wp2_with fail
   have HYE := aa (show ys = [] from List.eq_nil_of_length_eq_zero (by omega))
   have HRE := aa (show rows = [] from List.eq_nil_of_length_eq_zero (by omega))
   clear c0 c1 c2 c3 d1 d4 d5 d6 d7 hy0 hb0
   go_loopw [3] (fun vi wr => ∃ k : Nat, k ≤ ln ∧ vi = .int .i64 k ∧ Hid (∀ j, j < k → (l.getD j aY).sh) ∧ Hid (Below w0.heap.size w0 wr)) (fun vi _ => ln - (intOf vi).toNat)
   case atStart => exact ⟨0, by omega, rfl, aa (fun j hj => by omega), aA⟩
   case round =>
    obtain ⟨k, hk, rfl, HK, aF⟩ := hrel
    obtain ⟨c0, c1, c2, c3⟩ := kC.out _ aF
    by_cases hlt : k < ln
    case neg =>
     obtain rfl : k = ln := by omega
     have hq : q := HS.out.2 (.inr ⟨hk2, HYE.out, HRE.out, by omega, fun j hj => HK.out j (by omega)⟩)
     go_wp2
     go_ret
     exact sO av aF hq
    have hkl : k < l.length := by omega
    obtain ⟨b, o, hL, i0, i1, i2, i3, gV⟩ := (kF.out _ aF).out.kid (k := k) hlt
    dsimp only at hL i0 i1 i2 i3 gV
    subst hL
    have hno : ¬ (l.getD k aY).fm → ¬ p := fun h1 h2 => by
     rcases HP.out.1 h2 with ⟨h3, _⟩ | ⟨_, _, _, _, h3⟩
     · omega
     · exact h1 (h3 k hkl)
    have hye : (l.getD k aY).sh → ∀ j, j < k + 1 → (l.getD j aY).sh := fun h1 j hj => by
     by_cases e : j = k
     · subst e; exact h1
     · exact HK.out j (by omega)
    obtain ⟨x, hx⟩ : ∃ x, l.getD k aY = x := ⟨_, rfl⟩
    have hdp : x.dp ≤ d := by rw [← hx]; exact FT.kid_dp hd hkl
    rw [hx] at i0 i1 i2 i3 gV hno
    have Oi : Hid (x.sh → ∀ j, j < k + 1 → (l.getD j aY).sh) := aa (by rw [← hx]; exact hye)
    have HX := aa gV
    have fQ := aa (fun w2 h => pW d x w2 hdp h)
    have V9 := aa hno
    clear gV hx hkl hye hno hdp HK
    obtain ⟨xk, xY, jL, jM, xys, xB, jN, jO, fE, xL, jm, jo, xl⟩ := x
    dsimp only at i0 i1 i2 i3
    go_wp2_with fail
    refine (fQ.out _ HX).mono ?_
    rintro e w2 ⟨r, rfl, hr1, hr2, hb2⟩
    have HB2 := cZ aF hb2
    clear hb2 i0 i1 i2 i3 c0 c1 c2 c3
    cases r with
    | true =>
     have GG := aa (Oi.out (hr2 rfl))
     clear hr1 hr2
     go_wp2
     go_roundw
     case rel => exact ⟨k + 1, by omega, by go_num, GG, HB2⟩
     case measure => simp [intOf]; omega
    | false =>
     have hn := aa (V9.out (fun h => absurd (hr1 h) (by simp)))
     clear hr1 hr2
     go_wp2
     go_ret
     exact eD av HB2 hn.out
theorem VF.rel {P Q G : Int} {f : FT} (h : f.at_ P Q G) (hk : f.kind = 1) : aP P Q G f.ys f.rows = true := by
 rcases f.at_eq.1 h with ⟨_, h⟩ | ⟨h, _⟩
 · exact h
 · exact absurd hk h
theorem rG (P Q G : Int) (hQ : Q < 9223372036854775808) : ∀ (d : Nat) (f : FT) (w : World), f.dp ≤ d → Hid (dU w f) → Calls Tryz.prog 16 #[gv P Q G, fV f] w (vR (f.at_ P Q G) (f.at_ P Q G) w)
 | 0, f, _, h, _ => by have := f.dp_eq; omega
 | d + 1, f, w, hd, hF => by
  have HP := aa (f.at_eq (P := P) (Q := Q) (G := G))
  obtain ⟨p, hp⟩ : ∃ z, f.at_ P Q G = z := ⟨_, rfl⟩
  rw [hp] at HP ⊢
  clear hp
  obtain ⟨kind, Y, yn, yc, ys, B, bn, bc, rows, L, ln, lc, l⟩ := f
  obtain ⟨hyn, hbn, hln, hlb⟩ := hF.out.lens
  dsimp only at hyn hbn hln hlb HP
  obtain ⟨w0, HW, av, kC⟩ := st2 (aN P Q G) vw (fO kind Y yn yc B bn bc L ln lc) qQ w
  have kF := sM av hF
  have aA := dS w0
  clear hF
  go_in
  go_upto_region 1 with (fail)
  rw [show (w.alloc (aN P Q G)).alloc (fO kind Y yn yc B bn bc L ln lc) = w0 from HW.out]
  obtain ⟨g0, g1, g2, c0, c1, c2, c3⟩ := kC.out _ aA
  by_cases hk1 : kind = 1
  ·
   have d1 : (kind == 1) = true := by simp [hk1]
   obtain ⟨r, hr⟩ : ∃ z, aP P Q G ys rows = z := ⟨_, rfl⟩
   go_wp2_with fail
   refine (fo P Q G Y ys yn yc B rows bn bc r (aa hr) (aa hyn) (aa hbn) hQ _ (aa (kF.out _ aA).out.rel.1) (aa (kF.out _ aA).out.rel.2)).mono ?_
   rintro e w2 ⟨rfl, hb2⟩
   have HB2 := cZ aA hb2
   have HR := aa hr
   clear c0 c1 c2 c3 g0 g1 g2 hb2 hr
   go_wp2
   go_ret
   exact ⟨r, rfl, fun h => by
    rcases HP.out.1 h with ⟨_, h3⟩ | ⟨h3, _⟩
    · rw [← HR.out]; exact h3
    · omega, fun h => HP.out.2 (.inl ⟨hk1, by rw [HR.out]; exact h⟩), gN av HB2⟩
  have d1 : (kind == 1) = false := by simp [hk1]
  go_wp2_with fail
  clear c0 c1 c2 c3 g0 g1 g2 d1
  go_loopw [5] (fun vi wr => ∃ k : Nat, k ≤ ln ∧ vi = .int .i64 k ∧ Hid (∀ j, j < k → (l.getD j aY).at_ P Q G) ∧ Hid (Below w0.heap.size w0 wr)) (fun vi _ => ln - (intOf vi).toNat)
  case atStart => exact ⟨0, by omega, rfl, aa (fun j hj => by omega), aA⟩
  case round =>
   obtain ⟨k, hk, rfl, HK, aF⟩ := hrel
   obtain ⟨g0, g1, g2, c0, c1, c2, c3⟩ := kC.out _ aF
   by_cases hlt : k < ln
   case neg =>
    obtain rfl : k = ln := by omega
    have hq := aa (HP.out.2 (.inr ⟨hk1, fun j hj => HK.out j (by omega)⟩))
    go_wp2
    go_ret
    exact sO av aF hq.out
   have hkl : k < l.length := by omega
   obtain ⟨b, o, hL, i0, i1, i2, i3, gV⟩ := (kF.out _ aF).out.kid (k := k) hlt
   dsimp only at hL i0 i1 i2 i3 gV
   subst hL
   have hno : ¬ (l.getD k aY).at_ P Q G → ¬ p := fun h1 h2 => by
    rcases HP.out.1 h2 with ⟨h3, _⟩ | ⟨_, h3⟩
    · omega
    · exact h1 (h3 k hkl)
   have hye : (l.getD k aY).at_ P Q G → ∀ j, j < k + 1 → (l.getD j aY).at_ P Q G := fun h1 j hj => by
    by_cases e : j = k
    · subst e; exact h1
    · exact HK.out j (by omega)
   obtain ⟨x, hx⟩ : ∃ x, l.getD k aY = x := ⟨_, rfl⟩
   have hdp : x.dp ≤ d := by rw [← hx]; exact FT.kid_dp hd hkl
   rw [hx] at i0 i1 i2 i3 gV hno
   have Oi : Hid (x.at_ P Q G → ∀ j, j < k + 1 → (l.getD j aY).at_ P Q G) := aa (by rw [← hx]; exact hye)
   have HX := aa gV
   have fQ := aa (fun w2 h => rG P Q G hQ d x w2 hdp h)
   have V9 := aa hno
   clear gV hx hkl hye hno hdp HK
   obtain ⟨xk, xY, jL, jM, xys, xB, jN, jO, fE, xL, jm, jo, xl⟩ := x
   dsimp only at i0 i1 i2 i3
   go_wp2_with fail
   have hO := aa (fun (u : World) (hu : Hid (Below wr.heap.size wr u)) => And.intro (cell_below g0 hu.out) (And.intro (cell_below g1 hu.out) (And.intro (cell_below g2 hu.out) (And.intro (cell_below c0 hu.out) (And.intro (cell_below c1 hu.out) (And.intro (cell_below c2 hu.out) (And.intro (cell_below c3 hu.out) (And.intro (cell_below i0 hu.out) (And.intro (cell_below i1 hu.out) (And.intro (cell_below i2 hu.out) (cell_below i3 hu.out)))))))))))
   clear g0 g1 g2 c0 c1 c2 c3 i0 i1 i2 i3
   refine je [] (dS wr) (fun hHeld => ?_)
   refine aX 0 1 2 3 ?_
   refine aQ 4 ?_
   refine aQ 5 ?_
   refine dO 6 fun K hK => ?_
   go_simp
   refine (fQ.out _ (aa (dU.below hHeld.out HX.out))).mono ?_
   rintro e wA ⟨r, rfl, hr1, hr2, bA⟩
   refine hK.out _ _ (cZ hHeld bA) (fun hHeld => ?_)
   clear hK K
   refine aQ 7 ?_
   refine jf ?_
   clear hO
   have HB2 := nK aF hHeld
   clear hHeld
   cases r with
   | true =>
    have GG := aa (Oi.out (hr2 rfl))
    clear hr1 hr2
    go_wp2
    go_roundw
    case rel => exact ⟨k + 1, by omega, by go_num, GG, HB2⟩
    case measure => simp [intOf]; omega
   | false =>
    have hn := aa (V9.out (fun h => absurd (hr1 h) (by simp)))
    clear hr1 hr2
    go_wp2
    go_ret
    exact eD av HB2 hn.out
end Go.Proofs.YtbljkkpnpcgjfaaGreatDoor