/- The contract of the reference Extract. -/
import Derived.Test.YtohjfnhgibedpaaDoorKExt
namespace Go.Proofs.YtohjfnhgibedpaaDoor
open Go.RowKit SpM
set_option linter.unusedVariables false
set_option linter.unusedSimpArgs false

set_option maxRecDepth 100000 in
set_option maxHeartbeats 12800000 in
theorem rextract_any (P Q G b y : Int) (pa : Option Addr) (na ca : Nat) (a0 C0 : Int) (pz : Option Addr) (nz cz : Nat) (z0 : Int) (qa : Option Addr) (nb cb : Nat) (a1 C1 : Int) (qz : Option Addr) (nw cw : Nat) (z1 : Int) (v r : Int) (kp kq : Bool) (hkp : Hid (chkB P Q G b y na a0 C0 nz z0 = kp)) (hkq : Hid (chkB P Q G b y nb a1 C1 nw z1 = kq))
    (hr0 : Hid (extE P Q G b y kp kq a0 a1 C0 C1 = r)) (hv0 : Hid ((if r = 0 then extV Q C0 C1 z0 z1 else 0) = v)) (hQ : Q < 9223372036854775808) (w : World)
    (hA : Hid (One w pa na a0)) (hZ : Hid (One w pz nz z0)) (hB : Hid (One w qa nb a1)) (hC : Hid (One w qz nw z1)) :
    Calls Tryd.prog 36 #[gv P Q G, .int .i64 b, .int .i64 y, prv pa na ca C0 pz nz cz, prv qa nb cb C1 qz nw cw] w fun e' w' => e' = .returned (.tuple #[.int .i64 v, .int .i64 r]) ∧ Below w.heap.size w w' := by
  obtain ⟨w0, hW⟩ : ∃ W, ((w.alloc (gObj P Q G)).alloc (prObj pa na ca C0 pz nz cz)).alloc (prObj qa nb cb C1 qz nw cw) = W := ⟨_, rfl⟩
  have HB : Hid (Below w.heap.size w w0) := Lib.hid (by rw [← hW]; exact below_three)
  have HX0 : Hid (GBox w0 w.heap.size P Q G) := Lib.hid (by rw [← hW]; exact ((gbox_alloc w P Q G).below (below_box0 _ _)).below (below_box0 _ _))
  have HP0 : Hid (PBox w0 (w.heap.size + 1) (.slice pa na ca) (.int .i64 C0) (.slice pz nz cz)) := Lib.hid (by rw [← hW]; exact (pbox_alloc w _ _ _ _ _).below (below_box0 _ _))
  have HQ_0 : Hid (PBox w0 (w.heap.size + 2) (.slice qa nb cb) (.int .i64 C1) (.slice qz nw cw)) := Lib.hid (by rw [← hW]; exact pbox_alloc2 w _ _ _ _ _ _)
  have HA0 : Hid (One w0 pa na a0) := Lib.hid (hA.out.below HB.out)
  have HZ0 : Hid (One w0 pz nz z0) := Lib.hid (hZ.out.below HB.out)
  have HB_0 : Hid (One w0 qa nb a1) := Lib.hid (hB.out.below HB.out)
  have HC_0 : Hid (One w0 qz nw z1) := Lib.hid (hC.out.below HB.out)
  have HW := Lib.hid hW
  clear hW
  have hr' := hr0.out
  cases hval : validG P Q G with
  | false =>
    obtain rfl : r = 1 := by rw [← hr', extE, hval]; rfl
    obtain rfl : v = 0 := by rw [← hv0.out]; rfl
    have HVL : Hid (validG P Q G = false) := hval
    have HG : Hid (givE P Q G b y = 1) := Lib.hid (by rw [givE, hval]; rfl)
    clear hr' hr0 hv0 hval
    go_enter Tryd.func36, Tryd.ntmps36
    go_wp2_with fail
    rw [HW.out]
    go_wp2_with fail
    refine (given_any P Q G b y 1 HG hQ _).mono ?_
    rintro e w1 ⟨rfl, hb0⟩
    have hb1 := below_ext (HB.out) hb0
    clear hb0
    go_wp2
    go_ret2
    exact ⟨rfl, hb1⟩
  | true =>
    have HVL : Hid (validG P Q G = true) := hval
    obtain ⟨hp2, hp, hq3, hqp⟩ := validG_P hval
    cases hk : okB P Q b with
    | false =>
      obtain rfl : r = 2 := by rw [← hr', extE, hval, hk]; rfl
      obtain rfl : v = 0 := by rw [← hv0.out]; rfl
      have HK : Hid (okB P Q b = false) := hk
      have HG : Hid (givE P Q G b y = 2) := Lib.hid (by rw [givE, hval, hk]; rfl)
      clear hr' hr0 hv0 hval hk
      go_enter Tryd.func36, Tryd.ntmps36
      go_wp2_with fail
      rw [HW.out]
      go_wp2_with fail
      refine (given_any P Q G b y 2 HG hQ _).mono ?_
      rintro e w1 ⟨rfl, hb0⟩
      have hb1 := below_ext (HB.out) hb0
      clear hb0
      go_wp2
      go_ret2
      exact ⟨rfl, hb1⟩
    | true =>
      have HK : Hid (okB P Q b = true) := hk
      cases hm : memG P Q y with
      | false =>
        obtain rfl : r = 2 := by rw [← hr', extE, hval, hk, hm]; rfl
        obtain rfl : v = 0 := by rw [← hv0.out]; rfl
        have HM : Hid (memG P Q y = false) := hm
        have HG : Hid (givE P Q G b y = 2) := Lib.hid (by rw [givE, hval, hk, hm]; rfl)
        clear hr' hr0 hv0 hval hk hm
        go_enter Tryd.func36, Tryd.ntmps36
        go_wp2_with fail
        rw [HW.out]
        go_wp2_with fail
        refine (given_any P Q G b y 2 HG hQ _).mono ?_
        rintro e w1 ⟨rfl, hb0⟩
        have hb1 := below_ext (HB.out) hb0
        clear hb0
        go_wp2
        go_ret2
        exact ⟨rfl, hb1⟩
      | true =>
        have HM : Hid (memG P Q y = true) := hm
        have HG : Hid (givE P Q G b y = 0) := Lib.hid (by rw [givE, hval, hk, hm]; rfl)
        cases kp with
        | false =>
          obtain rfl : r = 11 := by rw [← hr', extE, hval, hk, hm]; rfl
          obtain rfl : v = 0 := by rw [← hv0.out]; rfl
          have Hp := Lib.hid hkp.out
          clear hr' hr0 hv0 hval hk hm
          go_enter Tryd.func36, Tryd.ntmps36
          go_wp2_with fail
          rw [HW.out]
          go_wp2_with fail
          refine (given_any P Q G b y 0 HG hQ _).mono ?_
          rintro e w1 ⟨rfl, hb0⟩
          have hb1 := below_ext (HB.out) hb0
          have HX1 := Lib.hid (HX0.out.below hb0)
          have HP1 := Lib.hid (HP0.out.below hb0)
          have HQ_1 := Lib.hid (HQ_0.out.below hb0)
          have HA1 := Lib.hid (HA0.out.below hb0)
          have HZ1 := Lib.hid (HZ0.out.below hb0)
          have HB_1 := Lib.hid (HB_0.out.below hb0)
          have HC_1 := Lib.hid (HC_0.out.below hb0)
          clear hb0
          obtain ⟨c0, c1, c2⟩ := HX1.out
          obtain ⟨d0, d1, d2⟩ := HP1.out
          obtain ⟨e0, e1, e2⟩ := HQ_1.out
          have hS := Lib.hid (show ∀ u1 u2 : World, Hid (Below w1.heap.size w1 u1) → Below u1.heap.size u1 u2 → (u2.cell? ⟨w.heap.size, 0, none⟩ = some (.int .i64 P) ∧ u2.cell? ⟨w.heap.size, 1, none⟩ = some (.int .i64 Q) ∧ u2.cell? ⟨w.heap.size, 2, none⟩ = some (.int .i64 G) ∧ u2.cell? ⟨w.heap.size + 1, 0, none⟩ = some (.slice pa na ca) ∧ u2.cell? ⟨w.heap.size + 1, 1, none⟩ = some (.int .i64 C0) ∧ u2.cell? ⟨w.heap.size + 1, 2, none⟩ = some (.slice pz nz cz) ∧ u2.cell? ⟨w.heap.size + 2, 0, none⟩ = some (.slice qa nb cb) ∧ u2.cell? ⟨w.heap.size + 2, 1, none⟩ = some (.int .i64 C1) ∧ u2.cell? ⟨w.heap.size + 2, 2, none⟩ = some (.slice qz nw cw) ∧ Hid (Below w1.heap.size w1 u2)) from fun u1 u2 h1 h2 => have h3 := below_ext h1.out h2; ⟨(HX1.out.below h3).1, (HX1.out.below h3).2.1, (HX1.out.below h3).2.2, (HP1.out.below h3).1, (HP1.out.below h3).2.1, (HP1.out.below h3).2.2, (HQ_1.out.below h3).1, (HQ_1.out.below h3).2.1, (HQ_1.out.below h3).2.2, Lib.hid h3⟩)
          have hR : Hid (Below w1.heap.size w1 w1) := Lib.hid (Below.refl _ _)
          have hOA := Lib.hid (show ∀ u1 : World, Hid (Below w1.heap.size w1 u1) → Hid (One u1 pa na a0) from fun u1 h1 => Lib.hid (HA1.out.below h1.out))
          have hOZ := Lib.hid (show ∀ u1 : World, Hid (Below w1.heap.size w1 u1) → Hid (One u1 pz nz z0) from fun u1 h1 => Lib.hid (HZ1.out.below h1.out))
          have hOB := Lib.hid (show ∀ u1 : World, Hid (Below w1.heap.size w1 u1) → Hid (One u1 qa nb a1) from fun u1 h1 => Lib.hid (HB_1.out.below h1.out))
          have hOC := Lib.hid (show ∀ u1 : World, Hid (Below w1.heap.size w1 u1) → Hid (One u1 qz nw z1) from fun u1 h1 => Lib.hid (HC_1.out.below h1.out))
          clear c0 c1 c2 d0 d1 d2 e0 e1 e2
          go_wp2_with fail
          refine wp_region_held_drew (S := fun w' => w'.cell? ⟨w.heap.size, 0, none⟩ = some (.int .i64 P) ∧ w'.cell? ⟨w.heap.size, 1, none⟩ = some (.int .i64 Q) ∧ w'.cell? ⟨w.heap.size, 2, none⟩ = some (.int .i64 G) ∧ w'.cell? ⟨w.heap.size + 1, 0, none⟩ = some (.slice pa na ca) ∧ w'.cell? ⟨w.heap.size + 1, 1, none⟩ = some (.int .i64 C0) ∧ w'.cell? ⟨w.heap.size + 1, 2, none⟩ = some (.slice pz nz cz) ∧ w'.cell? ⟨w.heap.size + 2, 0, none⟩ = some (.slice qa nb cb) ∧ w'.cell? ⟨w.heap.size + 2, 1, none⟩ = some (.int .i64 C1) ∧ w'.cell? ⟨w.heap.size + 2, 2, none⟩ = some (.slice qz nw cw) ∧ Hid (Below w1.heap.size w1 w')) (by kernel_rfl) (hS.out _ _ hR ((Below.refl w1.heap.size w1).drew)) (fun hHeld => ?_)
          refine wpAnyH_take (i := 0) (oi := _) (v := ?_) rfl (by kernel_rfl) (by kernel_rfl) (by kernel_rfl) (fun _ _ _ h => h) (Or.inl ⟨by rfl, ?_⟩) (by assumption) ?_
          rotate_left; (intro wS hSw; (try dsimp only at hSw); go_simp <;> with_reducible rfl)
          try simp only [List.getElem_toArray, List.getElem_cons_zero, List.getElem_cons_succ, Act.put, List.setIfInBounds_toArray, List.set_cons_zero, List.set_cons_succ]
          refine wpAnyH_take (i := 1) (oi := _) (v := ?_) rfl (by kernel_rfl) (by kernel_rfl) (by kernel_rfl) (fun _ _ _ h => h) (Or.inl ⟨by rfl, ?_⟩) (by assumption) ?_
          rotate_left; (intro wS hSw; (try dsimp only at hSw); go_simp <;> with_reducible rfl)
          try simp only [List.getElem_toArray, List.getElem_cons_zero, List.getElem_cons_succ, Act.put, List.setIfInBounds_toArray, List.set_cons_zero, List.set_cons_succ]
          refine wpAnyH_take (i := 2) (oi := _) (v := ?_) rfl (by kernel_rfl) (by kernel_rfl) (by kernel_rfl) (fun _ _ _ h => h) (Or.inl ⟨by rfl, ?_⟩) (by assumption) ?_
          rotate_left; (intro wS hSw; (try dsimp only at hSw); go_simp <;> with_reducible rfl)
          try simp only [List.getElem_toArray, List.getElem_cons_zero, List.getElem_cons_succ, Act.put, List.setIfInBounds_toArray, List.set_cons_zero, List.set_cons_succ]
          refine wpAnyH_take (i := 3) (oi := _) (v := ?_) rfl (by kernel_rfl) (by kernel_rfl) (by kernel_rfl) (fun _ _ _ h => h) (Or.inl ⟨by rfl, ?_⟩) (by assumption) ?_
          rotate_left; (intro wS hSw; (try dsimp only at hSw); go_simp <;> with_reducible rfl)
          try simp only [List.getElem_toArray, List.getElem_cons_zero, List.getElem_cons_succ, Act.put, List.setIfInBounds_toArray, List.set_cons_zero, List.set_cons_succ]
          refine wpAnyH_ready (rs := [4]) (by kernel_rfl) (by simp) ?_
          refine AllReadyH.cons rfl (fun K hK => ?_) AllReadyH.nil
          go_simp
          (refine (rcheck_any16 P Q G b y pa na ca a0 C0 pz nz cz z0 false Hp hQ _ ?_ ?_).mono ?_); (go_split_ands; exact hOA.out _ (by assumption)); (go_split_ands; exact hOZ.out _ (by assumption)); rintro e wA ⟨rfl, hbA⟩
          refine hK.out _ _ ?_ (fun hHeld => ?_)
          · (go_split_ands; exact hS.out _ _ (by assumption) hbA)
          clear hK K
          try simp only [List.getElem_toArray, List.getElem_cons_zero, List.getElem_cons_succ, Act.put, List.setIfInBounds_toArray, List.set_cons_zero, List.set_cons_succ]
          refine wpAnyH_take (i := 5) (oi := _) (v := ?_) rfl (by kernel_rfl) (by kernel_rfl) (by kernel_rfl) (fun _ _ _ h => h) (Or.inl ⟨by rfl, ?_⟩) (by assumption) ?_
          rotate_left; (intro wS hSw; (try dsimp only at hSw); go_simp <;> with_reducible rfl)
          try simp only [List.getElem_toArray, List.getElem_cons_zero, List.getElem_cons_succ, Act.put, List.setIfInBounds_toArray, List.set_cons_zero, List.set_cons_succ]
          refine wpAnyH_take (i := 6) (oi := _) (v := ?_) rfl (by kernel_rfl) (by kernel_rfl) (by kernel_rfl) (fun _ _ _ h => h) (Or.inl ⟨by rfl, ?_⟩) (by assumption) ?_
          rotate_left; (intro wS hSw; (try dsimp only at hSw); go_simp <;> with_reducible rfl)
          try simp only [List.getElem_toArray, List.getElem_cons_zero, List.getElem_cons_succ, Act.put, List.setIfInBounds_toArray, List.set_cons_zero, List.set_cons_succ]
          refine wpAnyH_take (i := 7) (oi := _) (v := undef) rfl (by kernel_rfl) (by kernel_rfl) (by kernel_rfl) (fun _ _ _ h => h) (Or.inr ⟨by rfl, rfl⟩) (by assumption) ?_
          try simp only [List.getElem_toArray, List.getElem_cons_zero, List.getElem_cons_succ, Act.put, List.setIfInBounds_toArray, List.set_cons_zero, List.set_cons_succ]
          refine wpAnyH_take (i := 8) (oi := _) (v := undef) rfl (by kernel_rfl) (by kernel_rfl) (by kernel_rfl) (fun _ _ _ h => h) (Or.inr ⟨by rfl, rfl⟩) (by assumption) ?_
          try simp only [List.getElem_toArray, List.getElem_cons_zero, List.getElem_cons_succ, Act.put, List.setIfInBounds_toArray, List.set_cons_zero, List.set_cons_succ]
          refine wpAnyH_take (i := 9) (oi := _) (v := undef) rfl (by kernel_rfl) (by kernel_rfl) (by kernel_rfl) (fun _ _ _ h => h) (Or.inr ⟨by rfl, rfl⟩) (by assumption) ?_
          try simp only [List.getElem_toArray, List.getElem_cons_zero, List.getElem_cons_succ, Act.put, List.setIfInBounds_toArray, List.set_cons_zero, List.set_cons_succ]
          refine wpAnyH_take (i := 10) (oi := _) (v := undef) rfl (by kernel_rfl) (by kernel_rfl) (by kernel_rfl) (fun _ _ _ h => h) (Or.inr ⟨by rfl, rfl⟩) (by assumption) ?_
          try simp only [List.getElem_toArray, List.getElem_cons_zero, List.getElem_cons_succ, Act.put, List.setIfInBounds_toArray, List.set_cons_zero, List.set_cons_succ]
          refine wpAnyH_take (i := 11) (oi := _) (v := undef) rfl (by kernel_rfl) (by kernel_rfl) (by kernel_rfl) (fun _ _ _ h => h) (Or.inr ⟨by rfl, rfl⟩) (by assumption) ?_
          try simp only [List.getElem_toArray, List.getElem_cons_zero, List.getElem_cons_succ, Act.put, List.setIfInBounds_toArray, List.set_cons_zero, List.set_cons_succ]
          refine wpAnyH_take (i := 12) (oi := _) (v := undef) rfl (by kernel_rfl) (by kernel_rfl) (by kernel_rfl) (fun _ _ _ h => h) (Or.inr ⟨by rfl, rfl⟩) (by assumption) ?_
          try simp only [List.getElem_toArray, List.getElem_cons_zero, List.getElem_cons_succ, Act.put, List.setIfInBounds_toArray, List.set_cons_zero, List.set_cons_succ]
          refine wpAnyH_take (i := 13) (oi := _) (v := ?_) rfl (by kernel_rfl) (by kernel_rfl) (by kernel_rfl) (fun _ _ _ h => h) (Or.inl ⟨by rfl, ?_⟩) (by assumption) ?_
          rotate_left; (intro wS hSw; (try dsimp only at hSw); go_simp <;> with_reducible rfl)
          try simp only [List.getElem_toArray, List.getElem_cons_zero, List.getElem_cons_succ, Act.put, List.setIfInBounds_toArray, List.set_cons_zero, List.set_cons_succ]
          refine wpAnyH_take (i := 14) (oi := _) (v := ?_) rfl (by kernel_rfl) (by kernel_rfl) (by kernel_rfl) (fun _ _ _ h => h) (Or.inl ⟨by rfl, ?_⟩) (by assumption) ?_
          rotate_left; (intro wS hSw; (try dsimp only at hSw); go_simp <;> with_reducible rfl)
          try simp only [List.getElem_toArray, List.getElem_cons_zero, List.getElem_cons_succ, Act.put, List.setIfInBounds_toArray, List.set_cons_zero, List.set_cons_succ]
          refine wpAnyH_take (i := 15) (oi := _) (v := undef) rfl (by kernel_rfl) (by kernel_rfl) (by kernel_rfl) (fun _ _ _ h => h) (Or.inr ⟨by rfl, rfl⟩) (by assumption) ?_
          try simp only [List.getElem_toArray, List.getElem_cons_zero, List.getElem_cons_succ, Act.put, List.setIfInBounds_toArray, List.set_cons_zero, List.set_cons_succ]
          refine wpAnyH_take (i := 16) (oi := _) (v := undef) rfl (by kernel_rfl) (by kernel_rfl) (by kernel_rfl) (fun _ _ _ h => h) (Or.inr ⟨by rfl, rfl⟩) (by assumption) ?_
          try simp only [List.getElem_toArray, List.getElem_cons_zero, List.getElem_cons_succ, Act.put, List.setIfInBounds_toArray, List.set_cons_zero, List.set_cons_succ]
          refine wpAnyH_take (i := 17) (oi := _) (v := undef) rfl (by kernel_rfl) (by kernel_rfl) (by kernel_rfl) (fun _ _ _ h => h) (Or.inr ⟨by rfl, rfl⟩) (by assumption) ?_
          try simp only [List.getElem_toArray, List.getElem_cons_zero, List.getElem_cons_succ, Act.put, List.setIfInBounds_toArray, List.set_cons_zero, List.set_cons_succ]
          refine wpAnyH_take (i := 18) (oi := _) (v := undef) rfl (by kernel_rfl) (by kernel_rfl) (by kernel_rfl) (fun _ _ _ h => h) (Or.inr ⟨by rfl, rfl⟩) (by assumption) ?_
          try simp only [List.getElem_toArray, List.getElem_cons_zero, List.getElem_cons_succ, Act.put, List.setIfInBounds_toArray, List.set_cons_zero, List.set_cons_succ]
          refine wpAnyH_take (i := 19) (oi := _) (v := undef) rfl (by kernel_rfl) (by kernel_rfl) (by kernel_rfl) (fun _ _ _ h => h) (Or.inr ⟨by rfl, rfl⟩) (by assumption) ?_
          try simp only [List.getElem_toArray, List.getElem_cons_zero, List.getElem_cons_succ, Act.put, List.setIfInBounds_toArray, List.set_cons_zero, List.set_cons_succ]
          refine wpAnyH_take (i := 20) (oi := _) (v := undef) rfl (by kernel_rfl) (by kernel_rfl) (by kernel_rfl) (fun _ _ _ h => h) (Or.inr ⟨by rfl, rfl⟩) (by assumption) ?_
          try simp only [List.getElem_toArray, List.getElem_cons_zero, List.getElem_cons_succ, Act.put, List.setIfInBounds_toArray, List.set_cons_zero, List.set_cons_succ]
          refine wpAnyH_take (i := 21) (oi := _) (v := undef) rfl (by kernel_rfl) (by kernel_rfl) (by kernel_rfl) (fun _ _ _ h => h) (Or.inr ⟨by rfl, rfl⟩) (by assumption) ?_
          try simp only [List.getElem_toArray, List.getElem_cons_zero, List.getElem_cons_succ, Act.put, List.setIfInBounds_toArray, List.set_cons_zero, List.set_cons_succ]
          refine wpAnyH_take (i := 22) (oi := _) (v := undef) rfl (by kernel_rfl) (by kernel_rfl) (by kernel_rfl) (fun _ _ _ h => h) (Or.inr ⟨by rfl, rfl⟩) (by assumption) ?_
          try simp only [List.getElem_toArray, List.getElem_cons_zero, List.getElem_cons_succ, Act.put, List.setIfInBounds_toArray, List.set_cons_zero, List.set_cons_succ]
          refine wpAnyH_take (i := 23) (oi := _) (v := undef) rfl (by kernel_rfl) (by kernel_rfl) (by kernel_rfl) (fun _ _ _ h => h) (Or.inr ⟨by rfl, rfl⟩) (by assumption) ?_
          try simp only [List.getElem_toArray, List.getElem_cons_zero, List.getElem_cons_succ, Act.put, List.setIfInBounds_toArray, List.set_cons_zero, List.set_cons_succ]
          refine wpAnyH_take (i := 24) (oi := _) (v := ?_) rfl (by kernel_rfl) (by kernel_rfl) (by kernel_rfl) (fun _ _ _ h => h) (Or.inl ⟨by rfl, ?_⟩) (by assumption) ?_
          rotate_left; (intro wS hSw; (try dsimp only at hSw); go_simp <;> with_reducible rfl)
          try simp only [List.getElem_toArray, List.getElem_cons_zero, List.getElem_cons_succ, Act.put, List.setIfInBounds_toArray, List.set_cons_zero, List.set_cons_succ]
          refine wpAnyH_done (by kernel_rfl) ?_ _
          obtain ⟨x0, x1, x2, x3, x4, x5, x6, x7, x8, HBA⟩ := hHeld
          have hbf := below_ext hb1 HBA.out
          go_wp2
          go_ret2
          exact ⟨rfl, hbf⟩
        | true =>
          have Hp := Lib.hid hkp.out
          cases kq with
          | false =>
            obtain rfl : r = 11 := by rw [← hr', extE, hval, hk, hm]; rfl
            obtain rfl : v = 0 := by rw [← hv0.out]; rfl
            have Hq := Lib.hid hkq.out
            clear hr' hr0 hv0 hval hk hm
            go_enter Tryd.func36, Tryd.ntmps36
            go_wp2_with fail
            rw [HW.out]
            go_wp2_with fail
            refine (given_any P Q G b y 0 HG hQ _).mono ?_
            rintro e w1 ⟨rfl, hb0⟩
            have hb1 := below_ext (HB.out) hb0
            have HX1 := Lib.hid (HX0.out.below hb0)
            have HP1 := Lib.hid (HP0.out.below hb0)
            have HQ_1 := Lib.hid (HQ_0.out.below hb0)
            have HA1 := Lib.hid (HA0.out.below hb0)
            have HZ1 := Lib.hid (HZ0.out.below hb0)
            have HB_1 := Lib.hid (HB_0.out.below hb0)
            have HC_1 := Lib.hid (HC_0.out.below hb0)
            clear hb0
            obtain ⟨c0, c1, c2⟩ := HX1.out
            obtain ⟨d0, d1, d2⟩ := HP1.out
            obtain ⟨e0, e1, e2⟩ := HQ_1.out
            have hS := Lib.hid (show ∀ u1 u2 : World, Hid (Below w1.heap.size w1 u1) → Below u1.heap.size u1 u2 → (u2.cell? ⟨w.heap.size, 0, none⟩ = some (.int .i64 P) ∧ u2.cell? ⟨w.heap.size, 1, none⟩ = some (.int .i64 Q) ∧ u2.cell? ⟨w.heap.size, 2, none⟩ = some (.int .i64 G) ∧ u2.cell? ⟨w.heap.size + 1, 0, none⟩ = some (.slice pa na ca) ∧ u2.cell? ⟨w.heap.size + 1, 1, none⟩ = some (.int .i64 C0) ∧ u2.cell? ⟨w.heap.size + 1, 2, none⟩ = some (.slice pz nz cz) ∧ u2.cell? ⟨w.heap.size + 2, 0, none⟩ = some (.slice qa nb cb) ∧ u2.cell? ⟨w.heap.size + 2, 1, none⟩ = some (.int .i64 C1) ∧ u2.cell? ⟨w.heap.size + 2, 2, none⟩ = some (.slice qz nw cw) ∧ Hid (Below w1.heap.size w1 u2)) from fun u1 u2 h1 h2 => have h3 := below_ext h1.out h2; ⟨(HX1.out.below h3).1, (HX1.out.below h3).2.1, (HX1.out.below h3).2.2, (HP1.out.below h3).1, (HP1.out.below h3).2.1, (HP1.out.below h3).2.2, (HQ_1.out.below h3).1, (HQ_1.out.below h3).2.1, (HQ_1.out.below h3).2.2, Lib.hid h3⟩)
            have hR : Hid (Below w1.heap.size w1 w1) := Lib.hid (Below.refl _ _)
            have hOA := Lib.hid (show ∀ u1 : World, Hid (Below w1.heap.size w1 u1) → Hid (One u1 pa na a0) from fun u1 h1 => Lib.hid (HA1.out.below h1.out))
            have hOZ := Lib.hid (show ∀ u1 : World, Hid (Below w1.heap.size w1 u1) → Hid (One u1 pz nz z0) from fun u1 h1 => Lib.hid (HZ1.out.below h1.out))
            have hOB := Lib.hid (show ∀ u1 : World, Hid (Below w1.heap.size w1 u1) → Hid (One u1 qa nb a1) from fun u1 h1 => Lib.hid (HB_1.out.below h1.out))
            have hOC := Lib.hid (show ∀ u1 : World, Hid (Below w1.heap.size w1 u1) → Hid (One u1 qz nw z1) from fun u1 h1 => Lib.hid (HC_1.out.below h1.out))
            clear c0 c1 c2 d0 d1 d2 e0 e1 e2
            go_wp2_with fail
            refine wp_region_held_drew (S := fun w' => w'.cell? ⟨w.heap.size, 0, none⟩ = some (.int .i64 P) ∧ w'.cell? ⟨w.heap.size, 1, none⟩ = some (.int .i64 Q) ∧ w'.cell? ⟨w.heap.size, 2, none⟩ = some (.int .i64 G) ∧ w'.cell? ⟨w.heap.size + 1, 0, none⟩ = some (.slice pa na ca) ∧ w'.cell? ⟨w.heap.size + 1, 1, none⟩ = some (.int .i64 C0) ∧ w'.cell? ⟨w.heap.size + 1, 2, none⟩ = some (.slice pz nz cz) ∧ w'.cell? ⟨w.heap.size + 2, 0, none⟩ = some (.slice qa nb cb) ∧ w'.cell? ⟨w.heap.size + 2, 1, none⟩ = some (.int .i64 C1) ∧ w'.cell? ⟨w.heap.size + 2, 2, none⟩ = some (.slice qz nw cw) ∧ Hid (Below w1.heap.size w1 w')) (by kernel_rfl) (hS.out _ _ hR ((Below.refl w1.heap.size w1).drew)) (fun hHeld => ?_)
            refine wpAnyH_take (i := 0) (oi := _) (v := ?_) rfl (by kernel_rfl) (by kernel_rfl) (by kernel_rfl) (fun _ _ _ h => h) (Or.inl ⟨by rfl, ?_⟩) (by assumption) ?_
            rotate_left; (intro wS hSw; (try dsimp only at hSw); go_simp <;> with_reducible rfl)
            try simp only [List.getElem_toArray, List.getElem_cons_zero, List.getElem_cons_succ, Act.put, List.setIfInBounds_toArray, List.set_cons_zero, List.set_cons_succ]
            refine wpAnyH_take (i := 1) (oi := _) (v := ?_) rfl (by kernel_rfl) (by kernel_rfl) (by kernel_rfl) (fun _ _ _ h => h) (Or.inl ⟨by rfl, ?_⟩) (by assumption) ?_
            rotate_left; (intro wS hSw; (try dsimp only at hSw); go_simp <;> with_reducible rfl)
            try simp only [List.getElem_toArray, List.getElem_cons_zero, List.getElem_cons_succ, Act.put, List.setIfInBounds_toArray, List.set_cons_zero, List.set_cons_succ]
            refine wpAnyH_take (i := 2) (oi := _) (v := ?_) rfl (by kernel_rfl) (by kernel_rfl) (by kernel_rfl) (fun _ _ _ h => h) (Or.inl ⟨by rfl, ?_⟩) (by assumption) ?_
            rotate_left; (intro wS hSw; (try dsimp only at hSw); go_simp <;> with_reducible rfl)
            try simp only [List.getElem_toArray, List.getElem_cons_zero, List.getElem_cons_succ, Act.put, List.setIfInBounds_toArray, List.set_cons_zero, List.set_cons_succ]
            refine wpAnyH_take (i := 3) (oi := _) (v := ?_) rfl (by kernel_rfl) (by kernel_rfl) (by kernel_rfl) (fun _ _ _ h => h) (Or.inl ⟨by rfl, ?_⟩) (by assumption) ?_
            rotate_left; (intro wS hSw; (try dsimp only at hSw); go_simp <;> with_reducible rfl)
            try simp only [List.getElem_toArray, List.getElem_cons_zero, List.getElem_cons_succ, Act.put, List.setIfInBounds_toArray, List.set_cons_zero, List.set_cons_succ]
            refine wpAnyH_ready (rs := [4]) (by kernel_rfl) (by simp) ?_
            refine AllReadyH.cons rfl (fun K hK => ?_) AllReadyH.nil
            go_simp
            (refine (rcheck_any16 P Q G b y pa na ca a0 C0 pz nz cz z0 true Hp hQ _ ?_ ?_).mono ?_); (go_split_ands; exact hOA.out _ (by assumption)); (go_split_ands; exact hOZ.out _ (by assumption)); rintro e wA ⟨rfl, hbA⟩
            refine hK.out _ _ ?_ (fun hHeld => ?_)
            · (go_split_ands; exact hS.out _ _ (by assumption) hbA)
            clear hK K
            try simp only [List.getElem_toArray, List.getElem_cons_zero, List.getElem_cons_succ, Act.put, List.setIfInBounds_toArray, List.set_cons_zero, List.set_cons_succ]
            refine wpAnyH_take (i := 5) (oi := _) (v := ?_) rfl (by kernel_rfl) (by kernel_rfl) (by kernel_rfl) (fun _ _ _ h => h) (Or.inl ⟨by rfl, ?_⟩) (by assumption) ?_
            rotate_left; (intro wS hSw; (try dsimp only at hSw); go_simp <;> with_reducible rfl)
            try simp only [List.getElem_toArray, List.getElem_cons_zero, List.getElem_cons_succ, Act.put, List.setIfInBounds_toArray, List.set_cons_zero, List.set_cons_succ]
            refine wpAnyH_take (i := 6) (oi := _) (v := ?_) rfl (by kernel_rfl) (by kernel_rfl) (by kernel_rfl) (fun _ _ _ h => h) (Or.inl ⟨by rfl, ?_⟩) (by assumption) ?_
            rotate_left; (intro wS hSw; (try dsimp only at hSw); go_simp <;> with_reducible rfl)
            try simp only [List.getElem_toArray, List.getElem_cons_zero, List.getElem_cons_succ, Act.put, List.setIfInBounds_toArray, List.set_cons_zero, List.set_cons_succ]
            refine wpAnyH_take (i := 7) (oi := _) (v := ?_) rfl (by kernel_rfl) (by kernel_rfl) (by kernel_rfl) (fun _ _ _ h => h) (Or.inl ⟨by rfl, ?_⟩) (by assumption) ?_
            rotate_left; (intro wS hSw; (try dsimp only at hSw); go_simp <;> with_reducible rfl)
            try simp only [List.getElem_toArray, List.getElem_cons_zero, List.getElem_cons_succ, Act.put, List.setIfInBounds_toArray, List.set_cons_zero, List.set_cons_succ]
            refine wpAnyH_take (i := 8) (oi := _) (v := ?_) rfl (by kernel_rfl) (by kernel_rfl) (by kernel_rfl) (fun _ _ _ h => h) (Or.inl ⟨by rfl, ?_⟩) (by assumption) ?_
            rotate_left; (intro wS hSw; (try dsimp only at hSw); go_simp <;> with_reducible rfl)
            try simp only [List.getElem_toArray, List.getElem_cons_zero, List.getElem_cons_succ, Act.put, List.setIfInBounds_toArray, List.set_cons_zero, List.set_cons_succ]
            refine wpAnyH_take (i := 9) (oi := _) (v := ?_) rfl (by kernel_rfl) (by kernel_rfl) (by kernel_rfl) (fun _ _ _ h => h) (Or.inl ⟨by rfl, ?_⟩) (by assumption) ?_
            rotate_left; (intro wS hSw; (try dsimp only at hSw); go_simp <;> with_reducible rfl)
            try simp only [List.getElem_toArray, List.getElem_cons_zero, List.getElem_cons_succ, Act.put, List.setIfInBounds_toArray, List.set_cons_zero, List.set_cons_succ]
            refine wpAnyH_take (i := 10) (oi := _) (v := ?_) rfl (by kernel_rfl) (by kernel_rfl) (by kernel_rfl) (fun _ _ _ h => h) (Or.inl ⟨by rfl, ?_⟩) (by assumption) ?_
            rotate_left; (intro wS hSw; (try dsimp only at hSw); go_simp <;> with_reducible rfl)
            try simp only [List.getElem_toArray, List.getElem_cons_zero, List.getElem_cons_succ, Act.put, List.setIfInBounds_toArray, List.set_cons_zero, List.set_cons_succ]
            refine wpAnyH_ready (rs := [11]) (by kernel_rfl) (by simp) ?_
            refine AllReadyH.cons rfl (fun K hK => ?_) AllReadyH.nil
            go_simp
            (refine (rcheck_any16 P Q G b y qa nb cb a1 C1 qz nw cw z1 false Hq hQ _ ?_ ?_).mono ?_); (go_split_ands; exact hOB.out _ (by assumption)); (go_split_ands; exact hOC.out _ (by assumption)); rintro e wA ⟨rfl, hbA⟩
            refine hK.out _ _ ?_ (fun hHeld => ?_)
            · (go_split_ands; exact hS.out _ _ (by assumption) hbA)
            clear hK K
            try simp only [List.getElem_toArray, List.getElem_cons_zero, List.getElem_cons_succ, Act.put, List.setIfInBounds_toArray, List.set_cons_zero, List.set_cons_succ]
            refine wpAnyH_take (i := 12) (oi := _) (v := ?_) rfl (by kernel_rfl) (by kernel_rfl) (by kernel_rfl) (fun _ _ _ h => h) (Or.inl ⟨by rfl, ?_⟩) (by assumption) ?_
            rotate_left; (intro wS hSw; (try dsimp only at hSw); go_simp <;> with_reducible rfl)
            try simp only [List.getElem_toArray, List.getElem_cons_zero, List.getElem_cons_succ, Act.put, List.setIfInBounds_toArray, List.set_cons_zero, List.set_cons_succ]
            refine wpAnyH_take (i := 13) (oi := _) (v := ?_) rfl (by kernel_rfl) (by kernel_rfl) (by kernel_rfl) (fun _ _ _ h => h) (Or.inl ⟨by rfl, ?_⟩) (by assumption) ?_
            rotate_left; (intro wS hSw; (try dsimp only at hSw); go_simp <;> with_reducible rfl)
            try simp only [List.getElem_toArray, List.getElem_cons_zero, List.getElem_cons_succ, Act.put, List.setIfInBounds_toArray, List.set_cons_zero, List.set_cons_succ]
            refine wpAnyH_take (i := 14) (oi := _) (v := ?_) rfl (by kernel_rfl) (by kernel_rfl) (by kernel_rfl) (fun _ _ _ h => h) (Or.inl ⟨by rfl, ?_⟩) (by assumption) ?_
            rotate_left; (intro wS hSw; (try dsimp only at hSw); go_simp <;> with_reducible rfl)
            try simp only [List.getElem_toArray, List.getElem_cons_zero, List.getElem_cons_succ, Act.put, List.setIfInBounds_toArray, List.set_cons_zero, List.set_cons_succ]
            refine wpAnyH_take (i := 15) (oi := _) (v := undef) rfl (by kernel_rfl) (by kernel_rfl) (by kernel_rfl) (fun _ _ _ h => h) (Or.inr ⟨by rfl, rfl⟩) (by assumption) ?_
            try simp only [List.getElem_toArray, List.getElem_cons_zero, List.getElem_cons_succ, Act.put, List.setIfInBounds_toArray, List.set_cons_zero, List.set_cons_succ]
            refine wpAnyH_take (i := 16) (oi := _) (v := undef) rfl (by kernel_rfl) (by kernel_rfl) (by kernel_rfl) (fun _ _ _ h => h) (Or.inr ⟨by rfl, rfl⟩) (by assumption) ?_
            try simp only [List.getElem_toArray, List.getElem_cons_zero, List.getElem_cons_succ, Act.put, List.setIfInBounds_toArray, List.set_cons_zero, List.set_cons_succ]
            refine wpAnyH_take (i := 17) (oi := _) (v := undef) rfl (by kernel_rfl) (by kernel_rfl) (by kernel_rfl) (fun _ _ _ h => h) (Or.inr ⟨by rfl, rfl⟩) (by assumption) ?_
            try simp only [List.getElem_toArray, List.getElem_cons_zero, List.getElem_cons_succ, Act.put, List.setIfInBounds_toArray, List.set_cons_zero, List.set_cons_succ]
            refine wpAnyH_take (i := 18) (oi := _) (v := undef) rfl (by kernel_rfl) (by kernel_rfl) (by kernel_rfl) (fun _ _ _ h => h) (Or.inr ⟨by rfl, rfl⟩) (by assumption) ?_
            try simp only [List.getElem_toArray, List.getElem_cons_zero, List.getElem_cons_succ, Act.put, List.setIfInBounds_toArray, List.set_cons_zero, List.set_cons_succ]
            refine wpAnyH_take (i := 19) (oi := _) (v := undef) rfl (by kernel_rfl) (by kernel_rfl) (by kernel_rfl) (fun _ _ _ h => h) (Or.inr ⟨by rfl, rfl⟩) (by assumption) ?_
            try simp only [List.getElem_toArray, List.getElem_cons_zero, List.getElem_cons_succ, Act.put, List.setIfInBounds_toArray, List.set_cons_zero, List.set_cons_succ]
            refine wpAnyH_take (i := 20) (oi := _) (v := undef) rfl (by kernel_rfl) (by kernel_rfl) (by kernel_rfl) (fun _ _ _ h => h) (Or.inr ⟨by rfl, rfl⟩) (by assumption) ?_
            try simp only [List.getElem_toArray, List.getElem_cons_zero, List.getElem_cons_succ, Act.put, List.setIfInBounds_toArray, List.set_cons_zero, List.set_cons_succ]
            refine wpAnyH_take (i := 21) (oi := _) (v := undef) rfl (by kernel_rfl) (by kernel_rfl) (by kernel_rfl) (fun _ _ _ h => h) (Or.inr ⟨by rfl, rfl⟩) (by assumption) ?_
            try simp only [List.getElem_toArray, List.getElem_cons_zero, List.getElem_cons_succ, Act.put, List.setIfInBounds_toArray, List.set_cons_zero, List.set_cons_succ]
            refine wpAnyH_take (i := 22) (oi := _) (v := undef) rfl (by kernel_rfl) (by kernel_rfl) (by kernel_rfl) (fun _ _ _ h => h) (Or.inr ⟨by rfl, rfl⟩) (by assumption) ?_
            try simp only [List.getElem_toArray, List.getElem_cons_zero, List.getElem_cons_succ, Act.put, List.setIfInBounds_toArray, List.set_cons_zero, List.set_cons_succ]
            refine wpAnyH_take (i := 23) (oi := _) (v := undef) rfl (by kernel_rfl) (by kernel_rfl) (by kernel_rfl) (fun _ _ _ h => h) (Or.inr ⟨by rfl, rfl⟩) (by assumption) ?_
            try simp only [List.getElem_toArray, List.getElem_cons_zero, List.getElem_cons_succ, Act.put, List.setIfInBounds_toArray, List.set_cons_zero, List.set_cons_succ]
            refine wpAnyH_take (i := 24) (oi := _) (v := ?_) rfl (by kernel_rfl) (by kernel_rfl) (by kernel_rfl) (fun _ _ _ h => h) (Or.inl ⟨by rfl, ?_⟩) (by assumption) ?_
            rotate_left; (intro wS hSw; (try dsimp only at hSw); go_simp <;> with_reducible rfl)
            try simp only [List.getElem_toArray, List.getElem_cons_zero, List.getElem_cons_succ, Act.put, List.setIfInBounds_toArray, List.set_cons_zero, List.set_cons_succ]
            refine wpAnyH_done (by kernel_rfl) ?_ _
            obtain ⟨x0, x1, x2, x3, x4, x5, x6, x7, x8, HBA⟩ := hHeld
            have hbf := below_ext hb1 HBA.out
            go_wp2
            go_ret2
            exact ⟨rfl, hbf⟩
          | true =>
            have Hq := Lib.hid hkq.out
            obtain ⟨rfl, rfl, hma, hC0, hZ0⟩ := formB_parts (chkB_formB Hp.out)
            obtain ⟨rfl, rfl, hmb, hC1, hZ1⟩ := formB_parts (chkB_formB Hq.out)
            obtain ⟨ba, oa, rfl, hca⟩ := hA.out rfl
            obtain ⟨bz, oz, rfl, hcz⟩ := hZ.out rfl
            obtain ⟨bb, ob, rfl, hcb⟩ := hB.out rfl
            obtain ⟨bw, ow, rfl, hcw⟩ := hC.out rfl
            have HCA := Lib.hid hca
            have HCZ := Lib.hid hcz
            have HCB := Lib.hid hcb
            have HCW := Lib.hid hcw
            have l1 := expB_lo hC0
            have u1 := expB_hi hC0
            have l2 := expB_lo hC1
            have u2 := expB_hi hC1
            have l3 := expB_lo hZ0
            have u3 := expB_hi hZ0
            have l4 := expB_lo hZ1
            have u4 := expB_hi hZ1
            clear hca hcz hcb hcw hma hmb hC0 hC1 hZ0 hZ1
            by_cases hae : a0 = a1
            · by_cases hce : C0 = C1
              · obtain rfl : r = 20 := by rw [← hr', extE, hval, hk, hm]; simp [hae, hce]
                obtain rfl : v = 0 := by rw [← hv0.out]; rfl
                have hcb : ((C0 : Int) == C1) = true := by simp [hce]
                clear hr' hr0 hv0 hval hk hm hce
                go_enter Tryd.func36, Tryd.ntmps36
                go_wp2_with fail
                rw [HW.out]
                go_wp2_with fail
                refine (given_any P Q G b y 0 HG hQ _).mono ?_
                rintro e w1 ⟨rfl, hb0⟩
                have hb1 := below_ext (HB.out) hb0
                have HX1 := Lib.hid (HX0.out.below hb0)
                have HP1 := Lib.hid (HP0.out.below hb0)
                have HQ_1 := Lib.hid (HQ_0.out.below hb0)
                have HA1 := Lib.hid (HA0.out.below hb0)
                have HZ1 := Lib.hid (HZ0.out.below hb0)
                have HB_1 := Lib.hid (HB_0.out.below hb0)
                have HC_1 := Lib.hid (HC_0.out.below hb0)
                clear hb0
                obtain ⟨c0, c1, c2⟩ := HX1.out
                obtain ⟨d0, d1, d2⟩ := HP1.out
                obtain ⟨e0, e1, e2⟩ := HQ_1.out
                clear c0 c1 c2 d0 d1 d2 e0 e1 e2
                have HAa := Lib.hid (cell_below HCA.out hb1)
                have HBb := Lib.hid (cell_below HCB.out hb1)
                have hS := Lib.hid (show ∀ u1 u2 : World, Hid (Below w1.heap.size w1 u1) → Below u1.heap.size u1 u2 → (u2.cell? ⟨w.heap.size, 0, none⟩ = some (.int .i64 P) ∧ u2.cell? ⟨w.heap.size, 1, none⟩ = some (.int .i64 Q) ∧ u2.cell? ⟨w.heap.size, 2, none⟩ = some (.int .i64 G) ∧ u2.cell? ⟨w.heap.size + 1, 0, none⟩ = some (.slice (some ⟨ba, oa, none⟩) 1 ca) ∧ u2.cell? ⟨w.heap.size + 1, 1, none⟩ = some (.int .i64 C0) ∧ u2.cell? ⟨w.heap.size + 1, 2, none⟩ = some (.slice (some ⟨bz, oz, none⟩) 1 cz) ∧ u2.cell? ⟨w.heap.size + 2, 0, none⟩ = some (.slice (some ⟨bb, ob, none⟩) 1 cb) ∧ u2.cell? ⟨w.heap.size + 2, 1, none⟩ = some (.int .i64 C1) ∧ u2.cell? ⟨w.heap.size + 2, 2, none⟩ = some (.slice (some ⟨bw, ow, none⟩) 1 cw) ∧ u2.cell? ⟨ba, oa, none⟩ = some (.int .i64 a0) ∧ u2.cell? ⟨bb, ob, none⟩ = some (.int .i64 a1) ∧ Hid (Below w1.heap.size w1 u2)) from fun u1 u2 h1 h2 => have h3 := below_ext h1.out h2; ⟨(HX1.out.below h3).1, (HX1.out.below h3).2.1, (HX1.out.below h3).2.2, (HP1.out.below h3).1, (HP1.out.below h3).2.1, (HP1.out.below h3).2.2, (HQ_1.out.below h3).1, (HQ_1.out.below h3).2.1, (HQ_1.out.below h3).2.2, cell_below HAa.out h3, cell_below HBb.out h3, Lib.hid h3⟩)
                have hR : Hid (Below w1.heap.size w1 w1) := Lib.hid (Below.refl _ _)
                have hOA := Lib.hid (show ∀ u1 : World, Hid (Below w1.heap.size w1 u1) → Hid (One u1 (some ⟨ba, oa, none⟩) 1 a0) from fun u1 h1 => Lib.hid (HA1.out.below h1.out))
                have hOZ := Lib.hid (show ∀ u1 : World, Hid (Below w1.heap.size w1 u1) → Hid (One u1 (some ⟨bz, oz, none⟩) 1 z0) from fun u1 h1 => Lib.hid (HZ1.out.below h1.out))
                have hOB := Lib.hid (show ∀ u1 : World, Hid (Below w1.heap.size w1 u1) → Hid (One u1 (some ⟨bb, ob, none⟩) 1 a1) from fun u1 h1 => Lib.hid (HB_1.out.below h1.out))
                have hOC := Lib.hid (show ∀ u1 : World, Hid (Below w1.heap.size w1 u1) → Hid (One u1 (some ⟨bw, ow, none⟩) 1 z1) from fun u1 h1 => Lib.hid (HC_1.out.below h1.out))
                have hne : ((a0 : Int) != a1) = false := by simp [hae]
                clear hae
                go_wp2_with fail
                go_region_held3 (fun w' => w'.cell? ⟨w.heap.size, 0, none⟩ = some (.int .i64 P) ∧ w'.cell? ⟨w.heap.size, 1, none⟩ = some (.int .i64 Q) ∧ w'.cell? ⟨w.heap.size, 2, none⟩ = some (.int .i64 G) ∧ w'.cell? ⟨w.heap.size + 1, 0, none⟩ = some (.slice (some ⟨ba, oa, none⟩) 1 ca) ∧ w'.cell? ⟨w.heap.size + 1, 1, none⟩ = some (.int .i64 C0) ∧ w'.cell? ⟨w.heap.size + 1, 2, none⟩ = some (.slice (some ⟨bz, oz, none⟩) 1 cz) ∧ w'.cell? ⟨w.heap.size + 2, 0, none⟩ = some (.slice (some ⟨bb, ob, none⟩) 1 cb) ∧ w'.cell? ⟨w.heap.size + 2, 1, none⟩ = some (.int .i64 C1) ∧ w'.cell? ⟨w.heap.size + 2, 2, none⟩ = some (.slice (some ⟨bw, ow, none⟩) 1 cw) ∧ w'.cell? ⟨ba, oa, none⟩ = some (.int .i64 a0) ∧ w'.cell? ⟨bb, ob, none⟩ = some (.int .i64 a1) ∧ Hid (Below w1.heap.size w1 w'))
                  (first | exact hS.out _ _ hR ((Below.refl w1.heap.size w1).drew) | (go_split_ands; exact hS.out _ _ (by assumption) hbA) | go_keep)
                  (first
                    | (go_at_call 73; (with_reducible refine (rcheck_any16 P Q G b y (some ⟨ba, oa, none⟩) 1 ca a0 C0 (some ⟨bz, oz, none⟩) 1 cz z0 true Hp hQ _ ?_ ?_).mono ?_); (go_split_ands; exact hOA.out _ (by assumption)); (go_split_ands; exact hOZ.out _ (by assumption)); rintro e wA ⟨rfl, hbA⟩)
                    | (go_at_call 73; (with_reducible refine (rcheck_any16 P Q G b y (some ⟨bb, ob, none⟩) 1 cb a1 C1 (some ⟨bw, ow, none⟩) 1 cw z1 true Hq hQ _ ?_ ?_).mono ?_); (go_split_ands; exact hOB.out _ (by assumption)); (go_split_ands; exact hOC.out _ (by assumption)); rintro e wA ⟨rfl, hbA⟩))
                rename_i hHeld
                obtain ⟨x0, x1, x2, x3, x4, x5, x6, x7, x8, x9, x10, hbQ⟩ := hHeld
                have hb2 := below_ext hb1 hbQ.out
                have HX2 := Lib.hid (HX1.out.below hbQ.out)
                have HP2 := Lib.hid (HP1.out.below hbQ.out)
                have HQ_2 := Lib.hid (HQ_1.out.below hbQ.out)
                clear x0 x1 x2 x3 x4 x5 x6 x7 x8 x9 x10
                obtain ⟨c0, c1, c2⟩ := HX2.out
                obtain ⟨d0, d1, d2⟩ := HP2.out
                obtain ⟨e0, e1, e2⟩ := HQ_2.out
                go_wp2
                go_ret2
                exact ⟨rfl, hb2⟩
              · obtain rfl : r = 0 := by rw [← hr', extE, hval, hk, hm]; simp [hae, hce]
                have hcb : ((C0 : Int) == C1) = false := by simp [hce]
                obtain ⟨t, ht⟩ : ∃ t, (z0 - z1) % Q = t := ⟨_, rfl⟩
                obtain ⟨c, hc⟩ : ∃ c, (C0 - C1) % Q = c := ⟨_, rfl⟩
                obtain ⟨i, hi⟩ : ∃ i, invOf c Q = i := ⟨_, rfl⟩
                have hvv : t * i % Q = v := by rw [← hv0.out, if_pos rfl, extV, ht, hc, hi]
                have t0 : 0 ≤ t := by rw [← ht]; exact Int.emod_nonneg _ (by omega)
                have t1 : t < Q := by rw [← ht]; exact Int.emod_lt_of_pos _ (by omega)
                have k0 : 0 ≤ c := by rw [← hc]; exact Int.emod_nonneg _ (by omega)
                have k1 : c < Q := by rw [← hc]; exact Int.emod_lt_of_pos _ (by omega)
                have HT : Hid ((z0 - z1 + Q) % Q = t) := Lib.hid (by rw [Int.add_emod_right, ht])
                have HCc : Hid ((C0 - C1 + Q) % Q = c) := Lib.hid (by rw [Int.add_emod_right, hc])
                have HT2 := Lib.hid ht
                have HC2 := Lib.hid hc
                have HI := Lib.hid hi
                have HVV := Lib.hid hvv
                clear ht hc hi hvv hr' hr0 hv0 hval hk hm hce
                go_enter Tryd.func36, Tryd.ntmps36
                go_wp2_with fail
                rw [HW.out]
                go_wp2_with fail
                refine (given_any P Q G b y 0 HG hQ _).mono ?_
                rintro e w1 ⟨rfl, hb0⟩
                have hb1 := below_ext (HB.out) hb0
                have HX1 := Lib.hid (HX0.out.below hb0)
                have HP1 := Lib.hid (HP0.out.below hb0)
                have HQ_1 := Lib.hid (HQ_0.out.below hb0)
                have HA1 := Lib.hid (HA0.out.below hb0)
                have HZ1 := Lib.hid (HZ0.out.below hb0)
                have HB_1 := Lib.hid (HB_0.out.below hb0)
                have HC_1 := Lib.hid (HC_0.out.below hb0)
                clear hb0
                obtain ⟨c0, c1, c2⟩ := HX1.out
                obtain ⟨d0, d1, d2⟩ := HP1.out
                obtain ⟨e0, e1, e2⟩ := HQ_1.out
                clear c0 c1 c2 d0 d1 d2 e0 e1 e2
                have HAa := Lib.hid (cell_below HCA.out hb1)
                have HBb := Lib.hid (cell_below HCB.out hb1)
                have hS := Lib.hid (show ∀ u1 u2 : World, Hid (Below w1.heap.size w1 u1) → Below u1.heap.size u1 u2 → (u2.cell? ⟨w.heap.size, 0, none⟩ = some (.int .i64 P) ∧ u2.cell? ⟨w.heap.size, 1, none⟩ = some (.int .i64 Q) ∧ u2.cell? ⟨w.heap.size, 2, none⟩ = some (.int .i64 G) ∧ u2.cell? ⟨w.heap.size + 1, 0, none⟩ = some (.slice (some ⟨ba, oa, none⟩) 1 ca) ∧ u2.cell? ⟨w.heap.size + 1, 1, none⟩ = some (.int .i64 C0) ∧ u2.cell? ⟨w.heap.size + 1, 2, none⟩ = some (.slice (some ⟨bz, oz, none⟩) 1 cz) ∧ u2.cell? ⟨w.heap.size + 2, 0, none⟩ = some (.slice (some ⟨bb, ob, none⟩) 1 cb) ∧ u2.cell? ⟨w.heap.size + 2, 1, none⟩ = some (.int .i64 C1) ∧ u2.cell? ⟨w.heap.size + 2, 2, none⟩ = some (.slice (some ⟨bw, ow, none⟩) 1 cw) ∧ u2.cell? ⟨ba, oa, none⟩ = some (.int .i64 a0) ∧ u2.cell? ⟨bb, ob, none⟩ = some (.int .i64 a1) ∧ Hid (Below w1.heap.size w1 u2)) from fun u1 u2 h1 h2 => have h3 := below_ext h1.out h2; ⟨(HX1.out.below h3).1, (HX1.out.below h3).2.1, (HX1.out.below h3).2.2, (HP1.out.below h3).1, (HP1.out.below h3).2.1, (HP1.out.below h3).2.2, (HQ_1.out.below h3).1, (HQ_1.out.below h3).2.1, (HQ_1.out.below h3).2.2, cell_below HAa.out h3, cell_below HBb.out h3, Lib.hid h3⟩)
                have hR : Hid (Below w1.heap.size w1 w1) := Lib.hid (Below.refl _ _)
                have hOA := Lib.hid (show ∀ u1 : World, Hid (Below w1.heap.size w1 u1) → Hid (One u1 (some ⟨ba, oa, none⟩) 1 a0) from fun u1 h1 => Lib.hid (HA1.out.below h1.out))
                have hOZ := Lib.hid (show ∀ u1 : World, Hid (Below w1.heap.size w1 u1) → Hid (One u1 (some ⟨bz, oz, none⟩) 1 z0) from fun u1 h1 => Lib.hid (HZ1.out.below h1.out))
                have hOB := Lib.hid (show ∀ u1 : World, Hid (Below w1.heap.size w1 u1) → Hid (One u1 (some ⟨bb, ob, none⟩) 1 a1) from fun u1 h1 => Lib.hid (HB_1.out.below h1.out))
                have hOC := Lib.hid (show ∀ u1 : World, Hid (Below w1.heap.size w1 u1) → Hid (One u1 (some ⟨bw, ow, none⟩) 1 z1) from fun u1 h1 => Lib.hid (HC_1.out.below h1.out))
                have hne : ((a0 : Int) != a1) = false := by simp [hae]
                clear hae
                go_wp2_with fail
                go_region_held3 (fun w' => w'.cell? ⟨w.heap.size, 0, none⟩ = some (.int .i64 P) ∧ w'.cell? ⟨w.heap.size, 1, none⟩ = some (.int .i64 Q) ∧ w'.cell? ⟨w.heap.size, 2, none⟩ = some (.int .i64 G) ∧ w'.cell? ⟨w.heap.size + 1, 0, none⟩ = some (.slice (some ⟨ba, oa, none⟩) 1 ca) ∧ w'.cell? ⟨w.heap.size + 1, 1, none⟩ = some (.int .i64 C0) ∧ w'.cell? ⟨w.heap.size + 1, 2, none⟩ = some (.slice (some ⟨bz, oz, none⟩) 1 cz) ∧ w'.cell? ⟨w.heap.size + 2, 0, none⟩ = some (.slice (some ⟨bb, ob, none⟩) 1 cb) ∧ w'.cell? ⟨w.heap.size + 2, 1, none⟩ = some (.int .i64 C1) ∧ w'.cell? ⟨w.heap.size + 2, 2, none⟩ = some (.slice (some ⟨bw, ow, none⟩) 1 cw) ∧ w'.cell? ⟨ba, oa, none⟩ = some (.int .i64 a0) ∧ w'.cell? ⟨bb, ob, none⟩ = some (.int .i64 a1) ∧ Hid (Below w1.heap.size w1 w'))
                  (first | exact hS.out _ _ hR ((Below.refl w1.heap.size w1).drew) | (go_split_ands; exact hS.out _ _ (by assumption) hbA) | go_keep)
                  (first
                    | (go_at_call 73; (with_reducible refine (rcheck_any16 P Q G b y (some ⟨ba, oa, none⟩) 1 ca a0 C0 (some ⟨bz, oz, none⟩) 1 cz z0 true Hp hQ _ ?_ ?_).mono ?_); (go_split_ands; exact hOA.out _ (by assumption)); (go_split_ands; exact hOZ.out _ (by assumption)); rintro e wA ⟨rfl, hbA⟩)
                    | (go_at_call 73; (with_reducible refine (rcheck_any16 P Q G b y (some ⟨bb, ob, none⟩) 1 cb a1 C1 (some ⟨bw, ow, none⟩) 1 cw z1 true Hq hQ _ ?_ ?_).mono ?_); (go_split_ands; exact hOB.out _ (by assumption)); (go_split_ands; exact hOC.out _ (by assumption)); rintro e wA ⟨rfl, hbA⟩))
                rename_i hHeld
                obtain ⟨x0, x1, x2, x3, x4, x5, x6, x7, x8, x9, x10, hbQ⟩ := hHeld
                have hb2 := below_ext hb1 hbQ.out
                have HX2 := Lib.hid (HX1.out.below hbQ.out)
                have HP2 := Lib.hid (HP1.out.below hbQ.out)
                have HQ_2 := Lib.hid (HQ_1.out.below hbQ.out)
                clear x0 x1 x2 x3 x4 x5 x6 x7 x8 x9 x10
                obtain ⟨c0, c1, c2⟩ := HX2.out
                obtain ⟨d0, d1, d2⟩ := HP2.out
                obtain ⟨e0, e1, e2⟩ := HQ_2.out
                have hd1 : IntKind.i64.wrap (C0 - C1) = C0 - C1 := IntWalk.i64_in _ (by omega)
                have hd2 : IntKind.i64.wrap (z0 - z1) = z0 - z1 := IntWalk.i64_in _ (by omega)
                obtain ⟨bI, hbI⟩ : ∃ x, invB c Q = x := ⟨_, rfl⟩
                have HBI := Lib.hid hbI
                clear hbI
                have hiv : ∃ x, IsInv c Q x := isInv_ex c Q (by omega) k0 k1
                obtain ⟨i0, i1⟩ := invOf_bounds HI.out hiv
                clear hiv
                go_wp2
                go_quiet ((first | (go_at_call 75; exact quiet_left (rreduce_any (C0 - C1) Q c HC2 (by omega) (by omega) (by omega) (by omega) _)) | (go_at_call 74; exact quiet_draws (rinv_val c Q i bI HI HBI (by omega) (by omega) k0 k1 _))))
                go_wp2_with fail
                obtain ⟨wq, hwq⟩ : ∃ x, wA.drewN nq = x := ⟨_, rfl⟩
                have hb0 : Below wA.heap.size wA wq := by rw [← hwq]; exact below_drawN (Below.refl _ _) _
                rw [hwq]
                clear hwq c0 c1 c2 d0 d1 d2 e0 e1 e2
                have hbz := below_ext hb2 hb0
                obtain ⟨c0, c1, c2⟩ := HX2.out.below hb0
                obtain ⟨d0, d1, d2⟩ := HP2.out.below hb0
                obtain ⟨e0, e1, e2⟩ := HQ_2.out.below hb0
                have z0c := cell_below HCZ.out hbz
                have z1c := cell_below HCW.out hbz
                clear hb0
                go_quiet ((first | (go_at_call 75; exact quiet_left (rreduce_any (z0 - z1) Q t HT2 (by omega) (by omega) (by omega) (by omega) _)) | (go_at_call 62; exact quiet_left (rmul_any t i Q v HVV (by omega) t0 t1 i0 i1 _))))
                go_wp2
                go_ret2
                refine ⟨rfl, ?_⟩
                repeat (first | exact hbz | refine below_drawN ?_ _)
            · obtain rfl : r = 11 := by rw [← hr', extE, hval, hk, hm]; simp [hae]
              obtain rfl : v = 0 := by rw [← hv0.out]; rfl
              clear hr' hr0 hv0 hval hk hm
              go_enter Tryd.func36, Tryd.ntmps36
              go_wp2_with fail
              rw [HW.out]
              go_wp2_with fail
              refine (given_any P Q G b y 0 HG hQ _).mono ?_
              rintro e w1 ⟨rfl, hb0⟩
              have hb1 := below_ext (HB.out) hb0
              have HX1 := Lib.hid (HX0.out.below hb0)
              have HP1 := Lib.hid (HP0.out.below hb0)
              have HQ_1 := Lib.hid (HQ_0.out.below hb0)
              have HA1 := Lib.hid (HA0.out.below hb0)
              have HZ1 := Lib.hid (HZ0.out.below hb0)
              have HB_1 := Lib.hid (HB_0.out.below hb0)
              have HC_1 := Lib.hid (HC_0.out.below hb0)
              clear hb0
              obtain ⟨c0, c1, c2⟩ := HX1.out
              obtain ⟨d0, d1, d2⟩ := HP1.out
              obtain ⟨e0, e1, e2⟩ := HQ_1.out
              clear c0 c1 c2 d0 d1 d2 e0 e1 e2
              have HAa := Lib.hid (cell_below HCA.out hb1)
              have HBb := Lib.hid (cell_below HCB.out hb1)
              have hS := Lib.hid (show ∀ u1 u2 : World, Hid (Below w1.heap.size w1 u1) → Below u1.heap.size u1 u2 → (u2.cell? ⟨w.heap.size, 0, none⟩ = some (.int .i64 P) ∧ u2.cell? ⟨w.heap.size, 1, none⟩ = some (.int .i64 Q) ∧ u2.cell? ⟨w.heap.size, 2, none⟩ = some (.int .i64 G) ∧ u2.cell? ⟨w.heap.size + 1, 0, none⟩ = some (.slice (some ⟨ba, oa, none⟩) 1 ca) ∧ u2.cell? ⟨w.heap.size + 1, 1, none⟩ = some (.int .i64 C0) ∧ u2.cell? ⟨w.heap.size + 1, 2, none⟩ = some (.slice (some ⟨bz, oz, none⟩) 1 cz) ∧ u2.cell? ⟨w.heap.size + 2, 0, none⟩ = some (.slice (some ⟨bb, ob, none⟩) 1 cb) ∧ u2.cell? ⟨w.heap.size + 2, 1, none⟩ = some (.int .i64 C1) ∧ u2.cell? ⟨w.heap.size + 2, 2, none⟩ = some (.slice (some ⟨bw, ow, none⟩) 1 cw) ∧ u2.cell? ⟨ba, oa, none⟩ = some (.int .i64 a0) ∧ u2.cell? ⟨bb, ob, none⟩ = some (.int .i64 a1) ∧ Hid (Below w1.heap.size w1 u2)) from fun u1 u2 h1 h2 => have h3 := below_ext h1.out h2; ⟨(HX1.out.below h3).1, (HX1.out.below h3).2.1, (HX1.out.below h3).2.2, (HP1.out.below h3).1, (HP1.out.below h3).2.1, (HP1.out.below h3).2.2, (HQ_1.out.below h3).1, (HQ_1.out.below h3).2.1, (HQ_1.out.below h3).2.2, cell_below HAa.out h3, cell_below HBb.out h3, Lib.hid h3⟩)
              have hR : Hid (Below w1.heap.size w1 w1) := Lib.hid (Below.refl _ _)
              have hOA := Lib.hid (show ∀ u1 : World, Hid (Below w1.heap.size w1 u1) → Hid (One u1 (some ⟨ba, oa, none⟩) 1 a0) from fun u1 h1 => Lib.hid (HA1.out.below h1.out))
              have hOZ := Lib.hid (show ∀ u1 : World, Hid (Below w1.heap.size w1 u1) → Hid (One u1 (some ⟨bz, oz, none⟩) 1 z0) from fun u1 h1 => Lib.hid (HZ1.out.below h1.out))
              have hOB := Lib.hid (show ∀ u1 : World, Hid (Below w1.heap.size w1 u1) → Hid (One u1 (some ⟨bb, ob, none⟩) 1 a1) from fun u1 h1 => Lib.hid (HB_1.out.below h1.out))
              have hOC := Lib.hid (show ∀ u1 : World, Hid (Below w1.heap.size w1 u1) → Hid (One u1 (some ⟨bw, ow, none⟩) 1 z1) from fun u1 h1 => Lib.hid (HC_1.out.below h1.out))
              have hne : ((a0 : Int) != a1) = true := by simp [hae]
              clear hae
              go_wp2_with fail
              go_region_held3 (fun w' => w'.cell? ⟨w.heap.size, 0, none⟩ = some (.int .i64 P) ∧ w'.cell? ⟨w.heap.size, 1, none⟩ = some (.int .i64 Q) ∧ w'.cell? ⟨w.heap.size, 2, none⟩ = some (.int .i64 G) ∧ w'.cell? ⟨w.heap.size + 1, 0, none⟩ = some (.slice (some ⟨ba, oa, none⟩) 1 ca) ∧ w'.cell? ⟨w.heap.size + 1, 1, none⟩ = some (.int .i64 C0) ∧ w'.cell? ⟨w.heap.size + 1, 2, none⟩ = some (.slice (some ⟨bz, oz, none⟩) 1 cz) ∧ w'.cell? ⟨w.heap.size + 2, 0, none⟩ = some (.slice (some ⟨bb, ob, none⟩) 1 cb) ∧ w'.cell? ⟨w.heap.size + 2, 1, none⟩ = some (.int .i64 C1) ∧ w'.cell? ⟨w.heap.size + 2, 2, none⟩ = some (.slice (some ⟨bw, ow, none⟩) 1 cw) ∧ w'.cell? ⟨ba, oa, none⟩ = some (.int .i64 a0) ∧ w'.cell? ⟨bb, ob, none⟩ = some (.int .i64 a1) ∧ Hid (Below w1.heap.size w1 w'))
                (first | exact hS.out _ _ hR ((Below.refl w1.heap.size w1).drew) | (go_split_ands; exact hS.out _ _ (by assumption) hbA) | go_keep)
                (first
                  | (go_at_call 73; (with_reducible refine (rcheck_any16 P Q G b y (some ⟨ba, oa, none⟩) 1 ca a0 C0 (some ⟨bz, oz, none⟩) 1 cz z0 true Hp hQ _ ?_ ?_).mono ?_); (go_split_ands; exact hOA.out _ (by assumption)); (go_split_ands; exact hOZ.out _ (by assumption)); rintro e wA ⟨rfl, hbA⟩)
                  | (go_at_call 73; (with_reducible refine (rcheck_any16 P Q G b y (some ⟨bb, ob, none⟩) 1 cb a1 C1 (some ⟨bw, ow, none⟩) 1 cw z1 true Hq hQ _ ?_ ?_).mono ?_); (go_split_ands; exact hOB.out _ (by assumption)); (go_split_ands; exact hOC.out _ (by assumption)); rintro e wA ⟨rfl, hbA⟩))
              rename_i hHeld
              obtain ⟨x0, x1, x2, x3, x4, x5, x6, x7, x8, x9, x10, hbQ⟩ := hHeld
              have hb2 := below_ext hb1 hbQ.out
              have HX2 := Lib.hid (HX1.out.below hbQ.out)
              have HP2 := Lib.hid (HP1.out.below hbQ.out)
              have HQ_2 := Lib.hid (HQ_1.out.below hbQ.out)
              clear x0 x1 x2 x3 x4 x5 x6 x7 x8 x9 x10
              obtain ⟨c0, c1, c2⟩ := HX2.out
              obtain ⟨d0, d1, d2⟩ := HP2.out
              obtain ⟨e0, e1, e2⟩ := HQ_2.out
              go_wp2
              go_ret2
              exact ⟨rfl, hb2⟩

end Go.Proofs.YtohjfnhgibedpaaDoor
