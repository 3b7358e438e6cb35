/- The walk of the law KnowledgeMoves. -/
import Derived.Test.YtaoodeenbedmhaaDoorKnH
namespace Go.Proofs.YtaoodeenbedmhaaDoor
open Go.RowKit SpM
set_option linter.unusedVariables false
set_option linter.unusedSimpArgs false

set_option maxHeartbeats 3200000 in
theorem moves_great (P Q G base y : Int) (pa : Option Addr) (na ca : Nat) (a0 C : Int) (pz : Option Addr) (nz cz : Nat) (z0 k c x : Int) (h : 100 < na ∨ 100 < nz) (w : World) (hv : Hid (Vars w)) (hA : Hid (One w pa na a0)) (hZ : Hid (One w pz nz z0)) :
    Calls Tryd.prog 4 #[gv P Q G, .int .i64 base, .int .i64 y, prv pa na ca C pz nz cz, .int .i64 k, .int .i64 c, .int .i64 x] w fun e' w' => e' = .returned (.bool true) ∧ Below w.heap.size w w' := by
  obtain ⟨w0, hW⟩ : ∃ W, (w.alloc (gObj P Q G)).alloc (prObj pa na ca C pz nz cz) = W := ⟨_, rfl⟩
  have HB : Hid (Below w.heap.size w w0) := Lib.hid (by rw [← hW]; exact below_two (Below.refl _ _))
  have HX0 : Hid (GBox w0 w.heap.size P Q G) := Lib.hid (by rw [← hW]; exact (gbox_alloc w P Q G).below (below_box0 _ _))
  have HP0 : Hid (PBox w0 (w.heap.size + 1) (.slice pa na ca) (.int .i64 C) (.slice pz nz cz)) := Lib.hid (by rw [← hW]; exact pbox_alloc w _ _ _ _ _)
  have HA0 : Hid (One w0 pa na a0) := Lib.hid (hA.out.below HB.out)
  have HZ0 : Hid (One w0 pz nz z0) := Lib.hid (hZ.out.below HB.out)
  have HV0 : Hid (Vars w0) := Lib.hid (hv.out.below HB.out)
  have HW := Lib.hid hW
  clear hW
  have HG := Lib.hid h
  clear h
  go_enter Tryd.func4, Tryd.ntmps4
  go_wp2_with fail
  rw [HW.out]
  go_wp2_with fail
  refine (awake16 _ HV0).mono ?_
  rintro e w1 ⟨rfl, hb0⟩
  have hb1 := below_ext (HB.out) hb0
  have HV1 := Lib.hid (HV0.out.below hb0)
  have HX1 := Lib.hid (HX0.out.below hb0)
  have HP1 := Lib.hid (HP0.out.below hb0)
  have HA1 := Lib.hid (HA0.out.below hb0)
  have HZ1 := Lib.hid (HZ0.out.below hb0)
  clear hb0
  obtain ⟨c0, c1, c2⟩ := HX1.out
  obtain ⟨d0, d1, d2⟩ := HP1.out
  go_wp2_with fail
  refine (great_t pa na ca C pz nz cz HG.out _).mono ?_
  rintro e w2 ⟨rfl, hb0⟩
  have hb2 := below_ext hb1 hb0
  clear hb0
  go_wp2
  go_ret
  exact ⟨rfl, hb2⟩

set_option maxHeartbeats 6400000 in
theorem moves_bad (P Q G base y : Int) (pa : Option Addr) (na ca : Nat) (a0 C : Int) (pz : Option Addr) (nz cz : Nat) (z0 k c x : Int) (hn1 : na ≤ 100) (hn2 : nz ≤ 100) (hQ : Q < 9223372036854775808) (w : World) (hv : Hid (Vars w)) (hA : Hid (One w pa na a0)) (hZ : Hid (One w pz nz z0)) (r : Int) (hr0 : Hid (simE P Q G base y c x = r)) (hne : (r != 0) = true) :
    Calls Tryd.prog 4 #[gv P Q G, .int .i64 base, .int .i64 y, prv pa na ca C pz nz cz, .int .i64 k, .int .i64 c, .int .i64 x] w fun e' w' => e' = .returned (.bool true) ∧ Below w.heap.size w w' := by
  obtain ⟨w0, hW⟩ : ∃ W, (w.alloc (gObj P Q G)).alloc (prObj pa na ca C pz nz cz) = W := ⟨_, rfl⟩
  have HB : Hid (Below w.heap.size w w0) := Lib.hid (by rw [← hW]; exact below_two (Below.refl _ _))
  have HX0 : Hid (GBox w0 w.heap.size P Q G) := Lib.hid (by rw [← hW]; exact (gbox_alloc w P Q G).below (below_box0 _ _))
  have HP0 : Hid (PBox w0 (w.heap.size + 1) (.slice pa na ca) (.int .i64 C) (.slice pz nz cz)) := Lib.hid (by rw [← hW]; exact pbox_alloc w _ _ _ _ _)
  have HA0 : Hid (One w0 pa na a0) := Lib.hid (hA.out.below HB.out)
  have HZ0 : Hid (One w0 pz nz z0) := Lib.hid (hZ.out.below HB.out)
  have HV0 : Hid (Vars w0) := Lib.hid (hv.out.below HB.out)
  have HW := Lib.hid hW
  clear hW
  obtain ⟨v1, h1⟩ : ∃ v, comV P Q G base k = v := ⟨_, rfl⟩
  obtain ⟨r1, h2⟩ : ∃ v, comE P Q G base k = v := ⟨_, rfl⟩
  obtain ⟨v2, h3⟩ : ∃ v, resV P Q G k c x = v := ⟨_, rfl⟩
  obtain ⟨r2, h4⟩ : ∃ v, resE P Q G k c x = v := ⟨_, rfl⟩
  obtain ⟨kb, h5⟩ : ∃ v, chkB P Q G base y na a0 C nz z0 = v := ⟨_, rfl⟩
  obtain ⟨sa, h6⟩ : ∃ v, simA P Q base y c x = v := ⟨_, rfl⟩
  have H1 := Lib.hid h1
  have H2 := Lib.hid h2
  have H3 := Lib.hid h3
  have H4 := Lib.hid h4
  have H5 := Lib.hid h5
  have H6 := Lib.hid h6
  clear h1 h2 h3 h4 h5 h6
  go_enter Tryd.func4, Tryd.ntmps4
  go_wp2_with fail
  rw [HW.out]
  go_wp2_with fail
  refine (awake16 _ HV0).mono ?_
  rintro e w1 ⟨rfl, hb0⟩
  have hb1 := below_ext (HB.out) hb0
  have HV1 := Lib.hid (HV0.out.below hb0)
  have HX1 := Lib.hid (HX0.out.below hb0)
  have HP1 := Lib.hid (HP0.out.below hb0)
  have HA1 := Lib.hid (HA0.out.below hb0)
  have HZ1 := Lib.hid (HZ0.out.below hb0)
  clear hb0
  obtain ⟨c0, c1, c2⟩ := HX1.out
  obtain ⟨d0, d1, d2⟩ := HP1.out
  go_wp2_with fail
  refine (great_f pa na ca C pz nz cz hn1 hn2 _).mono ?_
  rintro e w2 ⟨rfl, hb0⟩
  have hb2 := below_ext hb1 hb0
  have HV2 := Lib.hid (HV1.out.below hb0)
  have HX2 := Lib.hid (HX1.out.below hb0)
  have HP2 := Lib.hid (HP1.out.below hb0)
  have HA2 := Lib.hid (HA1.out.below hb0)
  have HZ2 := Lib.hid (HZ1.out.below hb0)
  clear c0 c1 c2 d0 d1 d2 hb0
  obtain ⟨c0, c1, c2⟩ := HX2.out
  obtain ⟨d0, d1, d2⟩ := HP2.out
  go_wp2_with fail
  refine (commit_any P Q G base k v1 r1 H1 H2 hQ _ HV2).mono ?_
  rintro e w3 ⟨rfl, hb0⟩
  have hb3 := below_ext hb2 hb0
  have HV3 := Lib.hid (HV2.out.below hb0)
  have HX3 := Lib.hid (HX2.out.below hb0)
  have HP3 := Lib.hid (HP2.out.below hb0)
  have HA3 := Lib.hid (HA2.out.below hb0)
  have HZ3 := Lib.hid (HZ2.out.below hb0)
  clear c0 c1 c2 d0 d1 d2 hb0
  obtain ⟨c0, c1, c2⟩ := HX3.out
  obtain ⟨d0, d1, d2⟩ := HP3.out
  go_wp2_with fail
  refine (rcommit_any P Q G base k v1 r1 H1 H2 hQ _).mono ?_
  rintro e w4 ⟨rfl, hb0⟩
  have hb4 := below_ext hb3 hb0
  have HV4 := Lib.hid (HV3.out.below hb0)
  have HX4 := Lib.hid (HX3.out.below hb0)
  have HP4 := Lib.hid (HP3.out.below hb0)
  have HA4 := Lib.hid (HA3.out.below hb0)
  have HZ4 := Lib.hid (HZ3.out.below hb0)
  clear c0 c1 c2 d0 d1 d2 hb0
  obtain ⟨c0, c1, c2⟩ := HX4.out
  obtain ⟨d0, d1, d2⟩ := HP4.out
  go_wp2_with fail
  refine (respond_any P Q G k c x v2 r2 H3 H4 hQ _ HV4).mono ?_
  rintro e w5 ⟨rfl, hb0⟩
  have hb5 := below_ext hb4 hb0
  have HV5 := Lib.hid (HV4.out.below hb0)
  have HX5 := Lib.hid (HX4.out.below hb0)
  have HP5 := Lib.hid (HP4.out.below hb0)
  have HA5 := Lib.hid (HA4.out.below hb0)
  have HZ5 := Lib.hid (HZ4.out.below hb0)
  clear c0 c1 c2 d0 d1 d2 hb0
  obtain ⟨c0, c1, c2⟩ := HX5.out
  obtain ⟨d0, d1, d2⟩ := HP5.out
  go_wp2_with fail
  refine (rrespond_any P Q G k c x v2 r2 H3 H4 hQ _).mono ?_
  rintro e w6 ⟨rfl, hb0⟩
  have hb6 := below_ext hb5 hb0
  have HV6 := Lib.hid (HV5.out.below hb0)
  have HX6 := Lib.hid (HX5.out.below hb0)
  have HP6 := Lib.hid (HP5.out.below hb0)
  have HA6 := Lib.hid (HA5.out.below hb0)
  have HZ6 := Lib.hid (HZ5.out.below hb0)
  clear c0 c1 c2 d0 d1 d2 hb0
  obtain ⟨c0, c1, c2⟩ := HX6.out
  obtain ⟨d0, d1, d2⟩ := HP6.out
  go_wp2_with fail
  refine (sim_bad P Q G base y c x r hr0 hne hQ _ HV6).mono ?_
  rintro e w7 ⟨rfl, hb0⟩
  have hb7 := below_ext hb6 hb0
  have HV7 := Lib.hid (HV6.out.below hb0)
  have HX7 := Lib.hid (HX6.out.below hb0)
  have HP7 := Lib.hid (HP6.out.below hb0)
  have HA7 := Lib.hid (HA6.out.below hb0)
  have HZ7 := Lib.hid (HZ6.out.below hb0)
  clear c0 c1 c2 d0 d1 d2 hb0
  obtain ⟨c0, c1, c2⟩ := HX7.out
  obtain ⟨d0, d1, d2⟩ := HP7.out
  obtain ⟨w7x, hx7⟩ : ∃ W, w7.alloc (prObj none 0 0 0 none 0 0) = W := ⟨_, rfl⟩
  have hq7 : Below w7.heap.size w7 w7x := by rw [← hx7]; exact below_box0 _ _
  have hb7x := below_ext hb7 hq7
  have HV7x := Lib.hid (HV7.out.below hq7)
  have HX7x := Lib.hid (HX7.out.below hq7)
  have HP7x := Lib.hid (HP7.out.below hq7)
  have HA7x := Lib.hid (HA7.out.below hq7)
  have HZ7x := Lib.hid (HZ7.out.below hq7)
  have HS7x : Hid (PBox w7x w7.heap.size (.slice none 0 0) (.int .i64 0) (.slice none 0 0)) := Lib.hid (by rw [← hx7]; exact pbox_alloc0 _ _ _ _ _)
  have HWx := Lib.hid hx7
  clear hx7 c0 c1 c2 d0 d1 d2
  have hXe := HX7x.out
  rw [← HWx.out] at hXe
  obtain ⟨c0, c1, c2⟩ := hXe
  go_wp2_with fail
  first | rw [HWx.out] | skip
  refine (rsim_bad P Q G base y c x r hr0 hne hQ _).mono ?_
  rintro e w8 ⟨rfl, hb0⟩
  have hb8 := below_ext hb7x hb0
  have HV8 := Lib.hid (HV7x.out.below hb0)
  have HX8 := Lib.hid (HX7x.out.below hb0)
  have HP8 := Lib.hid (HP7x.out.below hb0)
  have HA8 := Lib.hid (HA7x.out.below hb0)
  have HZ8 := Lib.hid (HZ7x.out.below hb0)
  have HS8 := Lib.hid (HS7x.out.below hb0)
  clear hb0 c0 c1 c2
  obtain ⟨w8x, hx8⟩ : ∃ W, w8.alloc (prObj none 0 0 0 none 0 0) = W := ⟨_, rfl⟩
  have hq8 : Below w8.heap.size w8 w8x := by rw [← hx8]; exact below_box0 _ _
  have hb8x := below_ext hb8 hq8
  have HV8x := Lib.hid (HV8.out.below hq8)
  have HX8x := Lib.hid (HX8.out.below hq8)
  have HP8x := Lib.hid (HP8.out.below hq8)
  have HA8x := Lib.hid (HA8.out.below hq8)
  have HZ8x := Lib.hid (HZ8.out.below hq8)
  have HS8x := Lib.hid (HS8.out.below hq8)
  have HT8x : Hid (PBox w8x w8.heap.size (.slice none 0 0) (.int .i64 0) (.slice none 0 0)) := Lib.hid (by rw [← hx8]; exact pbox_alloc0 _ _ _ _ _)
  have HWy := Lib.hid hx8
  clear hx8
  have hS := Lib.hid (show ∀ u1 u2 : World, Hid (Below w8x.heap.size w8x u1) → Below u1.heap.size u1 u2 → (u2.cell? ⟨w.heap.size, 0, none⟩ = some (.int .i64 P) ∧ u2.cell? ⟨w.heap.size, 1, none⟩ = some (.int .i64 Q) ∧ u2.cell? ⟨w.heap.size, 2, none⟩ = some (.int .i64 G) ∧ u2.cell? ⟨w.heap.size + 1, 0, none⟩ = some (.slice pa na ca) ∧ u2.cell? ⟨w.heap.size + 1, 1, none⟩ = some (.int .i64 C) ∧ u2.cell? ⟨w.heap.size + 1, 2, none⟩ = some (.slice pz nz cz) ∧ u2.cell? ⟨w7.heap.size, 0, none⟩ = some (.slice none 0 0) ∧ u2.cell? ⟨w7.heap.size, 1, none⟩ = some (.int .i64 0) ∧ u2.cell? ⟨w7.heap.size, 2, none⟩ = some (.slice none 0 0) ∧ u2.cell? ⟨w8.heap.size, 0, none⟩ = some (.slice none 0 0) ∧ u2.cell? ⟨w8.heap.size, 1, none⟩ = some (.int .i64 0) ∧ u2.cell? ⟨w8.heap.size, 2, none⟩ = some (.slice none 0 0) ∧ Hid (Below w8x.heap.size w8x u2)) from fun u1 u2 h1 h2 => have h3 := below_ext h1.out h2; ⟨(HX8x.out.below h3).1, (HX8x.out.below h3).2.1, (HX8x.out.below h3).2.2, (HP8x.out.below h3).1, (HP8x.out.below h3).2.1, (HP8x.out.below h3).2.2, (HS8x.out.below h3).1, (HS8x.out.below h3).2.1, (HS8x.out.below h3).2.2, (HT8x.out.below h3).1, (HT8x.out.below h3).2.1, (HT8x.out.below h3).2.2, Lib.hid h3⟩)
  have hR : Hid (Below w8x.heap.size w8x w8x) := Lib.hid (Below.refl _ _)
  have hV := Lib.hid (show ∀ u1 : World, Hid (Below w8x.heap.size w8x u1) → Hid (Vars u1) from fun u1 h1 => Lib.hid (HV8x.out.below h1.out))
  have hOA := Lib.hid (show ∀ u1 : World, Hid (Below w8x.heap.size w8x u1) → Hid (One u1 pa na a0) from fun u1 h1 => Lib.hid (HA8x.out.below h1.out))
  have hOZ := Lib.hid (show ∀ u1 : World, Hid (Below w8x.heap.size w8x u1) → Hid (One u1 pz nz z0) from fun u1 h1 => Lib.hid (HZ8x.out.below h1.out))
  go_wp2_with fail
  first | rw [HWy.out] | skip
  go_region_held3 (fun w' => w'.cell? ⟨w.heap.size, 0, none⟩ = some (.int .i64 P) ∧ w'.cell? ⟨w.heap.size, 1, none⟩ = some (.int .i64 Q) ∧ w'.cell? ⟨w.heap.size, 2, none⟩ = some (.int .i64 G) ∧ w'.cell? ⟨w.heap.size + 1, 0, none⟩ = some (.slice pa na ca) ∧ w'.cell? ⟨w.heap.size + 1, 1, none⟩ = some (.int .i64 C) ∧ w'.cell? ⟨w.heap.size + 1, 2, none⟩ = some (.slice pz nz cz) ∧ w'.cell? ⟨w7.heap.size, 0, none⟩ = some (.slice none 0 0) ∧ w'.cell? ⟨w7.heap.size, 1, none⟩ = some (.int .i64 0) ∧ w'.cell? ⟨w7.heap.size, 2, none⟩ = some (.slice none 0 0) ∧ w'.cell? ⟨w8.heap.size, 0, none⟩ = some (.slice none 0 0) ∧ w'.cell? ⟨w8.heap.size, 1, none⟩ = some (.int .i64 0) ∧ w'.cell? ⟨w8.heap.size, 2, none⟩ = some (.slice none 0 0) ∧ Hid (Below w8x.heap.size w8x w'))
    (first | exact hS.out _ _ hR ((Below.refl w8x.heap.size w8x).drew) | (go_split_ands; exact hS.out _ _ (by assumption) hbA) | go_keep)
    (first
      | (go_at_call 22; (with_reducible refine (same_nil _).mono ?_); rintro e wA ⟨rfl, hbA⟩)
      | (go_at_call 23; (refine (check_any16 P Q G base y pa na ca a0 C pz nz cz z0 kb H5 hQ _ ?_ ?_ ?_).mono ?_); (go_split_ands; exact hV.out _ (by assumption)); (go_split_ands; exact hOA.out _ (by assumption)); (go_split_ands; exact hOZ.out _ (by assumption)); rintro e wA ⟨rfl, hbA⟩)
      | (go_at_call 24; (refine (rcheck_any16 P Q G base y pa na ca a0 C pz nz cz z0 kb H5 hQ _ ?_ ?_).mono ?_); (go_split_ands; exact hOA.out _ (by assumption)); (go_split_ands; exact hOZ.out _ (by assumption)); rintro e wA ⟨rfl, hbA⟩))
  all_goals
    rename_i hHeld
    obtain ⟨e0, e1, e2, e3, e4, e5, e6, e7, e8, e9, e10, e11, hbQ⟩ := hHeld
    have hbF := below_ext hb8x hbQ.out
    clear e0 e1 e2 e3 e4 e5 e6 e7 e8 e9 e10 e11
    go_wp2
    go_ret
    exact ⟨rfl, hbF⟩

set_option maxHeartbeats 6400000 in
theorem moves_ok (P Q G base y : Int) (pa : Option Addr) (na ca : Nat) (a0 C : Int) (pz : Option Addr) (nz cz : Nat) (z0 k c x : Int) (hn1 : na ≤ 100) (hn2 : nz ≤ 100) (hQ : Q < 9223372036854775808) (w : World) (hv : Hid (Vars w)) (hA : Hid (One w pa na a0)) (hZ : Hid (One w pz nz z0)) (hr0 : Hid (simE P Q G base y c x = 0)) :
    Calls Tryd.prog 4 #[gv P Q G, .int .i64 base, .int .i64 y, prv pa na ca C pz nz cz, .int .i64 k, .int .i64 c, .int .i64 x] w fun e' w' => e' = .returned (.bool true) ∧ Below w.heap.size w w' := by
  obtain ⟨w0, hW⟩ : ∃ W, (w.alloc (gObj P Q G)).alloc (prObj pa na ca C pz nz cz) = W := ⟨_, rfl⟩
  have HB : Hid (Below w.heap.size w w0) := Lib.hid (by rw [← hW]; exact below_two (Below.refl _ _))
  have HX0 : Hid (GBox w0 w.heap.size P Q G) := Lib.hid (by rw [← hW]; exact (gbox_alloc w P Q G).below (below_box0 _ _))
  have HP0 : Hid (PBox w0 (w.heap.size + 1) (.slice pa na ca) (.int .i64 C) (.slice pz nz cz)) := Lib.hid (by rw [← hW]; exact pbox_alloc w _ _ _ _ _)
  have HA0 : Hid (One w0 pa na a0) := Lib.hid (hA.out.below HB.out)
  have HZ0 : Hid (One w0 pz nz z0) := Lib.hid (hZ.out.below HB.out)
  have HV0 : Hid (Vars w0) := Lib.hid (hv.out.below HB.out)
  have HW := Lib.hid hW
  clear hW
  obtain ⟨v1, h1⟩ : ∃ v, comV P Q G base k = v := ⟨_, rfl⟩
  obtain ⟨r1, h2⟩ : ∃ v, comE P Q G base k = v := ⟨_, rfl⟩
  obtain ⟨v2, h3⟩ : ∃ v, resV P Q G k c x = v := ⟨_, rfl⟩
  obtain ⟨r2, h4⟩ : ∃ v, resE P Q G k c x = v := ⟨_, rfl⟩
  obtain ⟨kb, h5⟩ : ∃ v, chkB P Q G base y na a0 C nz z0 = v := ⟨_, rfl⟩
  obtain ⟨sa, h6⟩ : ∃ v, simA P Q base y c x = v := ⟨_, rfl⟩
  have H1 := Lib.hid h1
  have H2 := Lib.hid h2
  have H3 := Lib.hid h3
  have H4 := Lib.hid h4
  have H5 := Lib.hid h5
  have H6 := Lib.hid h6
  clear h1 h2 h3 h4 h5 h6
  go_enter Tryd.func4, Tryd.ntmps4
  go_wp2_with fail
  rw [HW.out]
  go_wp2_with fail
  refine (awake16 _ HV0).mono ?_
  rintro e w1 ⟨rfl, hb0⟩
  have hb1 := below_ext (HB.out) hb0
  have HV1 := Lib.hid (HV0.out.below hb0)
  have HX1 := Lib.hid (HX0.out.below hb0)
  have HP1 := Lib.hid (HP0.out.below hb0)
  have HA1 := Lib.hid (HA0.out.below hb0)
  have HZ1 := Lib.hid (HZ0.out.below hb0)
  clear hb0
  obtain ⟨c0, c1, c2⟩ := HX1.out
  obtain ⟨d0, d1, d2⟩ := HP1.out
  go_wp2_with fail
  refine (great_f pa na ca C pz nz cz hn1 hn2 _).mono ?_
  rintro e w2 ⟨rfl, hb0⟩
  have hb2 := below_ext hb1 hb0
  have HV2 := Lib.hid (HV1.out.below hb0)
  have HX2 := Lib.hid (HX1.out.below hb0)
  have HP2 := Lib.hid (HP1.out.below hb0)
  have HA2 := Lib.hid (HA1.out.below hb0)
  have HZ2 := Lib.hid (HZ1.out.below hb0)
  clear c0 c1 c2 d0 d1 d2 hb0
  obtain ⟨c0, c1, c2⟩ := HX2.out
  obtain ⟨d0, d1, d2⟩ := HP2.out
  go_wp2_with fail
  refine (commit_any P Q G base k v1 r1 H1 H2 hQ _ HV2).mono ?_
  rintro e w3 ⟨rfl, hb0⟩
  have hb3 := below_ext hb2 hb0
  have HV3 := Lib.hid (HV2.out.below hb0)
  have HX3 := Lib.hid (HX2.out.below hb0)
  have HP3 := Lib.hid (HP2.out.below hb0)
  have HA3 := Lib.hid (HA2.out.below hb0)
  have HZ3 := Lib.hid (HZ2.out.below hb0)
  clear c0 c1 c2 d0 d1 d2 hb0
  obtain ⟨c0, c1, c2⟩ := HX3.out
  obtain ⟨d0, d1, d2⟩ := HP3.out
  go_wp2_with fail
  refine (rcommit_any P Q G base k v1 r1 H1 H2 hQ _).mono ?_
  rintro e w4 ⟨rfl, hb0⟩
  have hb4 := below_ext hb3 hb0
  have HV4 := Lib.hid (HV3.out.below hb0)
  have HX4 := Lib.hid (HX3.out.below hb0)
  have HP4 := Lib.hid (HP3.out.below hb0)
  have HA4 := Lib.hid (HA3.out.below hb0)
  have HZ4 := Lib.hid (HZ3.out.below hb0)
  clear c0 c1 c2 d0 d1 d2 hb0
  obtain ⟨c0, c1, c2⟩ := HX4.out
  obtain ⟨d0, d1, d2⟩ := HP4.out
  go_wp2_with fail
  refine (respond_any P Q G k c x v2 r2 H3 H4 hQ _ HV4).mono ?_
  rintro e w5 ⟨rfl, hb0⟩
  have hb5 := below_ext hb4 hb0
  have HV5 := Lib.hid (HV4.out.below hb0)
  have HX5 := Lib.hid (HX4.out.below hb0)
  have HP5 := Lib.hid (HP4.out.below hb0)
  have HA5 := Lib.hid (HA4.out.below hb0)
  have HZ5 := Lib.hid (HZ4.out.below hb0)
  clear c0 c1 c2 d0 d1 d2 hb0
  obtain ⟨c0, c1, c2⟩ := HX5.out
  obtain ⟨d0, d1, d2⟩ := HP5.out
  go_wp2_with fail
  refine (rrespond_any P Q G k c x v2 r2 H3 H4 hQ _).mono ?_
  rintro e w6 ⟨rfl, hb0⟩
  have hb6 := below_ext hb5 hb0
  have HV6 := Lib.hid (HV5.out.below hb0)
  have HX6 := Lib.hid (HX5.out.below hb0)
  have HP6 := Lib.hid (HP5.out.below hb0)
  have HA6 := Lib.hid (HA5.out.below hb0)
  have HZ6 := Lib.hid (HZ5.out.below hb0)
  clear c0 c1 c2 d0 d1 d2 hb0
  obtain ⟨c0, c1, c2⟩ := HX6.out
  obtain ⟨d0, d1, d2⟩ := HP6.out
  go_wp2_with fail
  refine (sim_ok P Q G base y c x sa hr0 H6 hQ _ HV6).mono ?_
  rintro e w7 ⟨b1, b2, rfl, hcb1, hcb2, hb0⟩
  have hb7 := below_ext hb6 hb0
  have HV7 := Lib.hid (HV6.out.below hb0)
  have HX7 := Lib.hid (HX6.out.below hb0)
  have HP7 := Lib.hid (HP6.out.below hb0)
  have HA7 := Lib.hid (HA6.out.below hb0)
  have HZ7 := Lib.hid (HZ6.out.below hb0)
  clear c0 c1 c2 d0 d1 d2 hb0
  obtain ⟨c0, c1, c2⟩ := HX7.out
  obtain ⟨d0, d1, d2⟩ := HP7.out
  have HC1 := Lib.hid hcb1
  have HC2 := Lib.hid hcb2
  clear hcb1 hcb2
  have HC1_7 := HC1
  have HC2_7 := HC2
  obtain ⟨w7x, hx7⟩ : ∃ W, w7.alloc (prObj (some ⟨b1, 0, none⟩) 1 1 c (some ⟨b2, 0, none⟩) 1 1) = W := ⟨_, rfl⟩
  have hq7 : Below w7.heap.size w7 w7x := by rw [← hx7]; exact below_box0 _ _
  have hb7x := below_ext hb7 hq7
  have HV7x := Lib.hid (HV7.out.below hq7)
  have HX7x := Lib.hid (HX7.out.below hq7)
  have HP7x := Lib.hid (HP7.out.below hq7)
  have HA7x := Lib.hid (HA7.out.below hq7)
  have HZ7x := Lib.hid (HZ7.out.below hq7)
  have HC1_7x := Lib.hid (HC1_7.out.below hq7)
  have HC2_7x := Lib.hid (HC2_7.out.below hq7)
  have HS7x : Hid (PBox w7x w7.heap.size (.slice (some ⟨b1, 0, none⟩) 1 1) (.int .i64 c) (.slice (some ⟨b2, 0, none⟩) 1 1)) := Lib.hid (by rw [← hx7]; exact pbox_alloc0 _ _ _ _ _)
  have HWx := Lib.hid hx7
  clear hx7 c0 c1 c2 d0 d1 d2
  have hXe := HX7x.out
  rw [← HWx.out] at hXe
  obtain ⟨c0, c1, c2⟩ := hXe
  go_wp2_with fail
  first | rw [HWx.out] | skip
  refine (rsim_ok P Q G base y c x sa hr0 H6 hQ _).mono ?_
  rintro e w8 ⟨b3, b4, rfl, hcb3, hcb4, hb0⟩
  have HC3_8 := Lib.hid hcb3
  have HC4_8 := Lib.hid hcb4
  clear hcb3 hcb4
  have hb8 := below_ext hb7x hb0
  have HV8 := Lib.hid (HV7x.out.below hb0)
  have HX8 := Lib.hid (HX7x.out.below hb0)
  have HP8 := Lib.hid (HP7x.out.below hb0)
  have HA8 := Lib.hid (HA7x.out.below hb0)
  have HZ8 := Lib.hid (HZ7x.out.below hb0)
  have HS8 := Lib.hid (HS7x.out.below hb0)
  have HC1_8 := Lib.hid (HC1_7x.out.below hb0)
  have HC2_8 := Lib.hid (HC2_7x.out.below hb0)
  clear hb0 c0 c1 c2
  obtain ⟨w8x, hx8⟩ : ∃ W, w8.alloc (prObj (some ⟨b3, 0, none⟩) 1 1 c (some ⟨b4, 0, none⟩) 1 1) = W := ⟨_, rfl⟩
  have hq8 : Below w8.heap.size w8 w8x := by rw [← hx8]; exact below_box0 _ _
  have hb8x := below_ext hb8 hq8
  have HV8x := Lib.hid (HV8.out.below hq8)
  have HX8x := Lib.hid (HX8.out.below hq8)
  have HP8x := Lib.hid (HP8.out.below hq8)
  have HA8x := Lib.hid (HA8.out.below hq8)
  have HZ8x := Lib.hid (HZ8.out.below hq8)
  have HS8x := Lib.hid (HS8.out.below hq8)
  have HC1_8x := Lib.hid (HC1_8.out.below hq8)
  have HC2_8x := Lib.hid (HC2_8.out.below hq8)
  have HC3_8x := Lib.hid (HC3_8.out.below hq8)
  have HC4_8x := Lib.hid (HC4_8.out.below hq8)
  have HT8x : Hid (PBox w8x w8.heap.size (.slice (some ⟨b3, 0, none⟩) 1 1) (.int .i64 c) (.slice (some ⟨b4, 0, none⟩) 1 1)) := Lib.hid (by rw [← hx8]; exact pbox_alloc0 _ _ _ _ _)
  have HWy := Lib.hid hx8
  clear hx8
  have hS := Lib.hid (show ∀ u1 u2 : World, Hid (Below w8x.heap.size w8x u1) → Below u1.heap.size u1 u2 → (u2.cell? ⟨w.heap.size, 0, none⟩ = some (.int .i64 P) ∧ u2.cell? ⟨w.heap.size, 1, none⟩ = some (.int .i64 Q) ∧ u2.cell? ⟨w.heap.size, 2, none⟩ = some (.int .i64 G) ∧ u2.cell? ⟨w.heap.size + 1, 0, none⟩ = some (.slice pa na ca) ∧ u2.cell? ⟨w.heap.size + 1, 1, none⟩ = some (.int .i64 C) ∧ u2.cell? ⟨w.heap.size + 1, 2, none⟩ = some (.slice pz nz cz) ∧ u2.cell? ⟨w7.heap.size, 0, none⟩ = some (.slice (some ⟨b1, 0, none⟩) 1 1) ∧ u2.cell? ⟨w7.heap.size, 1, none⟩ = some (.int .i64 c) ∧ u2.cell? ⟨w7.heap.size, 2, none⟩ = some (.slice (some ⟨b2, 0, none⟩) 1 1) ∧ u2.cell? ⟨w8.heap.size, 0, none⟩ = some (.slice (some ⟨b3, 0, none⟩) 1 1) ∧ u2.cell? ⟨w8.heap.size, 1, none⟩ = some (.int .i64 c) ∧ u2.cell? ⟨w8.heap.size, 2, none⟩ = some (.slice (some ⟨b4, 0, none⟩) 1 1) ∧ Hid (Below w8x.heap.size w8x u2)) from fun u1 u2 h1 h2 => have h3 := below_ext h1.out h2; ⟨(HX8x.out.below h3).1, (HX8x.out.below h3).2.1, (HX8x.out.below h3).2.2, (HP8x.out.below h3).1, (HP8x.out.below h3).2.1, (HP8x.out.below h3).2.2, (HS8x.out.below h3).1, (HS8x.out.below h3).2.1, (HS8x.out.below h3).2.2, (HT8x.out.below h3).1, (HT8x.out.below h3).2.1, (HT8x.out.below h3).2.2, Lib.hid h3⟩)
  have hR : Hid (Below w8x.heap.size w8x w8x) := Lib.hid (Below.refl _ _)
  have hV := Lib.hid (show ∀ u1 : World, Hid (Below w8x.heap.size w8x u1) → Hid (Vars u1) from fun u1 h1 => Lib.hid (HV8x.out.below h1.out))
  have hOA := Lib.hid (show ∀ u1 : World, Hid (Below w8x.heap.size w8x u1) → Hid (One u1 pa na a0) from fun u1 h1 => Lib.hid (HA8x.out.below h1.out))
  have hOZ := Lib.hid (show ∀ u1 : World, Hid (Below w8x.heap.size w8x u1) → Hid (One u1 pz nz z0) from fun u1 h1 => Lib.hid (HZ8x.out.below h1.out))
  have hC1 := Lib.hid (show ∀ u1 : World, Hid (Below w8x.heap.size w8x u1) → Hid (Cells u1 b1 [sa]) from fun u1 h1 => Lib.hid (HC1_8x.out.below h1.out))
  have hC2 := Lib.hid (show ∀ u1 : World, Hid (Below w8x.heap.size w8x u1) → Hid (Cells u1 b2 [x]) from fun u1 h1 => Lib.hid (HC2_8x.out.below h1.out))
  have hC3 := Lib.hid (show ∀ u1 : World, Hid (Below w8x.heap.size w8x u1) → Hid (Cells u1 b3 [sa]) from fun u1 h1 => Lib.hid (HC3_8x.out.below h1.out))
  have hC4 := Lib.hid (show ∀ u1 : World, Hid (Below w8x.heap.size w8x u1) → Hid (Cells u1 b4 [x]) from fun u1 h1 => Lib.hid (HC4_8x.out.below h1.out))
  go_wp2_with fail
  first | rw [HWy.out] | skip
  go_region_held3 (fun w' => w'.cell? ⟨w.heap.size, 0, none⟩ = some (.int .i64 P) ∧ w'.cell? ⟨w.heap.size, 1, none⟩ = some (.int .i64 Q) ∧ w'.cell? ⟨w.heap.size, 2, none⟩ = some (.int .i64 G) ∧ w'.cell? ⟨w.heap.size + 1, 0, none⟩ = some (.slice pa na ca) ∧ w'.cell? ⟨w.heap.size + 1, 1, none⟩ = some (.int .i64 C) ∧ w'.cell? ⟨w.heap.size + 1, 2, none⟩ = some (.slice pz nz cz) ∧ w'.cell? ⟨w7.heap.size, 0, none⟩ = some (.slice (some ⟨b1, 0, none⟩) 1 1) ∧ w'.cell? ⟨w7.heap.size, 1, none⟩ = some (.int .i64 c) ∧ w'.cell? ⟨w7.heap.size, 2, none⟩ = some (.slice (some ⟨b2, 0, none⟩) 1 1) ∧ w'.cell? ⟨w8.heap.size, 0, none⟩ = some (.slice (some ⟨b3, 0, none⟩) 1 1) ∧ w'.cell? ⟨w8.heap.size, 1, none⟩ = some (.int .i64 c) ∧ w'.cell? ⟨w8.heap.size, 2, none⟩ = some (.slice (some ⟨b4, 0, none⟩) 1 1) ∧ Hid (Below w8x.heap.size w8x w'))
    (first | exact hS.out _ _ hR ((Below.refl w8x.heap.size w8x).drew) | (go_split_ands; exact hS.out _ _ (by assumption) hbA) | go_keep)
    (first
      | (go_at_call 22; (refine (same_one b1 b2 b3 b4 sa c x _ ?_ ?_ ?_ ?_).mono ?_); (go_split_ands; exact hC1.out _ (by assumption)); (go_split_ands; exact hC2.out _ (by assumption)); (go_split_ands; exact hC3.out _ (by assumption)); (go_split_ands; exact hC4.out _ (by assumption)); rintro e wA ⟨rfl, hbA⟩)
      | (go_at_call 23; (refine (check_any16 P Q G base y pa na ca a0 C pz nz cz z0 kb H5 hQ _ ?_ ?_ ?_).mono ?_); (go_split_ands; exact hV.out _ (by assumption)); (go_split_ands; exact hOA.out _ (by assumption)); (go_split_ands; exact hOZ.out _ (by assumption)); rintro e wA ⟨rfl, hbA⟩)
      | (go_at_call 24; (refine (rcheck_any16 P Q G base y pa na ca a0 C pz nz cz z0 kb H5 hQ _ ?_ ?_).mono ?_); (go_split_ands; exact hOA.out _ (by assumption)); (go_split_ands; exact hOZ.out _ (by assumption)); rintro e wA ⟨rfl, hbA⟩))
  all_goals
    rename_i hHeld
    obtain ⟨e0, e1, e2, e3, e4, e5, e6, e7, e8, e9, e10, e11, hbQ⟩ := hHeld
    have hbF := below_ext hb8x hbQ.out
    clear e0 e1 e2 e3 e4 e5 e6 e7 e8 e9 e10 e11
    go_wp2
    go_ret
    exact ⟨rfl, hbF⟩

/-- THE LAW: true for every input. -/
theorem moves_true (P Q G base y : Int) (pa : Option Addr) (na ca : Nat) (a0 C : Int) (pz : Option Addr) (nz cz : Nat) (z0 k c x : Int) (hQ : Q < 9223372036854775808) (w : World) (hv : Hid (Vars w)) (hA : Hid (One w pa na a0)) (hZ : Hid (One w pz nz z0)) :
    Calls Tryd.prog 4 #[gv P Q G, .int .i64 base, .int .i64 y, prv pa na ca C pz nz cz, .int .i64 k, .int .i64 c, .int .i64 x] w fun e' w' => e' = .returned (.bool true) ∧ Below w.heap.size w w' := by
  by_cases h : 100 < na ∨ 100 < nz
  · exact moves_great P Q G base y pa na ca a0 C pz nz cz z0 k c x h w hv hA hZ
  · obtain ⟨r, hr⟩ : ∃ r, simE P Q G base y c x = r := ⟨_, rfl⟩
    cases h0 : r != 0 with
    | true => exact moves_bad P Q G base y pa na ca a0 C pz nz cz z0 k c x (by omega) (by omega) hQ w hv hA hZ r (Lib.hid hr) h0
    | false =>
      obtain rfl : r = 0 := by simpa using h0
      exact moves_ok P Q G base y pa na ca a0 C pz nz cz z0 k c x (by omega) (by omega) hQ w hv hA hZ (Lib.hid hr)
end Go.Proofs.YtaoodeenbedmhaaDoor
