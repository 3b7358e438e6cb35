/- The contracts of specieref16.Same (at what simulations answer), and of the law's small functions. -/
import Derived.Test.YtaoodeenbedmhaaDoorKnG
namespace Go.Proofs.YtaoodeenbedmhaaDoor
open Go.RowKit SpM
set_option linter.unusedVariables false
set_option linter.unusedSimpArgs false

theorem pbox_alloc0 (w : World) (T : TypeId) (x y z : Value) : PBox (w.alloc (.cells #[x, y, z] T)) w.heap.size x y z :=
  ⟨World.cell?_alloc_at _ _ _ _ rfl, World.cell?_alloc_at _ _ _ _ rfl, World.cell?_alloc_at _ _ _ _ rfl⟩

set_option maxHeartbeats 1600000 in
theorem same_nil (w : World) :
    Calls Tryd.prog 22 #[prv none 0 0 0 none 0 0, prv none 0 0 0 none 0 0] w fun e' w' => e' = .returned (.bool true) ∧ Below w.heap.size w w' := by
  obtain ⟨W, hW⟩ : ∃ W, (w.alloc (prObj none 0 0 0 none 0 0)).alloc (prObj none 0 0 0 none 0 0) = W := ⟨_, rfl⟩
  have HB : Hid (Below w.heap.size w W) := Lib.hid (by rw [← hW]; exact below_two (Below.refl _ _))
  have HP : Hid (PBox W w.heap.size (.slice none 0 0) (.int .i64 0) (.slice none 0 0)) := Lib.hid (by rw [← hW]; exact (pbox_alloc0 w _ _ _ _).below (below_box0 _ _))
  have HR : Hid (PBox W (w.heap.size + 1) (.slice none 0 0) (.int .i64 0) (.slice none 0 0)) := Lib.hid (by rw [← hW]; exact pbox_alloc w _ _ _ _ _)
  have HW := Lib.hid hW
  clear hW
  go_enter Tryd.func22, Tryd.ntmps22
  go_wp2_with fail
  rw [HW.out]
  obtain ⟨c0, c1, c2⟩ := HP.out
  obtain ⟨d0, d1, d2⟩ := HR.out
  go_wp2
  go_loop [5] (fun i => i = .int .i64 0) (fun i => 1 - (intOf i).toNat)
  case atStart => rfl
  case round =>
    obtain rfl := hrel
    go_wp2
    go_loop [6] (fun i => i = .int .i64 0) (fun i => 1 - (intOf i).toNat)
    case atStart => rfl
    case round =>
      obtain rfl := hrel
      go_wp2
      go_ret
      exact ⟨rfl, HB.out⟩

set_option maxHeartbeats 3200000 in
theorem same_one (b1 b2 b3 b4 : Nat) (a c z : Int) (w : World) (h1 : Hid (Cells w b1 [a])) (h2 : Hid (Cells w b2 [z])) (h3 : Hid (Cells w b3 [a])) (h4 : Hid (Cells w b4 [z])) :
    Calls Tryd.prog 22 #[prv (some ⟨b1, 0, none⟩) 1 1 c (some ⟨b2, 0, none⟩) 1 1, prv (some ⟨b3, 0, none⟩) 1 1 c (some ⟨b4, 0, none⟩) 1 1] w fun e' w' => e' = .returned (.bool true) ∧ Below w.heap.size w w' := by
  obtain ⟨W, hW⟩ : ∃ W, (w.alloc (prObj (some ⟨b1, 0, none⟩) 1 1 c (some ⟨b2, 0, none⟩) 1 1)).alloc (prObj (some ⟨b3, 0, none⟩) 1 1 c (some ⟨b4, 0, none⟩) 1 1) = W := ⟨_, rfl⟩
  have HB : Hid (Below w.heap.size w W) := Lib.hid (by rw [← hW]; exact below_two (Below.refl _ _))
  have HP : Hid (PBox W w.heap.size (.slice (some ⟨b1, 0, none⟩) 1 1) (.int .i64 c) (.slice (some ⟨b2, 0, none⟩) 1 1)) := Lib.hid (by rw [← hW]; exact (pbox_alloc0 w _ _ _ _).below (below_box0 _ _))
  have HR : Hid (PBox W (w.heap.size + 1) (.slice (some ⟨b3, 0, none⟩) 1 1) (.int .i64 c) (.slice (some ⟨b4, 0, none⟩) 1 1)) := Lib.hid (by rw [← hW]; exact pbox_alloc w _ _ _ _ _)
  have H1 : Hid (W.cell? ⟨b1, 0, none⟩ = some (.int .i64 a)) := Lib.hid (h1.out.below HB.out 0 (by simp))
  have H2 : Hid (W.cell? ⟨b2, 0, none⟩ = some (.int .i64 z)) := Lib.hid (h2.out.below HB.out 0 (by simp))
  have H3 : Hid (W.cell? ⟨b3, 0, none⟩ = some (.int .i64 a)) := Lib.hid (h3.out.below HB.out 0 (by simp))
  have H4 : Hid (W.cell? ⟨b4, 0, none⟩ = some (.int .i64 z)) := Lib.hid (h4.out.below HB.out 0 (by simp))
  have HW := Lib.hid hW
  clear hW
  go_enter Tryd.func22, Tryd.ntmps22
  go_wp2_with fail
  rw [HW.out]
  obtain ⟨c0, c1, c2⟩ := HP.out
  obtain ⟨d0, d1, d2⟩ := HR.out
  have g1 := H1.out
  have g2 := H2.out
  have g3 := H3.out
  have g4 := H4.out
  go_wp2
  go_loopw [5] (fun i wr => ∃ k n : Nat, k ≤ 1 ∧ i = .int .i64 k ∧ wr = W.drewN n) (fun i _ => 1 - (intOf i).toNat)
  case atStart => exact ⟨0, 0, by omega, rfl, rfl⟩
  case round =>
    obtain ⟨k, n, hk, rfl, rfl⟩ := hrel
    by_cases hlt : k = 0
    · subst hlt
      go_wp2
      go_quiet (fail)
      go_wp2
      go_roundw
      case rel => exact ⟨1, _, by omega, by go_num, rfl⟩
      case measure => simp [intOf]
    · obtain rfl : k = 1 := by omega
      clear hlt
      go_wp2
      go_loopw [6] (fun i wr => ∃ k n : Nat, k ≤ 1 ∧ i = .int .i64 k ∧ wr = W.drewN n) (fun i _ => 1 - (intOf i).toNat)
      case atStart => exact ⟨0, n, by omega, rfl, rfl⟩
      case round =>
        obtain ⟨k, n, hk, rfl, rfl⟩ := hrel
        by_cases hlt : k = 0
        · subst hlt
          go_wp2
          go_quiet (fail)
          go_wp2
          go_roundw
          case rel => exact ⟨1, _, by omega, by go_num, rfl⟩
          case measure => simp [intOf]
        · obtain rfl : k = 1 := by omega
          clear hlt
          go_wp2
          go_ret
          exact ⟨rfl, below_drawN HB.out _⟩

theorem great_t (pa : Option Addr) (na ca : Nat) (C : Int) (pz : Option Addr) (nz cz : Nat) (h : 100 < na ∨ 100 < nz) (w : World) :
    Calls Tryd.prog 15 #[prv pa na ca C pz nz cz] w fun e' w' => e' = .returned (.bool true) ∧ Below w.heap.size w w' := by
  by_cases h1 : 100 < na
  · have d1 : decide ((100 : Int) < (na : Int)) = true := by simp; omega
    go_enter Tryd.func15, Tryd.ntmps15
    go_wp2
    go_ret
    exact ⟨rfl, below_box0 _ _⟩
  · have h2 : 100 < nz := by omega
    have d1 : decide ((100 : Int) < (na : Int)) = false := by simp; omega
    have d2 : decide ((100 : Int) < (nz : Int)) = true := by simp; omega
    go_enter Tryd.func15, Tryd.ntmps15
    go_wp2
    go_ret
    exact ⟨rfl, below_box0 _ _⟩

theorem great_f (pa : Option Addr) (na ca : Nat) (C : Int) (pz : Option Addr) (nz cz : Nat) (h1 : na ≤ 100) (h2 : nz ≤ 100) (w : World) :
    Calls Tryd.prog 15 #[prv pa na ca C pz nz cz] w fun e' w' => e' = .returned (.bool false) ∧ Below w.heap.size w w' := by
  have d1 : decide ((100 : Int) < (na : Int)) = false := by simp; omega
  have d2 : decide ((100 : Int) < (nz : Int)) = false := by simp; omega
  go_enter Tryd.func15, Tryd.ntmps15
  go_wp2
  go_ret
  exact ⟨rfl, below_box0 _ _⟩

theorem small_any (w : World) :
    Calls Tryd.prog 38 #[] w fun e' w' => e' = .returned (gv 23 11 4) ∧ Below w.heap.size w w' := by
  go_enter Tryd.func38, Tryd.ntmps38
  go_wp2
  exact bodyPost_ret (v := gv 23 11 4) (by simp [results, Tryd.results38, go_sem]) rfl ⟨rfl, below_box0 _ _⟩

theorem ex16_c : Hid (comE 23 11 4 4 2 = 0) := Lib.hid (by kernel_rfl)
theorem ex16_cv : Hid (comV 23 11 4 4 2 = 16) := Lib.hid (by kernel_rfl)
theorem ex16_r : Hid (resE 23 11 4 2 5 3 = 0) := Lib.hid (by kernel_rfl)
theorem ex16_rv : Hid (resV 23 11 4 2 5 3 = 6) := Lib.hid (by kernel_rfl)
theorem ex16_k : Hid (chkB 23 11 4 4 18 1 16 5 1 6 = true) := Lib.hid (by kernel_rfl)

set_option maxHeartbeats 3200000 in
theorem awake16 (w : World) (hv : Hid (Vars w)) :
    Calls Tryd.prog 14 #[] w fun e' w' => e' = .returned (.bool true) ∧ Below w.heap.size w w' := by
  go_enter Tryd.func14, Tryd.ntmps14
  go_wp2_with fail
  refine (small_any _).mono ?_
  rintro e w1 ⟨rfl, hb1⟩
  have HV1 := Lib.hid (hv.out.below hb1)
  go_wp2_with fail
  refine (commit_any 23 11 4 4 2 16 0 ex16_cv ex16_c (by decide) _ HV1).mono ?_
  rintro e w2 ⟨rfl, hb0⟩
  have hb2 := below_ext hb1 hb0
  have HV2 := Lib.hid (HV1.out.below hb0)
  clear hb0
  go_wp2_with fail
  refine (small_any _).mono ?_
  rintro e w3 ⟨rfl, hb0⟩
  have hb3 := below_ext hb2 hb0
  have HV3 := Lib.hid (HV2.out.below hb0)
  clear hb0
  go_wp2_with fail
  refine (respond_any 23 11 4 2 5 3 6 0 ex16_rv ex16_r (by decide) _ HV3).mono ?_
  rintro e w4 ⟨rfl, hb0⟩
  have hb4 := below_ext hb3 hb0
  have HV4 := Lib.hid (HV3.out.below hb0)
  clear hb0
  go_wp2_with fail
  refine (small_any _).mono ?_
  rintro e w5 ⟨rfl, hb0⟩
  have hb5 := below_ext hb4 hb0
  have HV5 := Lib.hid (HV4.out.below hb0)
  clear hb0
  have HV6 := Lib.hid (HV5.out.below (below_two (w := w5) (o1 := .cells #[.int .i64 16] 3) (o2 := .cells #[.int .i64 6] 3) (Below.refl _ _)))
  have hb6 := below_ext hb5 (below_two (w := w5) (o1 := .cells #[.int .i64 16] 3) (o2 := .cells #[.int .i64 6] 3) (Below.refl _ _))
  have HA : Hid (One ((w5.alloc (.cells #[.int .i64 16] 3)).alloc (.cells #[.int .i64 6] 3)) (some ⟨w5.heap.size, 0, none⟩) 1 16) := Lib.hid (fun _ => ⟨_, _, rfl, (cells1 w5 3 16).below (below_box0 _ _) 0 (by simp)⟩)
  have HZ : Hid (One ((w5.alloc (.cells #[.int .i64 16] 3)).alloc (.cells #[.int .i64 6] 3)) (some ⟨w5.heap.size + 1, 0, none⟩) 1 6) := Lib.hid (fun _ => ⟨_, _, rfl, cells1' w5 _ 3 6 0 (by simp)⟩)
  go_wp2_with fail
  refine (check_any16 23 11 4 4 18 (some ⟨w5.heap.size, 0, none⟩) 1 1 16 5 (some ⟨w5.heap.size + 1, 0, none⟩) 1 1 6 true ex16_k (by decide) _ HV6 HA HZ).mono ?_
  rintro e w7 ⟨rfl, hb0⟩
  have hb7 := below_ext hb6 hb0
  clear hb0
  go_wp2
  go_ret
  exact ⟨rfl, hb7⟩
end Go.Proofs.YtaoodeenbedmhaaDoor
