/- The contracts of specieref16.Same (at what simulations answer), and of the law's small functions. -/
import Derived.Test.YtohjfnhgibedpaaDoorKnG
namespace Go.Proofs.YtohjfnhgibedpaaDoor
open Go.RowKit SpM
set_option linter.unusedVariables false
set_option linter.unusedSimpArgs false

theorem pbox_alloc0 (w : World) (T : TypeId) (x y z : Value) : PBox (w.alloc (.cells #[x, y, z] T)) w.heap.size x y z :=
  ⟨World.cell?_alloc_at _ _ _ _ rfl, World.cell?_alloc_at _ _ _ _ rfl, World.cell?_alloc_at _ _ _ _ rfl⟩

theorem great_t (pa : Option Addr) (na ca : Nat) (C : Int) (pz : Option Addr) (nz cz : Nat) (h : 100 < na ∨ 100 < nz) (w : World) :
    Calls Tryd.prog 34 #[prv pa na ca C pz nz cz] w fun e' w' => e' = .returned (.bool true) ∧ Below w.heap.size w w' := by
  by_cases h1 : 100 < na
  · have d1 : decide ((100 : Int) < (na : Int)) = true := by simp; omega
    go_enter Tryd.func34, Tryd.ntmps34
    go_wp2
    go_ret
    exact ⟨rfl, below_box0 _ _⟩
  · have h2 : 100 < nz := by omega
    have d1 : decide ((100 : Int) < (na : Int)) = false := by simp; omega
    have d2 : decide ((100 : Int) < (nz : Int)) = true := by simp; omega
    go_enter Tryd.func34, Tryd.ntmps34
    go_wp2
    go_ret
    exact ⟨rfl, below_box0 _ _⟩

theorem great_f (pa : Option Addr) (na ca : Nat) (C : Int) (pz : Option Addr) (nz cz : Nat) (h1 : na ≤ 100) (h2 : nz ≤ 100) (w : World) :
    Calls Tryd.prog 34 #[prv pa na ca C pz nz cz] w fun e' w' => e' = .returned (.bool false) ∧ Below w.heap.size w w' := by
  have d1 : decide ((100 : Int) < (na : Int)) = false := by simp; omega
  have d2 : decide ((100 : Int) < (nz : Int)) = false := by simp; omega
  go_enter Tryd.func34, Tryd.ntmps34
  go_wp2
  go_ret
  exact ⟨rfl, below_box0 _ _⟩

theorem small_any (w : World) :
    Calls Tryd.prog 66 #[] w fun e' w' => e' = .returned (gv 23 11 4) ∧ Below w.heap.size w w' := by
  go_enter Tryd.func66, Tryd.ntmps66
  go_wp2
  exact bodyPost_ret (v := gv 23 11 4) (by simp [results, Tryd.results66, go_sem]) rfl ⟨rfl, below_box0 _ _⟩

theorem ex16_c : Hid (comE 23 11 4 4 2 = 0) := Lib.hid (by kernel_rfl)
theorem ex16_cv : Hid (comV 23 11 4 4 2 = 16) := Lib.hid (by kernel_rfl)
theorem ex16_r : Hid (resE 23 11 4 2 5 3 = 0) := Lib.hid (by kernel_rfl)
theorem ex16_rv : Hid (resV 23 11 4 2 5 3 = 6) := Lib.hid (by kernel_rfl)
theorem ex16_k : Hid (chkB 23 11 4 4 18 1 16 5 1 6 = true) := Lib.hid (by kernel_rfl)

set_option maxHeartbeats 3200000 in
theorem awake16 (w : World) (hv : Hid (Vars w)) :
    Calls Tryd.prog 33 #[] w fun e' w' => e' = .returned (.bool true) ∧ Below w.heap.size w w' := by
  go_enter Tryd.func33, Tryd.ntmps33
  go_wp2_with fail
  refine (small_any _).mono ?_
  rintro e w1 ⟨rfl, hb1⟩
  have HV1 := Lib.hid (hv.out.below hb1)
  go_wp2_with fail
  refine (commit_any 23 11 4 4 2 16 0 ex16_cv ex16_c (by decide) _ HV1).mono ?_
  rintro e w2 ⟨rfl, hb0⟩
  have hb2 := below_ext hb1 hb0
  have HV2 := Lib.hid (HV1.out.below hb0)
  clear hb0
  go_wp2_with fail
  refine (small_any _).mono ?_
  rintro e w3 ⟨rfl, hb0⟩
  have hb3 := below_ext hb2 hb0
  have HV3 := Lib.hid (HV2.out.below hb0)
  clear hb0
  go_wp2_with fail
  refine (respond_any 23 11 4 2 5 3 6 0 ex16_rv ex16_r (by decide) _ HV3).mono ?_
  rintro e w4 ⟨rfl, hb0⟩
  have hb4 := below_ext hb3 hb0
  have HV4 := Lib.hid (HV3.out.below hb0)
  clear hb0
  go_wp2_with fail
  refine (small_any _).mono ?_
  rintro e w5 ⟨rfl, hb0⟩
  have hb5 := below_ext hb4 hb0
  have HV5 := Lib.hid (HV4.out.below hb0)
  clear hb0
  have HV6 := Lib.hid (HV5.out.below (below_two (w := w5) (o1 := .cells #[.int .i64 16] 3) (o2 := .cells #[.int .i64 6] 3) (Below.refl _ _)))
  have hb6 := below_ext hb5 (below_two (w := w5) (o1 := .cells #[.int .i64 16] 3) (o2 := .cells #[.int .i64 6] 3) (Below.refl _ _))
  have HA : Hid (One ((w5.alloc (.cells #[.int .i64 16] 3)).alloc (.cells #[.int .i64 6] 3)) (some ⟨w5.heap.size, 0, none⟩) 1 16) := Lib.hid (fun _ => ⟨_, _, rfl, (cells1 w5 3 16).below (below_box0 _ _) 0 (by simp)⟩)
  have HZ : Hid (One ((w5.alloc (.cells #[.int .i64 16] 3)).alloc (.cells #[.int .i64 6] 3)) (some ⟨w5.heap.size + 1, 0, none⟩) 1 6) := Lib.hid (fun _ => ⟨_, _, rfl, cells1' w5 _ 3 6 0 (by simp)⟩)
  go_wp2_with fail
  refine (check_any16 23 11 4 4 18 (some ⟨w5.heap.size, 0, none⟩) 1 1 16 5 (some ⟨w5.heap.size + 1, 0, none⟩) 1 1 6 true ex16_k (by decide) _ HV6 HA HZ).mono ?_
  rintro e w7 ⟨rfl, hb0⟩
  have hb7 := below_ext hb6 hb0
  clear hb0
  go_wp2
  go_ret
  exact ⟨rfl, hb7⟩
end Go.Proofs.YtohjfnhgibedpaaDoor
