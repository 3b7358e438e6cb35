/- The contracts of group.Mul, Power. -/
import Derived.Test.YtijedphpcocfnaaDoorChk
namespace Go.Proofs.YtijedphpcocfnaaDoor
open Go.RowKit SpM
set_option linter.unusedVariables false

theorem cells2 (w : World) (T : TypeId) (a b : Int) : Cells (w.alloc (.cells #[.int .i64 a, .int .i64 b] T)) w.heap.size [a, b] := by
  intro k hk
  rw [World.cell?_alloc_at _ _ _ _ rfl]
  match k, hk with
  | 0, _ => rfl
  | 1, _ => rfl
theorem cells1 (w : World) (T : TypeId) (a : Int) : Cells (w.alloc (.cells #[.int .i64 a] T)) w.heap.size [a] := by
  intro k hk
  rw [World.cell?_alloc_at _ _ _ _ rfl]
  match k, hk with
  | 0, _ => rfl

theorem cells2' (w : World) (o : Obj) (T : TypeId) (a b : Int) : Cells ((w.alloc o).alloc (.cells #[.int .i64 a, .int .i64 b] T)) (w.heap.size + 1) [a, b] := by
  have h := cells2 (w.alloc o) T a b
  have e : (w.alloc o).heap.size = w.heap.size + 1 := by simp
  rwa [e] at h
theorem cells1' (w : World) (o : Obj) (T : TypeId) (a : Int) : Cells ((w.alloc o).alloc (.cells #[.int .i64 a] T)) (w.heap.size + 1) [a] := by
  have h := cells1 (w.alloc o) T a
  have e : (w.alloc o).heap.size = w.heap.size + 1 := by simp
  rwa [e] at h

theorem chkG_zero {P Q G : Int} {xs : List Int} (h : chkG P Q G xs = 0) : validG P Q G = true ∧ xs.all (memG P Q) = true := by
  unfold chkG at h
  split at h
  · split at h
    · exact ⟨by assumption, by assumption⟩
    · omega
  · omega
theorem chkG_ok {P Q G : Int} {xs : List Int} (h1 : validG P Q G = true) (h2 : xs.all (memG P Q) = true) : chkG P Q G xs = 0 := by
  rw [chkG, if_pos h1, if_pos h2]

theorem below_two {w w1 : World} {o1 o2 : Obj} (h : Below ((w.alloc o1).alloc o2).heap.size ((w.alloc o1).alloc o2) w1) : Below w.heap.size w w1 :=
  below_ext (((Below.refl _ _).alloc (Nat.le_refl _) _).alloc (by simp) _) h

set_option maxHeartbeats 1600000 in
theorem gmul_bad (P Q G a b r : Int) (hr : Hid (chkG P Q G [a, b] = r)) (hne : (r != 0) = true) (hQ : Q < 9223372036854775808) (w : World) (hv : Hid (Vars w)) :
    Calls Tryd.prog 132 #[gv P Q G, .int .i64 a, .int .i64 b] w fun e' w' => e' = .returned (.tuple #[.int .i64 0, .int .i64 r]) ∧ Below w.heap.size w w' := by
  have HV1 := Lib.hid (hv.out.below (below_two (w := w) (o1 := gObj P Q G) (o2 := .cells #[.int .i64 a, .int .i64 b] 3) (Below.refl _ _)))
  have HC := Lib.hid (cells2' w (gObj P Q G) 3 a b)
  go_enter Tryd.func132, Tryd.ntmps132
  go_wp2_with fail
  refine (gcheck_any P Q G _ [a, b] 2 2 (Lib.hid rfl) (by decide) r hr hQ _ HV1 HC).mono ?_
  rintro e w1 ⟨rfl, hb0⟩
  have hb1 := below_two hb0
  clear hb0
  go_wp2
  go_ret2
  exact ⟨rfl, hb1⟩

set_option maxHeartbeats 1600000 in
theorem gmul_ok (P Q G a b v : Int) (hr : Hid (chkG P Q G [a, b] = 0)) (hvv : Hid (a * b % P = v)) (hQ : Q < 9223372036854775808) (w : World) (hv : Hid (Vars w)) :
    Calls Tryd.prog 132 #[gv P Q G, .int .i64 a, .int .i64 b] w fun e' w' => e' = .returned (.tuple #[.int .i64 v, .int .i64 0]) ∧ Below w.heap.size w w' := by
  obtain ⟨hval, hall⟩ := chkG_zero hr.out
  obtain ⟨hp2, hp, hq3, hqp⟩ := validG_P hval
  simp only [List.all_cons, List.all_nil, Bool.and_true, Bool.and_eq_true] at hall
  obtain ⟨ma, mb⟩ := hall
  have la := memG_lo ma
  have ha := memG_hi ma
  have lb := memG_lo mb
  have hb := memG_hi mb
  clear ma mb hval
  have HV1 := Lib.hid (hv.out.below (below_two (w := w) (o1 := gObj P Q G) (o2 := .cells #[.int .i64 a, .int .i64 b] 3) (Below.refl _ _)))
  have HC := Lib.hid (cells2' w (gObj P Q G) 3 a b)
  have HB0 := Lib.hid ((gbox_alloc w P Q G).below (below_box0 (w.alloc (gObj P Q G)) (.cells #[.int .i64 a, .int .i64 b] 3)))
  go_enter Tryd.func132, Tryd.ntmps132
  go_wp2_with fail
  refine (gcheck_any P Q G _ [a, b] 2 2 (Lib.hid rfl) (by decide) 0 hr hQ _ HV1 HC).mono ?_
  rintro e w1 ⟨rfl, hb0⟩
  have hb1 := below_two hb0
  obtain ⟨c0, c1, c2⟩ := HB0.out.below hb0
  clear hb0
  go_wp2_with fail
  refine (wmul_ok a b P hp (by omega) ha (by omega) hb _).mono ?_
  rintro e w2 ⟨rfl, n, rfl⟩
  rw [hvv.out]
  go_wp2
  go_ret2
  exact ⟨rfl, below_drawN hb1 _⟩

set_option maxHeartbeats 1600000 in
theorem gpow_bad (P Q G a k r : Int) (hr : Hid (chkG P Q G [a] = r)) (hne : (r != 0) = true) (hQ : Q < 9223372036854775808) (w : World) (hv : Hid (Vars w)) :
    Calls Tryd.prog 37 #[gv P Q G, .int .i64 a, .int .i64 k] w fun e' w' => e' = .returned (.tuple #[.int .i64 0, .int .i64 r]) ∧ Below w.heap.size w w' := by
  have HV1 := Lib.hid (hv.out.below (below_two (w := w) (o1 := gObj P Q G) (o2 := .cells #[.int .i64 a] 3) (Below.refl _ _)))
  have HC := Lib.hid (cells1' w (gObj P Q G) 3 a)
  go_enter Tryd.func37, Tryd.ntmps37
  go_wp2_with fail
  refine (gcheck_any P Q G _ [a] 1 1 (Lib.hid rfl) (by decide) r hr hQ _ HV1 HC).mono ?_
  rintro e w1 ⟨rfl, hb0⟩
  have hb1 := below_two hb0
  clear hb0
  go_wp2
  go_ret2
  exact ⟨rfl, hb1⟩

set_option maxHeartbeats 1600000 in
theorem gpow_ok (P Q G a k v : Int) (hr : Hid (chkG P Q G [a] = 0)) (hvv : Hid (pw a (k % Q) P = v)) (hk0 : -9223372036854775808 ≤ k) (hk : k < 9223372036854775808) (w : World) (hv : Hid (Vars w)) :
    Calls Tryd.prog 37 #[gv P Q G, .int .i64 a, .int .i64 k] w fun e' w' => e' = .returned (.tuple #[.int .i64 v, .int .i64 0]) ∧ Below w.heap.size w w' := by
  obtain ⟨hval, hall⟩ := chkG_zero hr.out
  obtain ⟨hp2, hp, hq3, hqp⟩ := validG_P hval
  simp only [List.all_cons, List.all_nil, Bool.and_true] at hall
  have la := memG_lo hall
  have ha := memG_hi hall
  clear hall hval
  have k0 : 0 ≤ k % Q := Int.emod_nonneg _ (by omega)
  have k1 : k % Q < Q := Int.emod_lt_of_pos _ (by omega)
  obtain ⟨j, hj⟩ : ∃ j, k % Q = j := ⟨_, rfl⟩
  rw [hj] at k0 k1 hvv
  have HJ := Lib.hid hj
  clear hj
  have HV1 := Lib.hid (hv.out.below (below_two (w := w) (o1 := gObj P Q G) (o2 := .cells #[.int .i64 a] 3) (Below.refl _ _)))
  have HC := Lib.hid (cells1' w (gObj P Q G) 3 a)
  have HB0 := Lib.hid ((gbox_alloc w P Q G).below (below_box0 (w.alloc (gObj P Q G)) (.cells #[.int .i64 a] 3)))
  go_enter Tryd.func37, Tryd.ntmps37
  go_wp2_with fail
  refine (gcheck_any P Q G _ [a] 1 1 (Lib.hid rfl) (by decide) 0 hr (by omega) _ HV1 HC).mono ?_
  rintro e w1 ⟨rfl, hb0⟩
  have hb1 := below_two hb0
  obtain ⟨c0, c1, c2⟩ := HB0.out.below hb0
  clear hb0
  go_wp2_with fail
  refine (reduce_ok k Q (by omega) (by omega) hk0 hk _).mono ?_
  rintro e w2 ⟨rfl, rfl⟩
  rw [HJ.out]
  go_wp2_with fail
  refine (pow_ok a j P (by omega) hp (by omega) ha k0 (by omega) _).mono ?_
  rintro e w2 ⟨rfl, n, rfl⟩
  rw [hvv.out]
  go_wp2
  go_ret2
  exact ⟨rfl, below_drawN hb1 _⟩
end Go.Proofs.YtijedphpcocfnaaDoor
