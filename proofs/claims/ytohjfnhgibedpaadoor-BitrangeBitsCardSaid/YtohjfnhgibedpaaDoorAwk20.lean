/- The example of the statements of layer 20, and equal rows. -/
import Derived.Test.YtohjfnhgibedpaaDoorBitsB
import Derived.Test.YtohjfnhgibedpaaDoorJoinC
namespace Go.Proofs.YtohjfnhgibedpaaDoor
open Go.RowKit SpM
set_option linter.unusedVariables false
set_option linter.unusedSimpArgs false
set_option maxRecDepth 20000

theorem eq_rows (B g n c d : Nat) (xs : List Int) (hn : xs.length = n) (hbig : n < 1000) (w : World) (h1 : Hid (Cells w B xs)) (h2 : Hid (Cells w g xs)) :
    Calls Tryd.prog 10 #[.slice (some ⟨B, 0, none⟩) n c, .slice (some ⟨g, 0, none⟩) n d] w fun e w' => e = .returned (.bool true) ∧ Below w.heap.size w w' := by
  refine (Tryd.slices_Equal_int B 0 n c g 0 n d xs xs w (by omega) (by omega) (by omega) (by omega) (fun j hj => ?_) (fun j hj => ?_)).mono ?_
  · rw [Nat.zero_add]; exact h1.out j hj
  · rw [Nat.zero_add]; exact h2.out j hj
  · rintro e w' ⟨rfl, q, rfl⟩
    exact ⟨by simp, below_drawN (Below.refl _ _) _⟩

theorem rows2 (w : World) (T : TypeId) (x y : Int) : Cells (w.alloc (.cells #[.int .i64 x, .int .i64 y] T)) w.heap.size [x, y] := fun k hk => by
  match k, hk with
  | 0, _ => exact World.cell?_alloc_at _ _ _ _ rfl
  | 1, _ => exact World.cell?_alloc_at _ _ _ _ rfl
theorem rows4 (w : World) (T : TypeId) (x y z t : Int) : Cells (w.alloc (.cells #[.int .i64 x, .int .i64 y, .int .i64 z, .int .i64 t] T)) w.heap.size [x, y, z, t] := fun k hk => by
  match k, hk with
  | 0, _ => exact World.cell?_alloc_at _ _ _ _ rfl
  | 1, _ => exact World.cell?_alloc_at _ _ _ _ rfl
  | 2, _ => exact World.cell?_alloc_at _ _ _ _ rfl
  | 3, _ => exact World.cell?_alloc_at _ _ _ _ rfl
theorem sl_cells {w : World} {b : Nat} {xs : List Int} (h : Cells w b xs) : Sl w (some ⟨b, 0, none⟩) xs := fun k hk => ⟨b, 0, rfl, by rw [Nat.zero_add]; exact h k hk⟩

theorem ex20_b : bitsL 6 4 = [0, 1, 1, 0] := by kernel_rfl
theorem ex20_v : Hid (validB 23 11 4 2 3 9 = true) := Lib.hid (by kernel_rfl)
theorem ex20_m : Hid (([4, 2] : List Int).all (memG 23 11) = true) := Lib.hid (by kernel_rfl)
theorem ex20_j : Hid (joinV 23 11 [4, 2] = 16) := Lib.hid (by kernel_rfl)

set_option maxHeartbeats 6400000 in
theorem awake20 (w : World) (hv : Hid (Vars w)) :
    Calls Tryd.prog 8 #[] w fun e' w' => e' = .returned (.bool true) ∧ Below w.heap.size w w' := by
  go_enter Tryd.func8, Tryd.ntmps8
  go_wp2_with fail
  refine (bits_ok 6 4 (by decide) (by decide) (by decide) (by decide) _).mono ?_
  rintro e w1 ⟨B, rfl, hcb, hb1⟩
  rw [ex20_b] at hcb
  have HC1 := Lib.hid hcb
  have HV1 := Lib.hid (hv.out.below hb1)
  clear hcb
  go_wp2_with fail
  refine (bases20 _).mono ?_
  rintro e w2 ⟨rfl, hb0⟩
  have hb2 := below_ext hb1 hb0
  have HV2 := Lib.hid (HV1.out.below hb0)
  have HC2 := Lib.hid (HC1.out.below hb0)
  clear hb0
  have hq := below_box0 w2 (.cells #[.int .i64 4, .int .i64 2] 3)
  have HS := Lib.hid (sl_cells (rows2 w2 3 4 2))
  have HV3 := Lib.hid (HV2.out.below hq)
  have HC3 := Lib.hid (HC2.out.below hq)
  have hb3 := below_ext hb2 hq
  clear hq
  obtain ⟨W, hW⟩ : ∃ W, w2.alloc (.cells #[.int .i64 4, .int .i64 2] 3) = W := ⟨_, rfl⟩
  rw [hW] at HS HV3 HC3 hb3
  go_wp2_with fail
  try rw [hW]
  clear hW
  refine (join_0 23 11 4 2 3 9 (some ⟨w2.heap.size, 0, none⟩) [4, 2] 2 2 16 ex20_v (by decide) ex20_m ex20_j (Lib.hid rfl) (by decide) (by decide) _ HV3 HS).mono ?_
  rintro e w4 ⟨rfl, hb0⟩
  have hb4 := below_ext hb3 hb0
  have HC4 := Lib.hid (HC3.out.below hb0)
  clear hb0
  have hq := below_box0 w4 (.cells #[.int .i64 0, .int .i64 1, .int .i64 1, .int .i64 0] 3)
  have HR := Lib.hid (rows4 w4 3 0 1 1 0)
  have HC5 := Lib.hid (HC4.out.below hq)
  have hb5 := below_ext hb4 hq
  clear hq
  obtain ⟨W5, hW⟩ : ∃ W, w4.alloc (.cells #[.int .i64 0, .int .i64 1, .int .i64 1, .int .i64 0] 3) = W := ⟨_, rfl⟩
  rw [hW] at HR HC5 hb5
  go_wp2_with fail
  try rw [hW]
  clear hW
  refine (eq_rows B w4.heap.size 4 4 4 [0, 1, 1, 0] rfl (by decide) _ HC5 HR).mono ?_
  rintro e w6 ⟨rfl, hb0⟩
  have hb6 := below_ext hb5 hb0
  clear hb0
  go_wp2
  go_ret
  exact ⟨rfl, hb6⟩
end Go.Proofs.YtohjfnhgibedpaaDoor
