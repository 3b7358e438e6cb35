/- linear.Simulate; SameProof of layer 17 at proofs that read alike. -/
import Derived.Test.YtijedphpcocfnaaDoorLinQ
import Derived.Test.YtijedphpcocfnaaDoorSlk
namespace Go.Proofs.YtijedphpcocfnaaDoor
open Go.RowKit SpM
set_option linter.unusedVariables false
set_option linter.unusedSimpArgs false
set_option maxRecDepth 100000

theorem sameB_refl (xs : List Int) : sameB xs xs = true := by rw [sameB_beq rfl]; simp

set_option maxHeartbeats 6400000 in
theorem rsamep_true (A1 : Option Addr) (c1 : Nat) (Z1 : Option Addr) (d1 : Nat) (A2 : Option Addr) (c2 : Nat) (Z2 : Option Addr) (d2 : Nat) (al : List Int) (n : Nat) (C : Int) (zl : List Int) (m : Nat) (hn : Hid (al.length = n)) (hm : Hid (zl.length = m)) (hbn : n < 1000000) (hbm : m < 1000000)
    (w : World) (hA1 : Hid (Sl w A1 al)) (hZ1 : Hid (Sl w Z1 zl)) (hA2 : Hid (Sl w A2 al)) (hZ2 : Hid (Sl w Z2 zl)) :
    Calls Tryd.prog 21 #[prvL A1 n c1 C Z1 m d1, prvL A2 n c2 C Z2 m d2] w fun e' w' => e' = .returned (.bool true) ∧ Below w.heap.size w w' := by
  have eC : ((C : Int) == C) = true := by simp
  obtain ⟨w0, hW⟩ : ∃ W, ((w.alloc (prObjL A1 n c1 C Z1 m d1)).alloc (prObjL A2 n c2 C Z2 m d2)) = W := ⟨_, rfl⟩
  have HBw : Hid (Below w.heap.size w w0) := Lib.hid (by rw [← hW]; exact below_two (Below.refl _ _))
  have hc : w0.cell? ⟨w.heap.size, 0, none⟩ = some (.slice A1 n c1) ∧ w0.cell? ⟨w.heap.size, 1, none⟩ = some (.int .i64 C) ∧ w0.cell? ⟨w.heap.size, 2, none⟩ = some (.slice Z1 m d1) ∧ w0.cell? ⟨w.heap.size + 1, 0, none⟩ = some (.slice A2 n c2) ∧ w0.cell? ⟨w.heap.size + 1, 1, none⟩ = some (.int .i64 C) ∧ w0.cell? ⟨w.heap.size + 1, 2, none⟩ = some (.slice Z2 m d2) := by rw [← hW]; exact ⟨cell_below (allocs_cell (by simp) (by rfl)) (below_box0 _ _), cell_below (allocs_cell (by simp) (by rfl)) (below_box0 _ _), cell_below (allocs_cell (by simp) (by rfl)) (below_box0 _ _), allocs_cell (by simp) (by rfl), allocs_cell (by simp) (by rfl), allocs_cell (by simp) (by rfl)⟩
  have kC := Lib.hid (show ∀ u : World, Hid (Below w0.heap.size w0 u) → u.cell? ⟨w.heap.size, 0, none⟩ = some (.slice A1 n c1) ∧ u.cell? ⟨w.heap.size, 1, none⟩ = some (.int .i64 C) ∧ u.cell? ⟨w.heap.size, 2, none⟩ = some (.slice Z1 m d1) ∧ u.cell? ⟨w.heap.size + 1, 0, none⟩ = some (.slice A2 n c2) ∧ u.cell? ⟨w.heap.size + 1, 1, none⟩ = some (.int .i64 C) ∧ u.cell? ⟨w.heap.size + 1, 2, none⟩ = some (.slice Z2 m d2) from fun u h => ⟨cell_below hc.1 h.out, cell_below hc.2.1 h.out, cell_below hc.2.2.1 h.out, cell_below hc.2.2.2.1 h.out, cell_below hc.2.2.2.2.1 h.out, cell_below hc.2.2.2.2.2 h.out⟩)
  have kA1 := Lib.hid (show ∀ u : World, Hid (Below w0.heap.size w0 u) → Hid (Sl u A1 al) from fun u h => Lib.hid ((hA1.out.below) (below_ext HBw.out h.out)))
  have kA2 := Lib.hid (show ∀ u : World, Hid (Below w0.heap.size w0 u) → Hid (Sl u A2 al) from fun u h => Lib.hid ((hA2.out.below) (below_ext HBw.out h.out)))
  have kZ1 := Lib.hid (show ∀ u : World, Hid (Below w0.heap.size w0 u) → Hid (Sl u Z1 zl) from fun u h => Lib.hid ((hZ1.out.below) (below_ext HBw.out h.out)))
  have kZ2 := Lib.hid (show ∀ u : World, Hid (Below w0.heap.size w0 u) → Hid (Sl u Z2 zl) from fun u h => Lib.hid ((hZ2.out.below) (below_ext HBw.out h.out)))
  have HB_0 : Hid (Below w0.heap.size w0 w0) := Lib.hid (Below.refl _ _)
  have HW := Lib.hid hW
  clear hW hc hA1 hZ1 hA2 hZ2
  go_enter Tryd.func21, Tryd.ntmps21
  go_wp2_with fail
  rw [HW.out]
  obtain ⟨zc0, zc1, zc2, zc3, zc4, zc5⟩ := kC.out _ HB_0
  go_wp2_with fail
  refine (rsame_any A1 al n c1 A2 al c2 true (Lib.hid (sameB_refl al)) hn hn hbn _ (kA1.out _ HB_0) (kA2.out _ HB_0)).mono ?_
  rintro e w1 ⟨rfl, hb0⟩
  have HB_1 := Lib.hid (below_ext HB_0.out hb0)
  clear zc0 zc1 zc2 zc3 zc4 zc5
  clear hb0
  obtain ⟨zc0, zc1, zc2, zc3, zc4, zc5⟩ := kC.out _ HB_1
  go_wp2_with fail
  refine (rsame_any Z1 zl m d1 Z2 zl d2 true (Lib.hid (sameB_refl zl)) hm hm hbm _ (kZ1.out _ HB_1) (kZ2.out _ HB_1)).mono ?_
  rintro e w2 ⟨rfl, hb0⟩
  have HB_2 := Lib.hid (below_ext HB_1.out hb0)
  clear zc0 zc1 zc2 zc3 zc4 zc5
  clear hb0
  obtain ⟨zc0, zc1, zc2, zc3, zc4, zc5⟩ := kC.out _ HB_2
  have hbF := below_ext HBw.out HB_2.out
  go_wp2
  go_ret
  exact ⟨rfl, hbF⟩

/-- the zero proof with an error. -/
abbrev pvE (r : Int) : Value := .tuple #[prvL none 0 0 0 none 0 0, .int .i64 r]
/-- a proof that reads so. -/
def ProofOut (al : List Int) (n : Nat) (C : Int) (zl : List Int) (m : Nat) (w : World) (e : Ending) (w' : World) : Prop :=
  ∃ A c Z d, e = .returned (.tuple #[prvL A n c C Z m d, .int .i64 0]) ∧ Sl w' A al ∧ Sl w' Z zl ∧ Below w.heap.size w w'
theorem below_set3' {B a : Nat} {w w1 : World} (h : Below B w w1) (hB : B ≤ a) (x y z : Value) :
    Below B w (((w1.setCell ⟨a, 0, none⟩ x).setCell ⟨a, 1, none⟩ y).setCell ⟨a, 2, none⟩ z) := ((h.setCell hB _).setCell hB _).setCell hB _
theorem Sl.set {w : World} {A : Option Addr} {xs : List Int} {a : Nat} {j : Nat} {v : Value} (h : Sl w A xs) (hne : ∀ b o, A = some ⟨b, o, none⟩ → 0 < xs.length → b ≠ a) : Sl (w.setCell ⟨a, j, none⟩ v) A xs := fun k hk => by
  obtain ⟨b, o, e, hc⟩ := h k hk
  refine ⟨b, o, e, ?_⟩
  have := hne b o e (by omega)
  rw [World.cell?_setCell_far _ _ _ _ (fun e => this e.symm)]
  exact hc

set_option maxHeartbeats 12800000 in
theorem lsimul_bad (P Q G : Int) (Y : Option Addr) (ys : List Int) (yn yc : Nat) (B : Option Addr) (rows : List Row) (bn bc : Nat) (c : Int) (L : Option Addr) (ls : List Int) (ln lc : Nat) (r : Int) (hr : Hid (chkR P Q G ys rows ls [c] = r)) (hne : (r != 0) = true) (hyn : Hid (ys.length = yn)) (hbn : Hid (rows.length = bn)) (hln : Hid (ls.length = ln)) (hlb : ln < 1000000) (hQ : Q < 9223372036854775808) (w : World) (hv : Hid (Vars w)) (hY : Hid (Sl w Y ys)) (hB : Hid (Rw w B rows)) (hL : Hid (Sl w L ls)) :
    Calls Tryd.prog 20 #[gv P Q G, relV Y yn yc B bn bc, .int .i64 c, .slice L ln lc] w fun e' w' => e' = .returned (pvE r) ∧ Below w.heap.size w w' := by
  obtain ⟨w0, hW⟩ : ∃ W, (((w.alloc (gObj P Q G)).alloc (relO Y yn yc B bn bc)).alloc (prObjL none 0 0 0 none 0 0)) = W := ⟨_, rfl⟩
  have HBw : Hid (Below w.heap.size w w0) := Lib.hid (by rw [← hW]; exact (((Below.refl _ _).alloc (Nat.le_refl _) _).alloc (by simp) _).alloc (by simp; omega) _)
  have hc : w0.cell? ⟨w.heap.size, 0, none⟩ = some (.int .i64 P) ∧ w0.cell? ⟨w.heap.size, 1, none⟩ = some (.int .i64 Q) ∧ w0.cell? ⟨w.heap.size, 2, none⟩ = some (.int .i64 G) ∧ w0.cell? ⟨w.heap.size + 1, 0, none⟩ = some (.slice Y yn yc) ∧ w0.cell? ⟨w.heap.size + 1, 1, none⟩ = some (.slice B bn bc) ∧ Own w0 ⟨w.heap.size + 2, 0, none⟩ (.slice none 0 0) ∧ Own w0 ⟨w.heap.size + 2, 1, none⟩ (.int .i64 0) ∧ Own w0 ⟨w.heap.size + 2, 2, none⟩ (.slice none 0 0) := by rw [← hW]; exact ⟨cell_below (cell_below (allocs_cell (by simp) (by rfl)) (below_box0 _ _)) (below_box0 _ _), cell_below (cell_below (allocs_cell (by simp) (by rfl)) (below_box0 _ _)) (below_box0 _ _), cell_below (cell_below (allocs_cell (by simp) (by rfl)) (below_box0 _ _)) (below_box0 _ _), cell_below (allocs_cell (by simp) (by rfl)) (below_box0 _ _), cell_below (allocs_cell (by simp) (by rfl)) (below_box0 _ _), allocs_own (by simp) (by rfl), allocs_own (by simp) (by rfl), allocs_own (by simp) (by rfl)⟩
  have kC := Lib.hid (show ∀ u : World, Hid (Below w0.heap.size w0 u) → u.cell? ⟨w.heap.size, 0, none⟩ = some (.int .i64 P) ∧ u.cell? ⟨w.heap.size, 1, none⟩ = some (.int .i64 Q) ∧ u.cell? ⟨w.heap.size, 2, none⟩ = some (.int .i64 G) ∧ u.cell? ⟨w.heap.size + 1, 0, none⟩ = some (.slice Y yn yc) ∧ u.cell? ⟨w.heap.size + 1, 1, none⟩ = some (.slice B bn bc) ∧ Own u ⟨w.heap.size + 2, 0, none⟩ (.slice none 0 0) ∧ Own u ⟨w.heap.size + 2, 1, none⟩ (.int .i64 0) ∧ Own u ⟨w.heap.size + 2, 2, none⟩ (.slice none 0 0) from fun u h => ⟨cell_below hc.1 h.out, cell_below hc.2.1 h.out, cell_below hc.2.2.1 h.out, cell_below hc.2.2.2.1 h.out, cell_below hc.2.2.2.2.1 h.out, (hc.2.2.2.2.2.1).below h.out, (hc.2.2.2.2.2.2.1).below h.out, (hc.2.2.2.2.2.2.2).below h.out⟩)
  have kV := Lib.hid (show ∀ u : World, Hid (Below w0.heap.size w0 u) → Hid (Vars u) from fun u h => Lib.hid ((hv.out.below) (below_ext HBw.out h.out)))
  have kY := Lib.hid (show ∀ u : World, Hid (Below w0.heap.size w0 u) → Hid (Sl u Y ys) from fun u h => Lib.hid ((hY.out.below) (below_ext HBw.out h.out)))
  have kB := Lib.hid (show ∀ u : World, Hid (Below w0.heap.size w0 u) → Hid (Rw u B rows) from fun u h => Lib.hid ((hB.out.below) (below_ext HBw.out h.out)))
  have kL := Lib.hid (show ∀ u : World, Hid (Below w0.heap.size w0 u) → Hid (Sl u L ls) from fun u h => Lib.hid ((hL.out.below) (below_ext HBw.out h.out)))
  have HB_0 : Hid (Below w0.heap.size w0 w0) := Lib.hid (Below.refl _ _)
  have HW := Lib.hid hW
  clear hW hc hv hY hB hL
  go_enter Tryd.func20, Tryd.ntmps20
  go_wp2_with fail
  rw [HW.out]
  obtain ⟨zc0, zc1, zc2, zc3, zc4, ⟨zc5, zf5⟩, ⟨zc6, zf6⟩, ⟨zc7, zf7⟩⟩ := kC.out _ HB_0
  have hq := below_box0 w0 (.cells #[.int .i64 c] 3)
  have HO : Hid (Sl (w0.alloc (.cells #[.int .i64 c] 3)) (some ⟨w.heap.size + 1 + 1 + 1, 0, none⟩) [c]) := Lib.hid (by
    have e : w.heap.size + 1 + 1 + 1 = w0.heap.size := by rw [← HW.out]; simp
    rw [e]
    exact sl_of_cells (cells1 w0 3 c))
  have HBa := Lib.hid (below_ext HB_0.out hq)
  clear hq
  go_wp2_with fail
  refine (lcheck_any P Q G Y ys yn yc B rows bn bc L ls ln lc (some ⟨w.heap.size + 1 + 1 + 1, 0, none⟩) [c] 1 1 r hr hyn hbn hln hlb (Lib.hid rfl) (by omega) hQ _ (kV.out _ HBa) (kY.out _ HBa) (kB.out _ HBa) (kL.out _ HBa) HO).mono ?_
  rintro e w1 ⟨rfl, hb0⟩
  have HB_1 := Lib.hid (below_ext HBa.out hb0)
  clear zc0 zc1 zc2 zc3 zc4 zc5 zf5 zc6 zf6 zc7 zf7
  clear hb0
  obtain ⟨zc0, zc1, zc2, zc3, zc4, ⟨zc5, zf5⟩, ⟨zc6, zf6⟩, ⟨zc7, zf7⟩⟩ := kC.out _ HB_1
  have hbF := below_ext HBw.out HB_1.out
  go_wp2
  exact bodyPost_ret (v := pvE r) (by simp [results, Tryd.results20, go_sem, zc5, zc6, zc7]) rfl ⟨rfl, below_set3' hbF (by omega) _ _ _⟩

set_option maxHeartbeats 12800000 in
theorem lsimul_ok (P Q G : Int) (Y : Option Addr) (ys : List Int) (yc : Nat) (B : Option Addr) (rows : List Row) (bn bc : Nat) (c : Int) (L : Option Addr) (ls : List Int) (ln lc : Nat) (hr : Hid (chkR P Q G ys rows ls [c] = 0)) (hc0 : 0 ≤ c) (hc1 : c < Q) (hyn : Hid (ys.length = bn)) (hbn : Hid (rows.length = bn)) (hln : Hid (ls.length = ln)) (hlb : ln < 1000000) (hQ : Q < 9223372036854775808) (w : World) (hv : Hid (Vars w)) (hY : Hid (Sl w Y ys)) (hB : Hid (Rw w B rows)) (hL : Hid (Sl w L ls)) :
    Calls Tryd.prog 20 #[gv P Q G, relV Y bn yc B bn bc, .int .i64 c, .slice L ln lc] w (ProofOut (simR P Q c ys rows ls) bn c ls ln w) := by
  obtain ⟨k1, k2, k3, k4⟩ := chkR_0 hr.out
  have HVL := Lib.hid k1
  have Hl := Lib.hid k3
  have hnp : 0 < bn := by have := (validR_parts k1).2.1; have := hyn.out; omega
  have hsl : (simR P Q c ys rows ls).length = bn := by rw [simR_length]; exact hbn.out
  clear k1 k3 k4
  obtain ⟨w0, hW⟩ : ∃ W, (((w.alloc (gObj P Q G)).alloc (relO Y bn yc B bn bc)).alloc (prObjL none 0 0 0 none 0 0)) = W := ⟨_, rfl⟩
  have HBw : Hid (Below w.heap.size w w0) := Lib.hid (by rw [← hW]; exact (((Below.refl _ _).alloc (Nat.le_refl _) _).alloc (by simp) _).alloc (by simp; omega) _)
  have hc : w0.cell? ⟨w.heap.size, 0, none⟩ = some (.int .i64 P) ∧ w0.cell? ⟨w.heap.size, 1, none⟩ = some (.int .i64 Q) ∧ w0.cell? ⟨w.heap.size, 2, none⟩ = some (.int .i64 G) ∧ w0.cell? ⟨w.heap.size + 1, 0, none⟩ = some (.slice Y bn yc) ∧ w0.cell? ⟨w.heap.size + 1, 1, none⟩ = some (.slice B bn bc) ∧ Own w0 ⟨w.heap.size + 2, 0, none⟩ (.slice none 0 0) ∧ Own w0 ⟨w.heap.size + 2, 1, none⟩ (.int .i64 0) ∧ Own w0 ⟨w.heap.size + 2, 2, none⟩ (.slice none 0 0) := by rw [← hW]; exact ⟨cell_below (cell_below (allocs_cell (by simp) (by rfl)) (below_box0 _ _)) (below_box0 _ _), cell_below (cell_below (allocs_cell (by simp) (by rfl)) (below_box0 _ _)) (below_box0 _ _), cell_below (cell_below (allocs_cell (by simp) (by rfl)) (below_box0 _ _)) (below_box0 _ _), cell_below (allocs_cell (by simp) (by rfl)) (below_box0 _ _), cell_below (allocs_cell (by simp) (by rfl)) (below_box0 _ _), allocs_own (by simp) (by rfl), allocs_own (by simp) (by rfl), allocs_own (by simp) (by rfl)⟩
  have kC := Lib.hid (show ∀ u : World, Hid (Below w0.heap.size w0 u) → u.cell? ⟨w.heap.size, 0, none⟩ = some (.int .i64 P) ∧ u.cell? ⟨w.heap.size, 1, none⟩ = some (.int .i64 Q) ∧ u.cell? ⟨w.heap.size, 2, none⟩ = some (.int .i64 G) ∧ u.cell? ⟨w.heap.size + 1, 0, none⟩ = some (.slice Y bn yc) ∧ u.cell? ⟨w.heap.size + 1, 1, none⟩ = some (.slice B bn bc) ∧ Own u ⟨w.heap.size + 2, 0, none⟩ (.slice none 0 0) ∧ Own u ⟨w.heap.size + 2, 1, none⟩ (.int .i64 0) ∧ Own u ⟨w.heap.size + 2, 2, none⟩ (.slice none 0 0) from fun u h => ⟨cell_below hc.1 h.out, cell_below hc.2.1 h.out, cell_below hc.2.2.1 h.out, cell_below hc.2.2.2.1 h.out, cell_below hc.2.2.2.2.1 h.out, (hc.2.2.2.2.2.1).below h.out, (hc.2.2.2.2.2.2.1).below h.out, (hc.2.2.2.2.2.2.2).below h.out⟩)
  have kV := Lib.hid (show ∀ u : World, Hid (Below w0.heap.size w0 u) → Hid (Vars u) from fun u h => Lib.hid ((hv.out.below) (below_ext HBw.out h.out)))
  have kY := Lib.hid (show ∀ u : World, Hid (Below w0.heap.size w0 u) → Hid (Sl u Y ys) from fun u h => Lib.hid ((hY.out.below) (below_ext HBw.out h.out)))
  have kB := Lib.hid (show ∀ u : World, Hid (Below w0.heap.size w0 u) → Hid (Rw u B rows) from fun u h => Lib.hid ((hB.out.below) (below_ext HBw.out h.out)))
  have kL := Lib.hid (show ∀ u : World, Hid (Below w0.heap.size w0 u) → Hid (Sl u L ls) from fun u h => Lib.hid ((hL.out.below) (below_ext HBw.out h.out)))
  have HB_0 : Hid (Below w0.heap.size w0 w0) := Lib.hid (Below.refl _ _)
  have HW := Lib.hid hW
  clear hW hc hv hY hB hL
  go_enter Tryd.func20, Tryd.ntmps20
  go_wp2_with fail
  rw [HW.out]
  obtain ⟨zc0, zc1, zc2, zc3, zc4, ⟨zc5, zf5⟩, ⟨zc6, zf6⟩, ⟨zc7, zf7⟩⟩ := kC.out _ HB_0
  have hq := below_box0 w0 (.cells #[.int .i64 c] 3)
  have HO : Hid (Sl (w0.alloc (.cells #[.int .i64 c] 3)) (some ⟨w.heap.size + 1 + 1 + 1, 0, none⟩) [c]) := Lib.hid (by
    have e : w.heap.size + 1 + 1 + 1 = w0.heap.size := by rw [← HW.out]; simp
    rw [e]
    exact sl_of_cells (cells1 w0 3 c))
  have HBa := Lib.hid (below_ext HB_0.out hq)
  clear hq
  go_wp2_with fail
  refine (lcheck_any P Q G Y ys bn yc B rows bn bc L ls ln lc (some ⟨w.heap.size + 1 + 1 + 1, 0, none⟩) [c] 1 1 0 hr hyn hbn hln hlb (Lib.hid rfl) (by omega) hQ _ (kV.out _ HBa) (kY.out _ HBa) (kB.out _ HBa) (kL.out _ HBa) HO).mono ?_
  rintro e w1 ⟨rfl, hb0⟩
  have HB_1 := Lib.hid (below_ext HBa.out hb0)
  clear zc0 zc1 zc2 zc3 zc4 zc5 zf5 zc6 zf6 zc7 zf7
  clear hb0
  obtain ⟨zc0, zc1, zc2, zc3, zc4, ⟨zc5, zf5⟩, ⟨zc6, zf6⟩, ⟨zc7, zf7⟩⟩ := kC.out _ HB_1
  go_wp2_with fail
  refine (lsim_ok P Q G Y ys yc B rows bn bc c L ls ln lc HVL hyn hbn hln k2 Hl hc0 hc1 hQ _ (kY.out _ HB_1) (kB.out _ HB_1) (kL.out _ HB_1)).mono ?_
  rintro e w2 ⟨g, cap, rfl, hcA, hb0⟩
  have HB_2 := Lib.hid (below_ext HB_1.out hb0)
  clear zc0 zc1 zc2 zc3 zc4 zc5 zf5 zc6 zf6 zc7 zf7
  clear hb0
  have HB_w2_2 : Hid (Below w2.heap.size w2 w2) := Lib.hid (Below.refl _ _)
  obtain ⟨zc0, zc1, zc2, zc3, zc4, ⟨zc5, zf5⟩, ⟨zc6, zf6⟩, ⟨zc7, zf7⟩⟩ := kC.out _ HB_2
  have kA := Lib.hid (show ∀ u : World, Hid (Below w2.heap.size w2 u) → Hid (Sl u (some ⟨g, 0, none⟩) (simR P Q c ys rows ls)) from fun u h => Lib.hid ((Cells.toSl hcA).out.below h.out))
  have hga : g ≠ w.heap.size + 2 := fun e => by
    have h1 := hcA.out 0 (by rw [hsl]; exact hnp)
    rw [e, zc5] at h1
    cases h1
  have hlt5 : w.heap.size + 2 < w2.heap.size := World.block_lt_of_cell? _ _ zc5
  go_wp2_with fail
  refine (clones_any L ls ln lc hln hlb _ (kL.out _ HB_2)).mono ?_
  rintro e w3 ⟨B2, c2, rfl, hz, hgz, hb0⟩
  have HB_3 := Lib.hid (below_ext HB_2.out hb0)
  have HB_w2_3 := Lib.hid (below_ext HB_w2_2.out hb0)
  clear zc0 zc1 zc2 zc3 zc4 zc5 zf5 zc6 zf6 zc7 zf7
  clear hb0
  obtain ⟨zc0, zc1, zc2, zc3, zc4, ⟨zc5, zf5⟩, ⟨zc6, zf6⟩, ⟨zc7, zf7⟩⟩ := kC.out _ HB_3
  have hbF := below_ext HBw.out HB_3.out
  have HA := (kA.out _ HB_w2_3)
  have HZ := Lib.hid hz
  clear hz
  have hgz2 : ∀ b o, B2 = some ⟨b, o, none⟩ → 0 < ls.length → b ≠ w.heap.size + 2 := fun b o e hp => by
    obtain ⟨g3, e3, h3⟩ := hgz hp
    rw [e] at e3
    cases e3
    omega
  clear hgz
  go_wp2
  refine bodyPost_ret (v := .tuple #[prvL (some ⟨g, 0, none⟩) bn cap c B2 ln c2, .int .i64 0]) (by simp [results, Tryd.results20, go_sem, zc5, zc6, zc7]) rfl ⟨_, _, _, _, rfl, ?_, ?_, below_set3' hbF (by omega) _ _ _⟩
  · exact ((HA.out.set (fun b o e _ => by cases e; exact hga)).set (fun b o e _ => by cases e; exact hga)).set (fun b o e _ => by cases e; exact hga)
  · exact ((HZ.out.set hgz2).set hgz2).set hgz2

end Go.Proofs.YtijedphpcocfnaaDoor
