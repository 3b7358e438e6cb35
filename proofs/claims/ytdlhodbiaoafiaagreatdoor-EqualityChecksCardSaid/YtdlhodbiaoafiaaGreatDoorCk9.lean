/- Contracts and lemmas: EqK. -/
import Derived.Test.YtdlhodbiaoafiaaGreatDoorCk8
namespace Go.Proofs.YtdlhodbiaoafiaaGreatDoor
open Go.RowKit SpM
set_option linter.unusedVariables false
set_option linter.unusedSimpArgs false
set_option maxRecDepth 100000
theorem chkR_eq {P Q G a ya b yb c z : Int} (h : chkG P Q G [a, ya, b, yb] = 0) : chkR P Q G [ya, yb] (eqRows none none a b) [z] [c] = if (scB Q c && scB Q z) = true then 0 else 2 := by
  obtain ⟨hv, hm⟩ := chkG_zero h
  simp only [List.all_cons, List.all_nil, Bool.and_true, Bool.and_eq_true] at hm
  obtain ⟨m1, m2, m3, m4⟩ := hm
  have hV : validR P Q G [ya, yb] (eqRows none none a b) = true := by
    simp [validR, eqRows, rowN, rowB, hv, m1, m2, m3, m4]
  rw [chkR, if_pos hV, if_pos (show [z].length = rowN (eqRows none none a b) from rfl)]
  cases hz : scB Q z <;> cases hc : scB Q c <;> simp [hz, hc]
theorem eqSim_ok {P Q G a ya b yb c z : Int} (h : chkG P Q G [a, ya, b, yb] = 0) (hc : scB Q c = true) (hz : scB Q z = true) :
    eqChk P Q G a ya b yb c (simR P Q c [ya, yb] (eqRows none none a b) [z]) [z] = true := by
  obtain ⟨hv, hm⟩ := chkG_zero h
  simp only [List.all_cons, List.all_nil, Bool.and_true, Bool.and_eq_true] at hm
  obtain ⟨m1, m2, m3, m4⟩ := hm
  have hV : validR P Q G [ya, yb] (eqRows none none a b) = true := by
    simp [validR, eqRows, rowN, rowB, hv, m1, m2, m3, m4]
  rw [eqChk, h, chkL, hV, checkB, hc]
  simp [simR_length, eqRows, rowN, hz]
theorem sl_of_row {w : World} {g : Nat} {a b : Int} {A1 B1 : Option Addr} {T : TypeId} (h : w.heap[g]? = some (.cells #[.slice A1 1 1, .slice B1 1 1] T)) : w.cell? ⟨g, 0, none⟩ = some (.slice A1 1 1) ∧ w.cell? ⟨g, 1, none⟩ = some (.slice B1 1 1) :=
  ⟨cell_blk h 0, cell_blk h 1⟩
set_option maxHeartbeats 25600000 in
theorem ec_great (P Q G a ya b yb : Int) (s : ByteArray) (A : Option Addr) (al : List Int) (na ca : Nat) (C : Int) (Z : Option Addr) (zs : List Int) (nz cz : Nat) (c z : Int) (han : Hid (al.length = na)) (hzn : Hid (zs.length = nz)) (hQ : Q < 9223372036854775808) (hgr : Hid ((decide (100 < na) || decide (100 < nz)) = true)) (w : World) (hv : Hid (Vars w)) (hd : Hid (VarsD w)) (hA : Hid (Sl w A al)) (hZ : Hid (Sl w Z zs)) :
    Calls Tryz.prog 4 #[gv P Q G, .int .i64 a, .int .i64 ya, .int .i64 b, .int .i64 yb, .string s, prvL A na ca C Z nz cz, .int .i64 c, .int .i64 z] w fun e' w' => e' = .returned (.bool true) ∧ Below w.heap.size w w' := by
  obtain ⟨w0, hW⟩ : ∃ W, ((w.alloc (gObj P Q G)).alloc (prObjL A na ca C Z nz cz)) = W := ⟨_, rfl⟩
  have HBw : Hid (Below w.heap.size w w0) := Lib.hid (by rw [← hW]; exact below_two (Below.refl _ _))
  have hc : w0.cell? ⟨w.heap.size, 0, none⟩ = some (.int .i64 P) ∧ w0.cell? ⟨w.heap.size, 1, none⟩ = some (.int .i64 Q) ∧ w0.cell? ⟨w.heap.size, 2, none⟩ = some (.int .i64 G) ∧ w0.cell? ⟨w.heap.size + 1, 0, none⟩ = some (.slice A na ca) ∧ w0.cell? ⟨w.heap.size + 1, 1, none⟩ = some (.int .i64 C) ∧ w0.cell? ⟨w.heap.size + 1, 2, none⟩ = some (.slice Z nz cz) := by rw [← hW]; exact ⟨cell_below (allocs_cell (by simp) (by rfl)) (below_box0 _ _), cell_below (allocs_cell (by simp) (by rfl)) (below_box0 _ _), cell_below (allocs_cell (by simp) (by rfl)) (below_box0 _ _), allocs_cell (by simp) (by rfl), allocs_cell (by simp) (by rfl), allocs_cell (by simp) (by rfl)⟩
  have kC := Lib.hid (show ∀ u : World, Hid (Below w0.heap.size w0 u) → u.cell? ⟨w.heap.size, 0, none⟩ = some (.int .i64 P) ∧ u.cell? ⟨w.heap.size, 1, none⟩ = some (.int .i64 Q) ∧ u.cell? ⟨w.heap.size, 2, none⟩ = some (.int .i64 G) ∧ u.cell? ⟨w.heap.size + 1, 0, none⟩ = some (.slice A na ca) ∧ u.cell? ⟨w.heap.size + 1, 1, none⟩ = some (.int .i64 C) ∧ u.cell? ⟨w.heap.size + 1, 2, none⟩ = some (.slice Z nz cz) from fun u h => ⟨cell_below hc.1 h.out, cell_below hc.2.1 h.out, cell_below hc.2.2.1 h.out, cell_below hc.2.2.2.1 h.out, cell_below hc.2.2.2.2.1 h.out, cell_below hc.2.2.2.2.2 h.out⟩)
  have kV := Lib.hid (show ∀ u : World, Hid (Below w0.heap.size w0 u) → Hid (Vars u) from fun u h => Lib.hid ((hv.out.below) (below_ext HBw.out h.out)))
  have kD := Lib.hid (show ∀ u : World, Hid (Below w0.heap.size w0 u) → Hid (VarsD u) from fun u h => Lib.hid ((hd.out.below) (below_ext HBw.out h.out)))
  have kA := Lib.hid (show ∀ u : World, Hid (Below w0.heap.size w0 u) → Hid (Sl u A al) from fun u h => Lib.hid ((hA.out.below) (below_ext HBw.out h.out)))
  have kZ := Lib.hid (show ∀ u : World, Hid (Below w0.heap.size w0 u) → Hid (Sl u Z zs) from fun u h => Lib.hid ((hZ.out.below) (below_ext HBw.out h.out)))
  have HB_0 : Hid (Below w0.heap.size w0 w0) := Lib.hid (Below.refl _ _)
  have HW := Lib.hid hW
  clear hW hc hv hd hA hZ
  go_enter Tryz.func4, Tryz.ntmps4
  go_wp2_with fail
  rw [HW.out]
  obtain ⟨zc0, zc1, zc2, zc3, zc4, zc5⟩ := kC.out _ HB_0
  go_wp2_with fail
  refine (awake18 _ (kV.out _ HB_0)).mono ?_
  rintro e w1 ⟨rfl, hb0⟩
  have HB_1 := Lib.hid (below_ext HB_0.out hb0)
  clear zc0 zc1 zc2 zc3 zc4 zc5
  clear hb0
  obtain ⟨zc0, zc1, zc2, zc3, zc4, zc5⟩ := kC.out _ HB_1
  go_wp2_with fail
  refine (great18_any A na ca C Z nz cz true hgr _).mono ?_
  rintro e w2 ⟨rfl, hb0⟩
  have HB_2 := Lib.hid (below_ext HB_1.out hb0)
  clear zc0 zc1 zc2 zc3 zc4 zc5
  clear hb0
  obtain ⟨zc0, zc1, zc2, zc3, zc4, zc5⟩ := kC.out _ HB_2
  have hbF := below_ext HBw.out HB_2.out
  go_wp2
  go_ret
  exact ⟨rfl, hbF⟩
set_option maxHeartbeats 25600000 in
theorem ec_long (P Q G a ya b yb : Int) (s : ByteArray) (A : Option Addr) (al : List Int) (na ca : Nat) (C : Int) (Z : Option Addr) (zs : List Int) (nz cz : Nat) (c z : Int) (han : Hid (al.length = na)) (hzn : Hid (zs.length = nz)) (hQ : Q < 9223372036854775808) (hgr : Hid ((decide (100 < na) || decide (100 < nz)) = false)) (hl : 100 < s.size) (w : World) (hv : Hid (Vars w)) (hd : Hid (VarsD w)) (hA : Hid (Sl w A al)) (hZ : Hid (Sl w Z zs)) :
    Calls Tryz.prog 4 #[gv P Q G, .int .i64 a, .int .i64 ya, .int .i64 b, .int .i64 yb, .string s, prvL A na ca C Z nz cz, .int .i64 c, .int .i64 z] w fun e' w' => e' = .returned (.bool true) ∧ Below w.heap.size w w' := by
  have dl : decide ((100 : Int) < (s.size : Int)) = true := by simp; omega
  obtain ⟨w0, hW⟩ : ∃ W, ((w.alloc (gObj P Q G)).alloc (prObjL A na ca C Z nz cz)) = W := ⟨_, rfl⟩
  have HBw : Hid (Below w.heap.size w w0) := Lib.hid (by rw [← hW]; exact below_two (Below.refl _ _))
  have hc : w0.cell? ⟨w.heap.size, 0, none⟩ = some (.int .i64 P) ∧ w0.cell? ⟨w.heap.size, 1, none⟩ = some (.int .i64 Q) ∧ w0.cell? ⟨w.heap.size, 2, none⟩ = some (.int .i64 G) ∧ w0.cell? ⟨w.heap.size + 1, 0, none⟩ = some (.slice A na ca) ∧ w0.cell? ⟨w.heap.size + 1, 1, none⟩ = some (.int .i64 C) ∧ w0.cell? ⟨w.heap.size + 1, 2, none⟩ = some (.slice Z nz cz) := by rw [← hW]; exact ⟨cell_below (allocs_cell (by simp) (by rfl)) (below_box0 _ _), cell_below (allocs_cell (by simp) (by rfl)) (below_box0 _ _), cell_below (allocs_cell (by simp) (by rfl)) (below_box0 _ _), allocs_cell (by simp) (by rfl), allocs_cell (by simp) (by rfl), allocs_cell (by simp) (by rfl)⟩
  have kC := Lib.hid (show ∀ u : World, Hid (Below w0.heap.size w0 u) → u.cell? ⟨w.heap.size, 0, none⟩ = some (.int .i64 P) ∧ u.cell? ⟨w.heap.size, 1, none⟩ = some (.int .i64 Q) ∧ u.cell? ⟨w.heap.size, 2, none⟩ = some (.int .i64 G) ∧ u.cell? ⟨w.heap.size + 1, 0, none⟩ = some (.slice A na ca) ∧ u.cell? ⟨w.heap.size + 1, 1, none⟩ = some (.int .i64 C) ∧ u.cell? ⟨w.heap.size + 1, 2, none⟩ = some (.slice Z nz cz) from fun u h => ⟨cell_below hc.1 h.out, cell_below hc.2.1 h.out, cell_below hc.2.2.1 h.out, cell_below hc.2.2.2.1 h.out, cell_below hc.2.2.2.2.1 h.out, cell_below hc.2.2.2.2.2 h.out⟩)
  have kV := Lib.hid (show ∀ u : World, Hid (Below w0.heap.size w0 u) → Hid (Vars u) from fun u h => Lib.hid ((hv.out.below) (below_ext HBw.out h.out)))
  have kD := Lib.hid (show ∀ u : World, Hid (Below w0.heap.size w0 u) → Hid (VarsD u) from fun u h => Lib.hid ((hd.out.below) (below_ext HBw.out h.out)))
  have kA := Lib.hid (show ∀ u : World, Hid (Below w0.heap.size w0 u) → Hid (Sl u A al) from fun u h => Lib.hid ((hA.out.below) (below_ext HBw.out h.out)))
  have kZ := Lib.hid (show ∀ u : World, Hid (Below w0.heap.size w0 u) → Hid (Sl u Z zs) from fun u h => Lib.hid ((hZ.out.below) (below_ext HBw.out h.out)))
  have HB_0 : Hid (Below w0.heap.size w0 w0) := Lib.hid (Below.refl _ _)
  have HW := Lib.hid hW
  clear hW hc hv hd hA hZ
  go_enter Tryz.func4, Tryz.ntmps4
  go_wp2_with fail
  rw [HW.out]
  obtain ⟨zc0, zc1, zc2, zc3, zc4, zc5⟩ := kC.out _ HB_0
  go_wp2_with fail
  refine (awake18 _ (kV.out _ HB_0)).mono ?_
  rintro e w1 ⟨rfl, hb0⟩
  have HB_1 := Lib.hid (below_ext HB_0.out hb0)
  clear zc0 zc1 zc2 zc3 zc4 zc5
  clear hb0
  obtain ⟨zc0, zc1, zc2, zc3, zc4, zc5⟩ := kC.out _ HB_1
  go_wp2_with fail
  refine (great18_any A na ca C Z nz cz false hgr _).mono ?_
  rintro e w2 ⟨rfl, hb0⟩
  have HB_2 := Lib.hid (below_ext HB_1.out hb0)
  clear zc0 zc1 zc2 zc3 zc4 zc5
  clear hb0
  obtain ⟨zc0, zc1, zc2, zc3, zc4, zc5⟩ := kC.out _ HB_2
  have hbF := below_ext HBw.out HB_2.out
  go_wp2
  go_ret
  exact ⟨rfl, hbF⟩
set_option maxHeartbeats 25600000 in
theorem ec_bad (P Q G a ya b yb : Int) (s : ByteArray) (A : Option Addr) (al : List Int) (na ca : Nat) (C : Int) (Z : Option Addr) (zs : List Int) (nz cz : Nat) (c z : Int) (han : Hid (al.length = na)) (hzn : Hid (zs.length = nz)) (hQ : Q < 9223372036854775808) (hgr : Hid ((decide (100 < na) || decide (100 < nz)) = false)) (hl : s.size ≤ 100) (hna : na < 1000000) (hnz : nz < 1000000) (r : Int) (hr : Hid (chkG P Q G [a, ya, b, yb] = r)) (hne : (r != 0) = true) (w : World) (hv : Hid (Vars w)) (hd : Hid (VarsD w)) (hA : Hid (Sl w A al)) (hZ : Hid (Sl w Z zs)) :
    Calls Tryz.prog 4 #[gv P Q G, .int .i64 a, .int .i64 ya, .int .i64 b, .int .i64 yb, .string s, prvL A na ca C Z nz cz, .int .i64 c, .int .i64 z] w fun e' w' => e' = .returned (.bool true) ∧ Below w.heap.size w w' := by
  have dl : decide ((100 : Int) < (s.size : Int)) = false := by simp; omega
  have hs9 : s.size ≤ 1000 := by omega
  obtain ⟨cb, hcb⟩ : ∃ x, eqChk P Q G a ya b yb C al zs = x := ⟨_, rfl⟩
  have HCB := Lib.hid hcb
  have ecc : (cb != cb) = false := by simp
  clear hcb
  have err : (r == r) = true := by simp
  have HVF : Kp (eqVer P Q G a ya b yb C (bys s) al zs = false) := ⟨by
    rw [eqVer, hr.out, show (r == 0) = false by simpa using hne]; rfl⟩
  obtain ⟨w0, hW⟩ : ∃ W, ((w.alloc (gObj P Q G)).alloc (prObjL A na ca C Z nz cz)) = W := ⟨_, rfl⟩
  have HBw : Hid (Below w.heap.size w w0) := Lib.hid (by rw [← hW]; exact below_two (Below.refl _ _))
  have hc : w0.cell? ⟨w.heap.size, 0, none⟩ = some (.int .i64 P) ∧ w0.cell? ⟨w.heap.size, 1, none⟩ = some (.int .i64 Q) ∧ w0.cell? ⟨w.heap.size, 2, none⟩ = some (.int .i64 G) ∧ w0.cell? ⟨w.heap.size + 1, 0, none⟩ = some (.slice A na ca) ∧ w0.cell? ⟨w.heap.size + 1, 1, none⟩ = some (.int .i64 C) ∧ w0.cell? ⟨w.heap.size + 1, 2, none⟩ = some (.slice Z nz cz) := by rw [← hW]; exact ⟨cell_below (allocs_cell (by simp) (by rfl)) (below_box0 _ _), cell_below (allocs_cell (by simp) (by rfl)) (below_box0 _ _), cell_below (allocs_cell (by simp) (by rfl)) (below_box0 _ _), allocs_cell (by simp) (by rfl), allocs_cell (by simp) (by rfl), allocs_cell (by simp) (by rfl)⟩
  have kC := Lib.hid (show ∀ u : World, Hid (Below w0.heap.size w0 u) → u.cell? ⟨w.heap.size, 0, none⟩ = some (.int .i64 P) ∧ u.cell? ⟨w.heap.size, 1, none⟩ = some (.int .i64 Q) ∧ u.cell? ⟨w.heap.size, 2, none⟩ = some (.int .i64 G) ∧ u.cell? ⟨w.heap.size + 1, 0, none⟩ = some (.slice A na ca) ∧ u.cell? ⟨w.heap.size + 1, 1, none⟩ = some (.int .i64 C) ∧ u.cell? ⟨w.heap.size + 1, 2, none⟩ = some (.slice Z nz cz) from fun u h => ⟨cell_below hc.1 h.out, cell_below hc.2.1 h.out, cell_below hc.2.2.1 h.out, cell_below hc.2.2.2.1 h.out, cell_below hc.2.2.2.2.1 h.out, cell_below hc.2.2.2.2.2 h.out⟩)
  have kV := Lib.hid (show ∀ u : World, Hid (Below w0.heap.size w0 u) → Hid (Vars u) from fun u h => Lib.hid ((hv.out.below) (below_ext HBw.out h.out)))
  have kD := Lib.hid (show ∀ u : World, Hid (Below w0.heap.size w0 u) → Hid (VarsD u) from fun u h => Lib.hid ((hd.out.below) (below_ext HBw.out h.out)))
  have kA := Lib.hid (show ∀ u : World, Hid (Below w0.heap.size w0 u) → Hid (Sl u A al) from fun u h => Lib.hid ((hA.out.below) (below_ext HBw.out h.out)))
  have kZ := Lib.hid (show ∀ u : World, Hid (Below w0.heap.size w0 u) → Hid (Sl u Z zs) from fun u h => Lib.hid ((hZ.out.below) (below_ext HBw.out h.out)))
  have HB_0 : Hid (Below w0.heap.size w0 w0) := Lib.hid (Below.refl _ _)
  have HW := Lib.hid hW
  clear hW hc hv hd hA hZ
  go_enter Tryz.func4, Tryz.ntmps4
  go_wp2_with fail
  rw [HW.out]
  obtain ⟨zc0, zc1, zc2, zc3, zc4, zc5⟩ := kC.out _ HB_0
  go_wp2_with fail
  refine (awake18 _ (kV.out _ HB_0)).mono ?_
  rintro e w1 ⟨rfl, hb0⟩
  have HB_1 := Lib.hid (below_ext HB_0.out hb0)
  clear zc0 zc1 zc2 zc3 zc4 zc5
  clear hb0
  obtain ⟨zc0, zc1, zc2, zc3, zc4, zc5⟩ := kC.out _ HB_1
  go_wp2_with fail
  refine (great18_any A na ca C Z nz cz false hgr _).mono ?_
  rintro e w2 ⟨rfl, hb0⟩
  have HB_2 := Lib.hid (below_ext HB_1.out hb0)
  clear zc0 zc1 zc2 zc3 zc4 zc5
  clear hb0
  obtain ⟨zc0, zc1, zc2, zc3, zc4, zc5⟩ := kC.out _ HB_2
  go_wp2_with fail
  refine (eqrel_bad P Q G a ya b yb hQ r hr hne _ (kV.out _ HB_2)).mono ?_
  rintro e w3 ⟨rfl, hb0⟩
  have HB_3 := Lib.hid (below_ext HB_2.out hb0)
  clear zc0 zc1 zc2 zc3 zc4 zc5
  clear hb0
  obtain ⟨zc0, zc1, zc2, zc3, zc4, zc5⟩ := kC.out _ HB_3
  have hq := below_box0 w3 (relO none 0 0 none 0 0)
  have HB_4 := Lib.hid (below_ext HB_3.out hq)
  have hc : (w3.alloc (relO none 0 0 none 0 0)).cell? ⟨w3.heap.size, 0, none⟩ = some (.slice none 0 0) ∧ (w3.alloc (relO none 0 0 none 0 0)).cell? ⟨w3.heap.size, 1, none⟩ = some (.slice none 0 0) := ⟨allocs_cell rfl (by rfl), allocs_cell rfl (by rfl)⟩
  have HC4 := Lib.hid hc
  clear zc0 zc1 zc2 zc3 zc4 zc5
  clear hq
  obtain ⟨zc0, zc1, zc2, zc3, zc4, zc5⟩ := kC.out _ HB_4
  obtain ⟨zq0, zq1⟩ := hc
  go_wp2_with fail
  obtain ⟨w4, hw⟩ : ∃ x, (w3.alloc (relO none 0 0 none 0 0)) = x := ⟨_, rfl⟩
  rw [hw] at HC4 HB_4 ⊢
  have HSN4 : Hid (w4.heap.size = w3.heap.size + 1) := Lib.hid (by rw [← hw]; simp)
  clear zc0 zc1 zc2 zc3 zc4 zc5 zq0 zq1
  clear hw
  have HB_w4_4 : Hid (Below w4.heap.size w4 w4) := Lib.hid (Below.refl _ _)
  have kR := Lib.hid (show ∀ u : World, Hid (Below w4.heap.size w4 u) → u.cell? ⟨w3.heap.size, 0, none⟩ = some (.slice none 0 0) ∧ u.cell? ⟨w3.heap.size, 1, none⟩ = some (.slice none 0 0) from fun u h => ⟨cell_below HC4.out.1 h.out, cell_below HC4.out.2 h.out⟩)
  obtain ⟨zc0, zc1, zc2, zc3, zc4, zc5⟩ := kC.out _ HB_4
  obtain ⟨kR_0, kR_1⟩ := kR.out _ HB_w4_4
  go_wp2_with fail
  refine (eqsim_bad P Q G a ya b yb c z hQ r hr hne _ (kV.out _ HB_4)).mono ?_
  rintro e w5 ⟨rfl, hb0⟩
  have HB_5 := Lib.hid (below_ext HB_4.out hb0)
  have HB_w4_5 := Lib.hid (below_ext HB_w4_4.out hb0)
  clear zc0 zc1 zc2 zc3 zc4 zc5 kR_0 kR_1
  clear hb0
  obtain ⟨zc0, zc1, zc2, zc3, zc4, zc5⟩ := kC.out _ HB_5
  obtain ⟨kR_0, kR_1⟩ := kR.out _ HB_w4_5
  have hq := below_box0 w5 (prObjL none 0 0 0 none 0 0)
  have HB_6 := Lib.hid (below_ext HB_5.out hq)
  have HB_w4_6 := Lib.hid (below_ext HB_w4_5.out hq)
  have hc : (w5.alloc (prObjL none 0 0 0 none 0 0)).cell? ⟨w5.heap.size, 0, none⟩ = some (.slice none 0 0) ∧ (w5.alloc (prObjL none 0 0 0 none 0 0)).cell? ⟨w5.heap.size, 1, none⟩ = some (.int .i64 0) ∧ (w5.alloc (prObjL none 0 0 0 none 0 0)).cell? ⟨w5.heap.size, 2, none⟩ = some (.slice none 0 0) := ⟨allocs_cell rfl (by rfl), allocs_cell rfl (by rfl), allocs_cell rfl (by rfl)⟩
  have HC6 := Lib.hid hc
  clear zc0 zc1 zc2 zc3 zc4 zc5 kR_0 kR_1
  clear hq
  obtain ⟨zc0, zc1, zc2, zc3, zc4, zc5⟩ := kC.out _ HB_6
  obtain ⟨kR_0, kR_1⟩ := kR.out _ HB_w4_6
  obtain ⟨zq0, zq1, zq2⟩ := hc
  go_wp2_with fail
  obtain ⟨w6, hw⟩ : ∃ x, (w5.alloc (prObjL none 0 0 0 none 0 0)) = x := ⟨_, rfl⟩
  rw [hw] at HC6 HB_6 HB_w4_6 ⊢
  have HSN6 : Hid (w6.heap.size = w5.heap.size + 1) := Lib.hid (by rw [← hw]; simp)
  clear zc0 zc1 zc2 zc3 zc4 zc5 kR_0 kR_1 zq0 zq1 zq2
  clear hw
  have HB_w6_6 : Hid (Below w6.heap.size w6 w6) := Lib.hid (Below.refl _ _)
  have kS := Lib.hid (show ∀ u : World, Hid (Below w6.heap.size w6 u) → u.cell? ⟨w5.heap.size, 0, none⟩ = some (.slice none 0 0) ∧ u.cell? ⟨w5.heap.size, 1, none⟩ = some (.int .i64 0) ∧ u.cell? ⟨w5.heap.size, 2, none⟩ = some (.slice none 0 0) from fun u h => ⟨cell_below HC6.out.1 h.out, cell_below HC6.out.2.1 h.out, cell_below HC6.out.2.2 h.out⟩)
  obtain ⟨zc0, zc1, zc2, zc3, zc4, zc5⟩ := kC.out _ HB_6
  obtain ⟨kR_0, kR_1⟩ := kR.out _ HB_w4_6
  obtain ⟨kS_0, kS_1, kS_2⟩ := kS.out _ HB_w6_6
  go_wp2_with fail
  refine (rfault18_any P Q G a ya b yb r hr hQ _).mono ?_
  rintro e w7 ⟨rfl, hb0⟩
  have HB_7 := Lib.hid (below_ext HB_6.out hb0)
  have HB_w4_7 := Lib.hid (below_ext HB_w4_6.out hb0)
  have HB_w6_7 := Lib.hid (below_ext HB_w6_6.out hb0)
  clear zc0 zc1 zc2 zc3 zc4 zc5 kR_0 kR_1 kS_0 kS_1 kS_2
  clear hb0
  obtain ⟨zc0, zc1, zc2, zc3, zc4, zc5⟩ := kC.out _ HB_7
  obtain ⟨kR_0, kR_1⟩ := kR.out _ HB_w4_7
  obtain ⟨kS_0, kS_1, kS_2⟩ := kS.out _ HB_w6_7
  go_wp2_with fail
  clear zc0 zc1 zc2 zc3 zc4 zc5 kR_0 kR_1 kS_0 kS_1 kS_2
  have hS8 := Lib.hid (show ∀ u1 u2 : World, (Hid (Below w0.heap.size w0 u1) ∧ Hid (Below w4.heap.size w4 u1) ∧ Hid (Below w6.heap.size w6 u1)) → Below u1.heap.size u1 u2 → (u2.cell? ⟨w.heap.size, 0, none⟩ = some (.int .i64 P) ∧ u2.cell? ⟨w.heap.size, 1, none⟩ = some (.int .i64 Q) ∧ u2.cell? ⟨w.heap.size, 2, none⟩ = some (.int .i64 G) ∧ u2.cell? ⟨w.heap.size + 1, 0, none⟩ = some (.slice A na ca) ∧ u2.cell? ⟨w.heap.size + 1, 1, none⟩ = some (.int .i64 C) ∧ u2.cell? ⟨w.heap.size + 1, 2, none⟩ = some (.slice Z nz cz) ∧ u2.cell? ⟨w3.heap.size, 0, none⟩ = some (.slice none 0 0) ∧ u2.cell? ⟨w3.heap.size, 1, none⟩ = some (.slice none 0 0) ∧ u2.cell? ⟨w5.heap.size, 0, none⟩ = some (.slice none 0 0) ∧ u2.cell? ⟨w5.heap.size, 1, none⟩ = some (.int .i64 0) ∧ u2.cell? ⟨w5.heap.size, 2, none⟩ = some (.slice none 0 0) ∧ Hid (Below w0.heap.size w0 u2) ∧ Hid (Below w4.heap.size w4 u2) ∧ Hid (Below w6.heap.size w6 u2)) from fun u1 u2 h1 h2 => by
    obtain ⟨q0, q1, q2⟩ := h1
    have r0 := Lib.hid (below_ext q0.out h2)
    have r1 := Lib.hid (below_ext q1.out h2)
    have r2 := Lib.hid (below_ext q2.out h2)
    obtain ⟨y0, y1, y2, y3, y4, y5⟩ := kC.out _ r0
    obtain ⟨kR_0, kR_1⟩ := kR.out _ r1
    obtain ⟨kS_0, kS_1, kS_2⟩ := kS.out _ r2
    exact ⟨y0, y1, y2, y3, y4, y5, kR_0, kR_1, kS_0, kS_1, kS_2, r0, r1, r2⟩)
  have HR8 := Lib.hid (show Hid (Below w0.heap.size w0 w7) ∧ Hid (Below w4.heap.size w4 w7) ∧ Hid (Below w6.heap.size w6 w7) from ⟨HB_7, HB_w4_7, HB_w6_7⟩)
  go_region_held3 (fun w' => w'.cell? ⟨w.heap.size, 0, none⟩ = some (.int .i64 P) ∧ w'.cell? ⟨w.heap.size, 1, none⟩ = some (.int .i64 Q) ∧ w'.cell? ⟨w.heap.size, 2, none⟩ = some (.int .i64 G) ∧ w'.cell? ⟨w.heap.size + 1, 0, none⟩ = some (.slice A na ca) ∧ w'.cell? ⟨w.heap.size + 1, 1, none⟩ = some (.int .i64 C) ∧ w'.cell? ⟨w.heap.size + 1, 2, none⟩ = some (.slice Z nz cz) ∧ w'.cell? ⟨w3.heap.size, 0, none⟩ = some (.slice none 0 0) ∧ w'.cell? ⟨w3.heap.size, 1, none⟩ = some (.slice none 0 0) ∧ w'.cell? ⟨w5.heap.size, 0, none⟩ = some (.slice none 0 0) ∧ w'.cell? ⟨w5.heap.size, 1, none⟩ = some (.int .i64 0) ∧ w'.cell? ⟨w5.heap.size, 2, none⟩ = some (.slice none 0 0) ∧ Hid (Below w0.heap.size w0 w') ∧ Hid (Below w4.heap.size w4 w') ∧ Hid (Below w6.heap.size w6 w'))
    (first | exact hS8.out _ _ HR8.out ((Below.refl _ _).drew) | (exact hS8.out _ _ (by go_split_ands; exact ⟨(by assumption), (by assumption), (by assumption)⟩) hbA) | go_keep)
    ((first
      | (go_at_call 16; (with_reducible refine (eqck_any P Q G a ya b yb A al na ca C Z zs nz cz han hzn hna hnz hQ cb HCB _ ?_ ?_ ?_).mono ?_); (go_split_ands; exact kV.out _ (by assumption)); (go_split_ands; exact kA.out _ (by assumption)); (go_split_ands; exact kZ.out _ (by assumption)); rintro e wA ⟨rfl, hbA⟩)
      | (go_at_call 17; (with_reducible refine (reqck_any P Q G a ya b yb A al na ca C Z zs nz cz han hzn hna hnz hQ cb HCB _ ?_ ?_).mono ?_); (go_split_ands; exact kA.out _ (by assumption)); (go_split_ands; exact kZ.out _ (by assumption)); rintro e wA ⟨rfl, hbA⟩)))
  rename_i hHeld
  obtain ⟨x0, x1, x2, x3, x4, x5, x6, x7, x8, x9, x10, HN8_0, HN8_1, HN8_2⟩ := hHeld
  clear hS8 HR8 x0 x1 x2 x3 x4 x5 x6 x7 x8 x9 x10
  obtain ⟨zc0, zc1, zc2, zc3, zc4, zc5⟩ := kC.out _ HN8_0
  obtain ⟨kR_0, kR_1⟩ := kR.out _ HN8_1
  obtain ⟨kS_0, kS_1, kS_2⟩ := kS.out _ HN8_2
  go_wp2_with fail
  refine (same18_any none [] 0 0 0 none [] 0 0 none [] 0 0 0 none [] 0 0 (Lib.hid rfl) (Lib.hid rfl) (Lib.hid rfl) (Lib.hid rfl) (by omega) (by omega) (by omega) (by omega) true (Lib.hid rfl) _ (Lib.hid (sl_nil _)) (Lib.hid (sl_nil _)) (Lib.hid (sl_nil _)) (Lib.hid (sl_nil _))).mono ?_
  rintro e w9 ⟨rfl, hb0⟩
  have HB_9 := Lib.hid (below_ext HN8_0.out hb0)
  have HB_w4_9 := Lib.hid (below_ext HN8_1.out hb0)
  have HB_w6_9 := Lib.hid (below_ext HN8_2.out hb0)
  clear zc0 zc1 zc2 zc3 zc4 zc5 kR_0 kR_1 kS_0 kS_1 kS_2
  clear hb0
  obtain ⟨zc0, zc1, zc2, zc3, zc4, zc5⟩ := kC.out _ HB_9
  obtain ⟨kR_0, kR_1⟩ := kR.out _ HB_w4_9
  obtain ⟨kS_0, kS_1, kS_2⟩ := kS.out _ HB_w6_9
  go_wp2_with fail
  refine (eqvr_any P Q G a ya b yb A al na ca C Z zs nz cz han hzn hna hnz hQ s hs9 false HVF _ (kV.out _ HB_9) (kD.out _ HB_9) (kA.out _ HB_9) (kZ.out _ HB_9)).mono ?_
  rintro e w10 ⟨rfl, hb0⟩
  have HB_10 := Lib.hid (below_ext HB_9.out hb0)
  have HB_w4_10 := Lib.hid (below_ext HB_w4_9.out hb0)
  have HB_w6_10 := Lib.hid (below_ext HB_w6_9.out hb0)
  clear zc0 zc1 zc2 zc3 zc4 zc5 kR_0 kR_1 kS_0 kS_1 kS_2
  clear hb0
  obtain ⟨zc0, zc1, zc2, zc3, zc4, zc5⟩ := kC.out _ HB_10
  obtain ⟨kR_0, kR_1⟩ := kR.out _ HB_w4_10
  obtain ⟨kS_0, kS_1, kS_2⟩ := kS.out _ HB_w6_10
  have hbF := below_ext HBw.out HB_10.out
  go_wp2
  go_ret
  exact ⟨rfl, hbF⟩
set_option maxHeartbeats 25600000 in
theorem ec_no (P Q G a ya b yb : Int) (s : ByteArray) (A : Option Addr) (al : List Int) (na ca : Nat) (C : Int) (Z : Option Addr) (zs : List Int) (nz cz : Nat) (c z : Int) (han : Hid (al.length = na)) (hzn : Hid (zs.length = nz)) (hQ : Q < 9223372036854775808) (hgr : Hid ((decide (100 < na) || decide (100 < nz)) = false)) (hl : s.size ≤ 100) (hna : na < 1000000) (hnz : nz < 1000000) (hr : Hid (chkG P Q G [a, ya, b, yb] = 0)) (sc : Bool) (hsc : Hid (scB Q c = sc)) (hsz : Hid (sc = false ∨ scB Q z = false)) (hr2 : Hid (chkR P Q G [ya, yb] (eqRows none none a b) [z] [c] = 2)) (w : World) (hv : Hid (Vars w)) (hd : Hid (VarsD w)) (hA : Hid (Sl w A al)) (hZ : Hid (Sl w Z zs)) :
    Calls Tryz.prog 4 #[gv P Q G, .int .i64 a, .int .i64 ya, .int .i64 b, .int .i64 yb, .string s, prvL A na ca C Z nz cz, .int .i64 c, .int .i64 z] w fun e' w' => e' = .returned (.bool true) ∧ Below w.heap.size w w' := by
  have dl : decide ((100 : Int) < (s.size : Int)) = false := by simp; omega
  have hs9 : s.size ≤ 1000 := by omega
  obtain ⟨cb, hcb⟩ : ∃ x, eqChk P Q G a ya b yb C al zs = x := ⟨_, rfl⟩
  have HCB := Lib.hid hcb
  have ecc : (cb != cb) = false := by simp
  clear hcb
  obtain ⟨w0, hW⟩ : ∃ W, ((w.alloc (gObj P Q G)).alloc (prObjL A na ca C Z nz cz)) = W := ⟨_, rfl⟩
  have HBw : Hid (Below w.heap.size w w0) := Lib.hid (by rw [← hW]; exact below_two (Below.refl _ _))
  have hc : w0.cell? ⟨w.heap.size, 0, none⟩ = some (.int .i64 P) ∧ w0.cell? ⟨w.heap.size, 1, none⟩ = some (.int .i64 Q) ∧ w0.cell? ⟨w.heap.size, 2, none⟩ = some (.int .i64 G) ∧ w0.cell? ⟨w.heap.size + 1, 0, none⟩ = some (.slice A na ca) ∧ w0.cell? ⟨w.heap.size + 1, 1, none⟩ = some (.int .i64 C) ∧ w0.cell? ⟨w.heap.size + 1, 2, none⟩ = some (.slice Z nz cz) := by rw [← hW]; exact ⟨cell_below (allocs_cell (by simp) (by rfl)) (below_box0 _ _), cell_below (allocs_cell (by simp) (by rfl)) (below_box0 _ _), cell_below (allocs_cell (by simp) (by rfl)) (below_box0 _ _), allocs_cell (by simp) (by rfl), allocs_cell (by simp) (by rfl), allocs_cell (by simp) (by rfl)⟩
  have kC := Lib.hid (show ∀ u : World, Hid (Below w0.heap.size w0 u) → u.cell? ⟨w.heap.size, 0, none⟩ = some (.int .i64 P) ∧ u.cell? ⟨w.heap.size, 1, none⟩ = some (.int .i64 Q) ∧ u.cell? ⟨w.heap.size, 2, none⟩ = some (.int .i64 G) ∧ u.cell? ⟨w.heap.size + 1, 0, none⟩ = some (.slice A na ca) ∧ u.cell? ⟨w.heap.size + 1, 1, none⟩ = some (.int .i64 C) ∧ u.cell? ⟨w.heap.size + 1, 2, none⟩ = some (.slice Z nz cz) from fun u h => ⟨cell_below hc.1 h.out, cell_below hc.2.1 h.out, cell_below hc.2.2.1 h.out, cell_below hc.2.2.2.1 h.out, cell_below hc.2.2.2.2.1 h.out, cell_below hc.2.2.2.2.2 h.out⟩)
  have kV := Lib.hid (show ∀ u : World, Hid (Below w0.heap.size w0 u) → Hid (Vars u) from fun u h => Lib.hid ((hv.out.below) (below_ext HBw.out h.out)))
  have kD := Lib.hid (show ∀ u : World, Hid (Below w0.heap.size w0 u) → Hid (VarsD u) from fun u h => Lib.hid ((hd.out.below) (below_ext HBw.out h.out)))
  have kA := Lib.hid (show ∀ u : World, Hid (Below w0.heap.size w0 u) → Hid (Sl u A al) from fun u h => Lib.hid ((hA.out.below) (below_ext HBw.out h.out)))
  have kZ := Lib.hid (show ∀ u : World, Hid (Below w0.heap.size w0 u) → Hid (Sl u Z zs) from fun u h => Lib.hid ((hZ.out.below) (below_ext HBw.out h.out)))
  have HB_0 : Hid (Below w0.heap.size w0 w0) := Lib.hid (Below.refl _ _)
  have HW := Lib.hid hW
  clear hW hc hv hd hA hZ
  go_enter Tryz.func4, Tryz.ntmps4
  go_wp2_with fail
  rw [HW.out]
  obtain ⟨zc0, zc1, zc2, zc3, zc4, zc5⟩ := kC.out _ HB_0
  go_wp2_with fail
  refine (awake18 _ (kV.out _ HB_0)).mono ?_
  rintro e w1 ⟨rfl, hb0⟩
  have HB_1 := Lib.hid (below_ext HB_0.out hb0)
  clear zc0 zc1 zc2 zc3 zc4 zc5
  clear hb0
  obtain ⟨zc0, zc1, zc2, zc3, zc4, zc5⟩ := kC.out _ HB_1
  go_wp2_with fail
  refine (great18_any A na ca C Z nz cz false hgr _).mono ?_
  rintro e w2 ⟨rfl, hb0⟩
  have HB_2 := Lib.hid (below_ext HB_1.out hb0)
  clear zc0 zc1 zc2 zc3 zc4 zc5
  clear hb0
  obtain ⟨zc0, zc1, zc2, zc3, zc4, zc5⟩ := kC.out _ HB_2
  go_wp2_with fail
  refine (eqrel_ok P Q G a ya b yb hQ hr _ (kV.out _ HB_2)).mono ?_
  intro e w3 hE
  obtain ⟨g, rfl, hE, _, hb0⟩ := hE
  have HE := Lib.hid hE
  clear hE
  have HB_3 := Lib.hid (below_ext HB_2.out hb0)
  clear zc0 zc1 zc2 zc3 zc4 zc5
  clear hb0
  obtain ⟨zc0, zc1, zc2, zc3, zc4, zc5⟩ := kC.out _ HB_3
  have HB_w3_3 : Hid (Below w3.heap.size w3 w3) := Lib.hid (Below.refl _ _)
  have kY1 := Lib.hid (show ∀ u : World, Hid (Below w3.heap.size w3 u) → Hid (Sl u (some ⟨g + 1, 0, none⟩) [ya, yb]) from fun u h => Lib.hid (HE.out.sl.1.below h.out))
  have kX1 := Lib.hid (show ∀ u : World, Hid (Below w3.heap.size w3 u) → Hid (Sl u (some ⟨g + 1 + 1, 0, none⟩) [a]) from fun u h => Lib.hid ((sl_blk HE.out.2.1 (fun k hk => by match k, hk with | 0, _ => rfl)).below h.out))
  have kX2 := Lib.hid (show ∀ u : World, Hid (Below w3.heap.size w3 u) → Hid (Sl u (some ⟨g + 1 + 1 + 1, 0, none⟩) [b]) from fun u h => Lib.hid ((sl_blk HE.out.2.2.1 (fun k hk => by match k, hk with | 0, _ => rfl)).below h.out))
  have kRW := Lib.hid (show ∀ u : World, Hid (Below w3.heap.size w3 u) → u.cell? ⟨g + 1 + 1 + 1 + 1, 0, none⟩ = some (.slice (some ⟨g + 1 + 1, 0, none⟩) 1 1) ∧ u.cell? ⟨g + 1 + 1 + 1 + 1, 1, none⟩ = some (.slice (some ⟨g + 1 + 1 + 1, 0, none⟩) 1 1) from fun u h => ⟨cell_below (sl_of_row (a := a) (b := b) HE.out.2.2.2).1 h.out, cell_below (sl_of_row (a := a) (b := b) HE.out.2.2.2).2 h.out⟩)
  have hq := below_box0 w3 (relO (some ⟨g + 1, 0, none⟩) 2 2 (some ⟨g + 1 + 1 + 1 + 1, 0, none⟩) 2 2)
  have HB_4 := Lib.hid (below_ext HB_3.out hq)
  have HB_w3_4 := Lib.hid (below_ext HB_w3_3.out hq)
  have hc : (w3.alloc (relO (some ⟨g + 1, 0, none⟩) 2 2 (some ⟨g + 1 + 1 + 1 + 1, 0, none⟩) 2 2)).cell? ⟨w3.heap.size, 0, none⟩ = some (.slice (some ⟨g + 1, 0, none⟩) 2 2) ∧ (w3.alloc (relO (some ⟨g + 1, 0, none⟩) 2 2 (some ⟨g + 1 + 1 + 1 + 1, 0, none⟩) 2 2)).cell? ⟨w3.heap.size, 1, none⟩ = some (.slice (some ⟨g + 1 + 1 + 1 + 1, 0, none⟩) 2 2) := ⟨allocs_cell rfl (by rfl), allocs_cell rfl (by rfl)⟩
  have HC4 := Lib.hid hc
  clear zc0 zc1 zc2 zc3 zc4 zc5
  clear hq
  obtain ⟨zc0, zc1, zc2, zc3, zc4, zc5⟩ := kC.out _ HB_4
  obtain ⟨zq0, zq1⟩ := hc
  go_wp2_with fail
  obtain ⟨w4, hw⟩ : ∃ x, (w3.alloc (relO (some ⟨g + 1, 0, none⟩) 2 2 (some ⟨g + 1 + 1 + 1 + 1, 0, none⟩) 2 2)) = x := ⟨_, rfl⟩
  rw [hw] at HC4 HB_4 HB_w3_4 ⊢
  have HSN4 : Hid (w4.heap.size = w3.heap.size + 1) := Lib.hid (by rw [← hw]; simp)
  clear zc0 zc1 zc2 zc3 zc4 zc5 zq0 zq1
  clear hw
  have HB_w4_4 : Hid (Below w4.heap.size w4 w4) := Lib.hid (Below.refl _ _)
  have kR := Lib.hid (show ∀ u : World, Hid (Below w4.heap.size w4 u) → u.cell? ⟨w3.heap.size, 0, none⟩ = some (.slice (some ⟨g + 1, 0, none⟩) 2 2) ∧ u.cell? ⟨w3.heap.size, 1, none⟩ = some (.slice (some ⟨g + 1 + 1 + 1 + 1, 0, none⟩) 2 2) from fun u h => ⟨cell_below HC4.out.1 h.out, cell_below HC4.out.2 h.out⟩)
  obtain ⟨zc0, zc1, zc2, zc3, zc4, zc5⟩ := kC.out _ HB_4
  obtain ⟨kR_0, kR_1⟩ := kR.out _ HB_w4_4
  clear zc0 zc1 zc2 zc3 zc4 zc5 kR_0 kR_1
  obtain ⟨zc0, zc1, zc2, zc3, zc4, zc5⟩ := kC.out _ HB_4
  obtain ⟨kR_0, kR_1⟩ := kR.out _ HB_w4_4
  obtain ⟨kRW_0, kRW_1⟩ := kRW.out _ HB_w3_4
  go_wp2_with fail
  refine (eqsim_l P Q G a ya b yb c z hQ hr 2 hr2 rfl _ (kV.out _ HB_4)).mono ?_
  rintro e w5 ⟨rfl, hb0⟩
  have HB_5 := Lib.hid (below_ext HB_4.out hb0)
  have HB_w3_5 := Lib.hid (below_ext HB_w3_4.out hb0)
  have HB_w4_5 := Lib.hid (below_ext HB_w4_4.out hb0)
  clear zc0 zc1 zc2 zc3 zc4 zc5 kR_0 kR_1 kRW_0 kRW_1
  clear hb0
  obtain ⟨zc0, zc1, zc2, zc3, zc4, zc5⟩ := kC.out _ HB_5
  obtain ⟨kR_0, kR_1⟩ := kR.out _ HB_w4_5
  obtain ⟨kRW_0, kRW_1⟩ := kRW.out _ HB_w3_5
  have hq := below_box0 w5 (prObjL none 0 0 0 none 0 0)
  have HB_6 := Lib.hid (below_ext HB_5.out hq)
  have HB_w3_6 := Lib.hid (below_ext HB_w3_5.out hq)
  have HB_w4_6 := Lib.hid (below_ext HB_w4_5.out hq)
  have hc : (w5.alloc (prObjL none 0 0 0 none 0 0)).cell? ⟨w5.heap.size, 0, none⟩ = some (.slice none 0 0) ∧ (w5.alloc (prObjL none 0 0 0 none 0 0)).cell? ⟨w5.heap.size, 1, none⟩ = some (.int .i64 0) ∧ (w5.alloc (prObjL none 0 0 0 none 0 0)).cell? ⟨w5.heap.size, 2, none⟩ = some (.slice none 0 0) := ⟨allocs_cell rfl (by rfl), allocs_cell rfl (by rfl), allocs_cell rfl (by rfl)⟩
  have HC6 := Lib.hid hc
  clear zc0 zc1 zc2 zc3 zc4 zc5 kR_0 kR_1 kRW_0 kRW_1
  clear hq
  obtain ⟨zc0, zc1, zc2, zc3, zc4, zc5⟩ := kC.out _ HB_6
  obtain ⟨kR_0, kR_1⟩ := kR.out _ HB_w4_6
  obtain ⟨kRW_0, kRW_1⟩ := kRW.out _ HB_w3_6
  obtain ⟨zq0, zq1, zq2⟩ := hc
  go_wp2_with fail
  obtain ⟨w6, hw⟩ : ∃ x, (w5.alloc (prObjL none 0 0 0 none 0 0)) = x := ⟨_, rfl⟩
  rw [hw] at HC6 HB_6 HB_w3_6 HB_w4_6 ⊢
  have HSN6 : Hid (w6.heap.size = w5.heap.size + 1) := Lib.hid (by rw [← hw]; simp)
  clear zc0 zc1 zc2 zc3 zc4 zc5 kR_0 kR_1 kRW_0 kRW_1 zq0 zq1 zq2
  clear hw
  have HB_w6_6 : Hid (Below w6.heap.size w6 w6) := Lib.hid (Below.refl _ _)
  have kS := Lib.hid (show ∀ u : World, Hid (Below w6.heap.size w6 u) → u.cell? ⟨w5.heap.size, 0, none⟩ = some (.slice none 0 0) ∧ u.cell? ⟨w5.heap.size, 1, none⟩ = some (.int .i64 0) ∧ u.cell? ⟨w5.heap.size, 2, none⟩ = some (.slice none 0 0) from fun u h => ⟨cell_below HC6.out.1 h.out, cell_below HC6.out.2.1 h.out, cell_below HC6.out.2.2 h.out⟩)
  obtain ⟨zc0, zc1, zc2, zc3, zc4, zc5⟩ := kC.out _ HB_6
  obtain ⟨kR_0, kR_1⟩ := kR.out _ HB_w4_6
  obtain ⟨kRW_0, kRW_1⟩ := kRW.out _ HB_w3_6
  obtain ⟨kS_0, kS_1, kS_2⟩ := kS.out _ HB_w6_6
  go_wp2_with fail
  refine (rfault18_any P Q G a ya b yb 0 hr hQ _).mono ?_
  rintro e w7 ⟨rfl, hb0⟩
  have HB_7 := Lib.hid (below_ext HB_6.out hb0)
  have HB_w3_7 := Lib.hid (below_ext HB_w3_6.out hb0)
  have HB_w4_7 := Lib.hid (below_ext HB_w4_6.out hb0)
  have HB_w6_7 := Lib.hid (below_ext HB_w6_6.out hb0)
  clear zc0 zc1 zc2 zc3 zc4 zc5 kR_0 kR_1 kRW_0 kRW_1 kS_0 kS_1 kS_2
  clear hb0
  obtain ⟨zc0, zc1, zc2, zc3, zc4, zc5⟩ := kC.out _ HB_7
  obtain ⟨kR_0, kR_1⟩ := kR.out _ HB_w4_7
  obtain ⟨kRW_0, kRW_1⟩ := kRW.out _ HB_w3_7
  obtain ⟨kS_0, kS_1, kS_2⟩ := kS.out _ HB_w6_7
  go_wp2_with fail
  clear zc0 zc1 zc2 zc3 zc4 zc5 kR_0 kR_1 kRW_0 kRW_1 kS_0 kS_1 kS_2
  have hS8 := Lib.hid (show ∀ u1 u2 : World, (Hid (Below w0.heap.size w0 u1) ∧ Hid (Below w3.heap.size w3 u1) ∧ Hid (Below w4.heap.size w4 u1) ∧ Hid (Below w6.heap.size w6 u1)) → Below u1.heap.size u1 u2 → (u2.cell? ⟨w.heap.size, 0, none⟩ = some (.int .i64 P) ∧ u2.cell? ⟨w.heap.size, 1, none⟩ = some (.int .i64 Q) ∧ u2.cell? ⟨w.heap.size, 2, none⟩ = some (.int .i64 G) ∧ u2.cell? ⟨w.heap.size + 1, 0, none⟩ = some (.slice A na ca) ∧ u2.cell? ⟨w.heap.size + 1, 1, none⟩ = some (.int .i64 C) ∧ u2.cell? ⟨w.heap.size + 1, 2, none⟩ = some (.slice Z nz cz) ∧ u2.cell? ⟨w3.heap.size, 0, none⟩ = some (.slice (some ⟨g + 1, 0, none⟩) 2 2) ∧ u2.cell? ⟨w3.heap.size, 1, none⟩ = some (.slice (some ⟨g + 1 + 1 + 1 + 1, 0, none⟩) 2 2) ∧ u2.cell? ⟨g + 1 + 1 + 1 + 1, 0, none⟩ = some (.slice (some ⟨g + 1 + 1, 0, none⟩) 1 1) ∧ u2.cell? ⟨g + 1 + 1 + 1 + 1, 1, none⟩ = some (.slice (some ⟨g + 1 + 1 + 1, 0, none⟩) 1 1) ∧ u2.cell? ⟨w5.heap.size, 0, none⟩ = some (.slice none 0 0) ∧ u2.cell? ⟨w5.heap.size, 1, none⟩ = some (.int .i64 0) ∧ u2.cell? ⟨w5.heap.size, 2, none⟩ = some (.slice none 0 0) ∧ Hid (Below w0.heap.size w0 u2) ∧ Hid (Below w3.heap.size w3 u2) ∧ Hid (Below w4.heap.size w4 u2) ∧ Hid (Below w6.heap.size w6 u2)) from fun u1 u2 h1 h2 => by
    obtain ⟨q0, q1, q2, q3⟩ := h1
    have r0 := Lib.hid (below_ext q0.out h2)
    have r1 := Lib.hid (below_ext q1.out h2)
    have r2 := Lib.hid (below_ext q2.out h2)
    have r3 := Lib.hid (below_ext q3.out h2)
    obtain ⟨y0, y1, y2, y3, y4, y5⟩ := kC.out _ r0
    obtain ⟨kR_0, kR_1⟩ := kR.out _ r2
    obtain ⟨kRW_0, kRW_1⟩ := kRW.out _ r1
    obtain ⟨kS_0, kS_1, kS_2⟩ := kS.out _ r3
    exact ⟨y0, y1, y2, y3, y4, y5, kR_0, kR_1, kRW_0, kRW_1, kS_0, kS_1, kS_2, r0, r1, r2, r3⟩)
  have HR8 := Lib.hid (show Hid (Below w0.heap.size w0 w7) ∧ Hid (Below w3.heap.size w3 w7) ∧ Hid (Below w4.heap.size w4 w7) ∧ Hid (Below w6.heap.size w6 w7) from ⟨HB_7, HB_w3_7, HB_w4_7, HB_w6_7⟩)
  go_region_held3 (fun w' => w'.cell? ⟨w.heap.size, 0, none⟩ = some (.int .i64 P) ∧ w'.cell? ⟨w.heap.size, 1, none⟩ = some (.int .i64 Q) ∧ w'.cell? ⟨w.heap.size, 2, none⟩ = some (.int .i64 G) ∧ w'.cell? ⟨w.heap.size + 1, 0, none⟩ = some (.slice A na ca) ∧ w'.cell? ⟨w.heap.size + 1, 1, none⟩ = some (.int .i64 C) ∧ w'.cell? ⟨w.heap.size + 1, 2, none⟩ = some (.slice Z nz cz) ∧ w'.cell? ⟨w3.heap.size, 0, none⟩ = some (.slice (some ⟨g + 1, 0, none⟩) 2 2) ∧ w'.cell? ⟨w3.heap.size, 1, none⟩ = some (.slice (some ⟨g + 1 + 1 + 1 + 1, 0, none⟩) 2 2) ∧ w'.cell? ⟨g + 1 + 1 + 1 + 1, 0, none⟩ = some (.slice (some ⟨g + 1 + 1, 0, none⟩) 1 1) ∧ w'.cell? ⟨g + 1 + 1 + 1 + 1, 1, none⟩ = some (.slice (some ⟨g + 1 + 1 + 1, 0, none⟩) 1 1) ∧ w'.cell? ⟨w5.heap.size, 0, none⟩ = some (.slice none 0 0) ∧ w'.cell? ⟨w5.heap.size, 1, none⟩ = some (.int .i64 0) ∧ w'.cell? ⟨w5.heap.size, 2, none⟩ = some (.slice none 0 0) ∧ Hid (Below w0.heap.size w0 w') ∧ Hid (Below w3.heap.size w3 w') ∧ Hid (Below w4.heap.size w4 w') ∧ Hid (Below w6.heap.size w6 w'))
    (first | exact hS8.out _ _ HR8.out ((Below.refl _ _).drew) | (exact hS8.out _ _ (by go_split_ands; exact ⟨(by assumption), (by assumption), (by assumption), (by assumption)⟩) hbA) | go_keep)
    ((first
      | (go_at_call 16; (with_reducible refine (eqck_any P Q G a ya b yb A al na ca C Z zs nz cz han hzn hna hnz hQ cb HCB _ ?_ ?_ ?_).mono ?_); (go_split_ands; exact kV.out _ (by assumption)); (go_split_ands; exact kA.out _ (by assumption)); (go_split_ands; exact kZ.out _ (by assumption)); rintro e wA ⟨rfl, hbA⟩)
      | (go_at_call 17; (with_reducible refine (reqck_any P Q G a ya b yb A al na ca C Z zs nz cz han hzn hna hnz hQ cb HCB _ ?_ ?_).mono ?_); (go_split_ands; exact kA.out _ (by assumption)); (go_split_ands; exact kZ.out _ (by assumption)); rintro e wA ⟨rfl, hbA⟩)))
  rename_i hHeld
  obtain ⟨x0, x1, x2, x3, x4, x5, x6, x7, x8, x9, x10, x11, x12, HN8_0, HN8_1, HN8_2, HN8_3⟩ := hHeld
  clear hS8 HR8 x0 x1 x2 x3 x4 x5 x6 x7 x8 x9 x10 x11 x12
  obtain ⟨zc0, zc1, zc2, zc3, zc4, zc5⟩ := kC.out _ HN8_0
  obtain ⟨kR_0, kR_1⟩ := kR.out _ HN8_2
  obtain ⟨kRW_0, kRW_1⟩ := kRW.out _ HN8_1
  obtain ⟨kS_0, kS_1, kS_2⟩ := kS.out _ HN8_3
  go_wp2_with fail
  refine (rerelation_any a ya b yb _).mono ?_
  intro e w9 hE2
  obtain ⟨Y2, B2, A4, B4, rfl, hY2, hB2, hb0⟩ := hE2
  have HB_9 := Lib.hid (below_ext HN8_0.out hb0)
  have HB_w3_9 := Lib.hid (below_ext HN8_1.out hb0)
  have HB_w4_9 := Lib.hid (below_ext HN8_2.out hb0)
  have HB_w6_9 := Lib.hid (below_ext HN8_3.out hb0)
  clear zc0 zc1 zc2 zc3 zc4 zc5 kR_0 kR_1 kRW_0 kRW_1 kS_0 kS_1 kS_2
  clear hb0
  obtain ⟨zc0, zc1, zc2, zc3, zc4, zc5⟩ := kC.out _ HB_9
  obtain ⟨kR_0, kR_1⟩ := kR.out _ HB_w4_9
  obtain ⟨kRW_0, kRW_1⟩ := kRW.out _ HB_w3_9
  obtain ⟨kS_0, kS_1, kS_2⟩ := kS.out _ HB_w6_9
  have HB_w9_9 : Hid (Below w9.heap.size w9 w9) := Lib.hid (Below.refl _ _)
  have HY2 := Lib.hid hY2
  have HB2 := Lib.hid hB2
  clear hY2 hB2
  have kY2 := Lib.hid (show ∀ u : World, Hid (Below w9.heap.size w9 u) → Hid (Sl u Y2 [ya, yb]) from fun u h => Lib.hid (HY2.out.below h.out))
  have kB2 := Lib.hid (show ∀ u : World, Hid (Below w9.heap.size w9 u) → Hid (Rw u B2 (eqRows A4 B4 a b)) from fun u h => Lib.hid (HB2.out.below h.out))
  have hq := below_box0 w9 (relO Y2 2 2 B2 2 2)
  have HB_10 := Lib.hid (below_ext HB_9.out hq)
  have HB_w3_10 := Lib.hid (below_ext HB_w3_9.out hq)
  have HB_w4_10 := Lib.hid (below_ext HB_w4_9.out hq)
  have HB_w6_10 := Lib.hid (below_ext HB_w6_9.out hq)
  have HB_w9_10 := Lib.hid (below_ext HB_w9_9.out hq)
  have hc : (w9.alloc (relO Y2 2 2 B2 2 2)).cell? ⟨w9.heap.size, 0, none⟩ = some (.slice Y2 2 2) ∧ (w9.alloc (relO Y2 2 2 B2 2 2)).cell? ⟨w9.heap.size, 1, none⟩ = some (.slice B2 2 2) := ⟨allocs_cell rfl (by rfl), allocs_cell rfl (by rfl)⟩
  have HC10 := Lib.hid hc
  clear zc0 zc1 zc2 zc3 zc4 zc5 kR_0 kR_1 kRW_0 kRW_1 kS_0 kS_1 kS_2
  clear hq
  obtain ⟨zc0, zc1, zc2, zc3, zc4, zc5⟩ := kC.out _ HB_10
  obtain ⟨kR_0, kR_1⟩ := kR.out _ HB_w4_10
  obtain ⟨kRW_0, kRW_1⟩ := kRW.out _ HB_w3_10
  obtain ⟨kS_0, kS_1, kS_2⟩ := kS.out _ HB_w6_10
  obtain ⟨zq0, zq1⟩ := hc
  go_wp2_with fail
  obtain ⟨w10, hw⟩ : ∃ x, (w9.alloc (relO Y2 2 2 B2 2 2)) = x := ⟨_, rfl⟩
  rw [hw] at HC10 HB_10 HB_w3_10 HB_w4_10 HB_w6_10 HB_w9_10 ⊢
  have HSN10 : Hid (w10.heap.size = w9.heap.size + 1) := Lib.hid (by rw [← hw]; simp)
  clear zc0 zc1 zc2 zc3 zc4 zc5 kR_0 kR_1 kRW_0 kRW_1 kS_0 kS_1 kS_2 zq0 zq1
  clear hw
  have HB_w10_10 : Hid (Below w10.heap.size w10 w10) := Lib.hid (Below.refl _ _)
  have kR2 := Lib.hid (show ∀ u : World, Hid (Below w10.heap.size w10 u) → u.cell? ⟨w9.heap.size, 0, none⟩ = some (.slice Y2 2 2) ∧ u.cell? ⟨w9.heap.size, 1, none⟩ = some (.slice B2 2 2) from fun u h => ⟨cell_below HC10.out.1 h.out, cell_below HC10.out.2 h.out⟩)
  obtain ⟨zc0, zc1, zc2, zc3, zc4, zc5⟩ := kC.out _ HB_10
  obtain ⟨kR_0, kR_1⟩ := kR.out _ HB_w4_10
  obtain ⟨kRW_0, kRW_1⟩ := kRW.out _ HB_w3_10
  obtain ⟨kS_0, kS_1, kS_2⟩ := kS.out _ HB_w6_10
  obtain ⟨kR2_0, kR2_1⟩ := kR2.out _ HB_w10_10
  go_wp2_with fail
  refine (eqs_any (some ⟨g + 1, 0, none⟩) [ya, yb] 2 2 Y2 [ya, yb] 2 2 true (Lib.hid (by simp)) (Lib.hid rfl) (Lib.hid rfl) (by omega) (by omega) _ (kY1.out _ HB_w3_10) (kY2.out _ HB_w9_10)).mono ?_
  rintro e w11 ⟨rfl, hb0⟩
  have HB_11 := Lib.hid (below_ext HB_10.out hb0)
  have HB_w3_11 := Lib.hid (below_ext HB_w3_10.out hb0)
  have HB_w4_11 := Lib.hid (below_ext HB_w4_10.out hb0)
  have HB_w6_11 := Lib.hid (below_ext HB_w6_10.out hb0)
  have HB_w9_11 := Lib.hid (below_ext HB_w9_10.out hb0)
  have HB_w10_11 := Lib.hid (below_ext HB_w10_10.out hb0)
  clear zc0 zc1 zc2 zc3 zc4 zc5 kR_0 kR_1 kRW_0 kRW_1 kS_0 kS_1 kS_2 kR2_0 kR2_1
  clear hb0
  obtain ⟨zc0, zc1, zc2, zc3, zc4, zc5⟩ := kC.out _ HB_11
  obtain ⟨kR_0, kR_1⟩ := kR.out _ HB_w4_11
  obtain ⟨kRW_0, kRW_1⟩ := kRW.out _ HB_w3_11
  obtain ⟨kS_0, kS_1, kS_2⟩ := kS.out _ HB_w6_11
  obtain ⟨kR2_0, kR2_1⟩ := kR2.out _ HB_w10_11
  have HOx := Lib.hid (sl_of_cells (cells1 w11 3 a))
  have hq := below_box0 w11 (.cells #[.int .i64 a] 3)
  have HB_12 := Lib.hid (below_ext HB_11.out hq)
  have HB_w3_12 := Lib.hid (below_ext HB_w3_11.out hq)
  have HB_w4_12 := Lib.hid (below_ext HB_w4_11.out hq)
  have HB_w6_12 := Lib.hid (below_ext HB_w6_11.out hq)
  have HB_w9_12 := Lib.hid (below_ext HB_w9_11.out hq)
  have HB_w10_12 := Lib.hid (below_ext HB_w10_11.out hq)
  clear hq
  go_wp2_with fail
  refine (eqs_any (some ⟨g + 1 + 1, 0, none⟩) [a] 1 1 (some ⟨w11.heap.size, 0, none⟩) [a] 1 1 true (Lib.hid (by simp)) (Lib.hid rfl) (Lib.hid rfl) (by omega) (by omega) _ (kX1.out _ HB_w3_12) HOx).mono ?_
  rintro e w13 ⟨rfl, hb0⟩
  have HB_13 := Lib.hid (below_ext HB_12.out hb0)
  have HB_w3_13 := Lib.hid (below_ext HB_w3_12.out hb0)
  have HB_w4_13 := Lib.hid (below_ext HB_w4_12.out hb0)
  have HB_w6_13 := Lib.hid (below_ext HB_w6_12.out hb0)
  have HB_w9_13 := Lib.hid (below_ext HB_w9_12.out hb0)
  have HB_w10_13 := Lib.hid (below_ext HB_w10_12.out hb0)
  clear zc0 zc1 zc2 zc3 zc4 zc5 kR_0 kR_1 kRW_0 kRW_1 kS_0 kS_1 kS_2 kR2_0 kR2_1
  clear hb0
  obtain ⟨zc0, zc1, zc2, zc3, zc4, zc5⟩ := kC.out _ HB_13
  obtain ⟨kR_0, kR_1⟩ := kR.out _ HB_w4_13
  obtain ⟨kRW_0, kRW_1⟩ := kRW.out _ HB_w3_13
  obtain ⟨kS_0, kS_1, kS_2⟩ := kS.out _ HB_w6_13
  obtain ⟨kR2_0, kR2_1⟩ := kR2.out _ HB_w10_13
  clear HOx
  have HOx := Lib.hid (sl_of_cells (cells1 w13 3 b))
  have hq := below_box0 w13 (.cells #[.int .i64 b] 3)
  have HB_14 := Lib.hid (below_ext HB_13.out hq)
  have HB_w3_14 := Lib.hid (below_ext HB_w3_13.out hq)
  have HB_w4_14 := Lib.hid (below_ext HB_w4_13.out hq)
  have HB_w6_14 := Lib.hid (below_ext HB_w6_13.out hq)
  have HB_w9_14 := Lib.hid (below_ext HB_w9_13.out hq)
  have HB_w10_14 := Lib.hid (below_ext HB_w10_13.out hq)
  clear hq
  go_wp2_with fail
  refine (eqs_any (some ⟨g + 1 + 1 + 1, 0, none⟩) [b] 1 1 (some ⟨w13.heap.size, 0, none⟩) [b] 1 1 true (Lib.hid (by simp)) (Lib.hid rfl) (Lib.hid rfl) (by omega) (by omega) _ (kX2.out _ HB_w3_14) HOx).mono ?_
  rintro e w15 ⟨rfl, hb0⟩
  have HB_15 := Lib.hid (below_ext HB_14.out hb0)
  have HB_w3_15 := Lib.hid (below_ext HB_w3_14.out hb0)
  have HB_w4_15 := Lib.hid (below_ext HB_w4_14.out hb0)
  have HB_w6_15 := Lib.hid (below_ext HB_w6_14.out hb0)
  have HB_w9_15 := Lib.hid (below_ext HB_w9_14.out hb0)
  have HB_w10_15 := Lib.hid (below_ext HB_w10_14.out hb0)
  clear zc0 zc1 zc2 zc3 zc4 zc5 kR_0 kR_1 kRW_0 kRW_1 kS_0 kS_1 kS_2 kR2_0 kR2_1
  clear hb0
  obtain ⟨zc0, zc1, zc2, zc3, zc4, zc5⟩ := kC.out _ HB_15
  obtain ⟨kR_0, kR_1⟩ := kR.out _ HB_w4_15
  obtain ⟨kRW_0, kRW_1⟩ := kRW.out _ HB_w3_15
  obtain ⟨kS_0, kS_1, kS_2⟩ := kS.out _ HB_w6_15
  obtain ⟨kR2_0, kR2_1⟩ := kR2.out _ HB_w10_15
  clear HOx
  obtain ⟨vb, hvb⟩ : ∃ x, verL P Q G C (bys s) [ya, yb] (eqRows none none a b) al zs = x := ⟨_, rfl⟩
  have HVB : Kp (eqVer P Q G a ya b yb C (bys s) al zs = vb) := ⟨by rw [eqVer, hr.out, hvb]; rfl⟩
  have HVL : Kp (verL P Q G C (bys s) [ya, yb] (eqRows A4 B4 a b) al zs = vb) := ⟨(verL_addr A4 B4).trans hvb⟩
  have evv : (vb != vb) = false := by simp
  clear hvb
  go_wp2_with fail
  clear zc0 zc1 zc2 zc3 zc4 zc5 kR_0 kR_1 kRW_0 kRW_1 kS_0 kS_1 kS_2 kR2_0 kR2_1
  have hS16 := Lib.hid (show ∀ u1 u2 : World, (Hid (Below w0.heap.size w0 u1) ∧ Hid (Below w3.heap.size w3 u1) ∧ Hid (Below w4.heap.size w4 u1) ∧ Hid (Below w6.heap.size w6 u1) ∧ Hid (Below w9.heap.size w9 u1) ∧ Hid (Below w10.heap.size w10 u1)) → Below u1.heap.size u1 u2 → (u2.cell? ⟨w.heap.size, 0, none⟩ = some (.int .i64 P) ∧ u2.cell? ⟨w.heap.size, 1, none⟩ = some (.int .i64 Q) ∧ u2.cell? ⟨w.heap.size, 2, none⟩ = some (.int .i64 G) ∧ u2.cell? ⟨w.heap.size + 1, 0, none⟩ = some (.slice A na ca) ∧ u2.cell? ⟨w.heap.size + 1, 1, none⟩ = some (.int .i64 C) ∧ u2.cell? ⟨w.heap.size + 1, 2, none⟩ = some (.slice Z nz cz) ∧ u2.cell? ⟨w3.heap.size, 0, none⟩ = some (.slice (some ⟨g + 1, 0, none⟩) 2 2) ∧ u2.cell? ⟨w3.heap.size, 1, none⟩ = some (.slice (some ⟨g + 1 + 1 + 1 + 1, 0, none⟩) 2 2) ∧ u2.cell? ⟨g + 1 + 1 + 1 + 1, 0, none⟩ = some (.slice (some ⟨g + 1 + 1, 0, none⟩) 1 1) ∧ u2.cell? ⟨g + 1 + 1 + 1 + 1, 1, none⟩ = some (.slice (some ⟨g + 1 + 1 + 1, 0, none⟩) 1 1) ∧ u2.cell? ⟨w5.heap.size, 0, none⟩ = some (.slice none 0 0) ∧ u2.cell? ⟨w5.heap.size, 1, none⟩ = some (.int .i64 0) ∧ u2.cell? ⟨w5.heap.size, 2, none⟩ = some (.slice none 0 0) ∧ u2.cell? ⟨w9.heap.size, 0, none⟩ = some (.slice Y2 2 2) ∧ u2.cell? ⟨w9.heap.size, 1, none⟩ = some (.slice B2 2 2) ∧ Hid (Below w0.heap.size w0 u2) ∧ Hid (Below w3.heap.size w3 u2) ∧ Hid (Below w4.heap.size w4 u2) ∧ Hid (Below w6.heap.size w6 u2) ∧ Hid (Below w9.heap.size w9 u2) ∧ Hid (Below w10.heap.size w10 u2)) from fun u1 u2 h1 h2 => by
    obtain ⟨q0, q1, q2, q3, q4, q5⟩ := h1
    have r0 := Lib.hid (below_ext q0.out h2)
    have r1 := Lib.hid (below_ext q1.out h2)
    have r2 := Lib.hid (below_ext q2.out h2)
    have r3 := Lib.hid (below_ext q3.out h2)
    have r4 := Lib.hid (below_ext q4.out h2)
    have r5 := Lib.hid (below_ext q5.out h2)
    obtain ⟨y0, y1, y2, y3, y4, y5⟩ := kC.out _ r0
    obtain ⟨kR_0, kR_1⟩ := kR.out _ r2
    obtain ⟨kRW_0, kRW_1⟩ := kRW.out _ r1
    obtain ⟨kS_0, kS_1, kS_2⟩ := kS.out _ r3
    obtain ⟨kR2_0, kR2_1⟩ := kR2.out _ r5
    exact ⟨y0, y1, y2, y3, y4, y5, kR_0, kR_1, kRW_0, kRW_1, kS_0, kS_1, kS_2, kR2_0, kR2_1, r0, r1, r2, r3, r4, r5⟩)
  have HR16 := Lib.hid (show Hid (Below w0.heap.size w0 w15) ∧ Hid (Below w3.heap.size w3 w15) ∧ Hid (Below w4.heap.size w4 w15) ∧ Hid (Below w6.heap.size w6 w15) ∧ Hid (Below w9.heap.size w9 w15) ∧ Hid (Below w10.heap.size w10 w15) from ⟨HB_15, HB_w3_15, HB_w4_15, HB_w6_15, HB_w9_15, HB_w10_15⟩)
  go_region_held3 (fun w' => w'.cell? ⟨w.heap.size, 0, none⟩ = some (.int .i64 P) ∧ w'.cell? ⟨w.heap.size, 1, none⟩ = some (.int .i64 Q) ∧ w'.cell? ⟨w.heap.size, 2, none⟩ = some (.int .i64 G) ∧ w'.cell? ⟨w.heap.size + 1, 0, none⟩ = some (.slice A na ca) ∧ w'.cell? ⟨w.heap.size + 1, 1, none⟩ = some (.int .i64 C) ∧ w'.cell? ⟨w.heap.size + 1, 2, none⟩ = some (.slice Z nz cz) ∧ w'.cell? ⟨w3.heap.size, 0, none⟩ = some (.slice (some ⟨g + 1, 0, none⟩) 2 2) ∧ w'.cell? ⟨w3.heap.size, 1, none⟩ = some (.slice (some ⟨g + 1 + 1 + 1 + 1, 0, none⟩) 2 2) ∧ w'.cell? ⟨g + 1 + 1 + 1 + 1, 0, none⟩ = some (.slice (some ⟨g + 1 + 1, 0, none⟩) 1 1) ∧ w'.cell? ⟨g + 1 + 1 + 1 + 1, 1, none⟩ = some (.slice (some ⟨g + 1 + 1 + 1, 0, none⟩) 1 1) ∧ w'.cell? ⟨w5.heap.size, 0, none⟩ = some (.slice none 0 0) ∧ w'.cell? ⟨w5.heap.size, 1, none⟩ = some (.int .i64 0) ∧ w'.cell? ⟨w5.heap.size, 2, none⟩ = some (.slice none 0 0) ∧ w'.cell? ⟨w9.heap.size, 0, none⟩ = some (.slice Y2 2 2) ∧ w'.cell? ⟨w9.heap.size, 1, none⟩ = some (.slice B2 2 2) ∧ Hid (Below w0.heap.size w0 w') ∧ Hid (Below w3.heap.size w3 w') ∧ Hid (Below w4.heap.size w4 w') ∧ Hid (Below w6.heap.size w6 w') ∧ Hid (Below w9.heap.size w9 w') ∧ Hid (Below w10.heap.size w10 w'))
    (first | exact hS16.out _ _ HR16.out ((Below.refl _ _).drew) | (exact hS16.out _ _ (by go_split_ands; exact ⟨(by assumption), (by assumption), (by assumption), (by assumption), (by assumption), (by assumption)⟩) hbA) | go_keep)
    ((first
      | (go_at_call 19; (with_reducible refine (eqvr_any P Q G a ya b yb A al na ca C Z zs nz cz han hzn hna hnz hQ s hs9 vb HVB _ ?_ ?_ ?_ ?_).mono ?_); (go_split_ands; exact kV.out _ (by assumption)); (go_split_ands; exact kD.out _ (by assumption)); (go_split_ands; exact kA.out _ (by assumption)); (go_split_ands; exact kZ.out _ (by assumption)); rintro e wA ⟨rfl, hbA⟩)
      | (go_at_call 22; (with_reducible refine (lver_any P Q G Y2 [ya, yb] 2 2 B2 (eqRows A4 B4 a b) 2 2 A al na ca C Z zs nz cz (Lib.hid rfl) (Lib.hid rfl) han hzn hna hnz hQ s hs9 vb HVL _ ?_ ?_ ?_ ?_ ?_ ?_).mono ?_); (go_split_ands; exact kV.out _ (by assumption)); (go_split_ands; exact kD.out _ (by assumption)); (go_split_ands; exact kY2.out _ (by assumption)); (go_split_ands; exact kB2.out _ (by assumption)); (go_split_ands; exact kA.out _ (by assumption)); (go_split_ands; exact kZ.out _ (by assumption)); rintro e wA ⟨rfl, hbA⟩)))
  rename_i hHeld
  obtain ⟨x0, x1, x2, x3, x4, x5, x6, x7, x8, x9, x10, x11, x12, x13, x14, HN16_0, HN16_1, HN16_2, HN16_3, HN16_4, HN16_5⟩ := hHeld
  clear hS16 HR16 x0 x1 x2 x3 x4 x5 x6 x7 x8 x9 x10 x11 x12 x13 x14
  obtain ⟨zc0, zc1, zc2, zc3, zc4, zc5⟩ := kC.out _ HN16_0
  obtain ⟨kR_0, kR_1⟩ := kR.out _ HN16_2
  obtain ⟨kRW_0, kRW_1⟩ := kRW.out _ HN16_1
  obtain ⟨kS_0, kS_1, kS_2⟩ := kS.out _ HN16_3
  obtain ⟨kR2_0, kR2_1⟩ := kR2.out _ HN16_5
  cases sc with
  | false =>
    go_wp2_with fail
    refine (scalar18_any P Q G c false hsc _).mono ?_
    rintro e w17 ⟨rfl, hb0⟩
    have HB_17 := Lib.hid (below_ext HN16_0.out hb0)
    have HB_w3_17 := Lib.hid (below_ext HN16_1.out hb0)
    have HB_w4_17 := Lib.hid (below_ext HN16_2.out hb0)
    have HB_w6_17 := Lib.hid (below_ext HN16_3.out hb0)
    have HB_w9_17 := Lib.hid (below_ext HN16_4.out hb0)
    have HB_w10_17 := Lib.hid (below_ext HN16_5.out hb0)
    clear zc0 zc1 zc2 zc3 zc4 zc5 kR_0 kR_1 kRW_0 kRW_1 kS_0 kS_1 kS_2 kR2_0 kR2_1
    clear hb0
    obtain ⟨zc0, zc1, zc2, zc3, zc4, zc5⟩ := kC.out _ HB_17
    obtain ⟨kR_0, kR_1⟩ := kR.out _ HB_w4_17
    obtain ⟨kRW_0, kRW_1⟩ := kRW.out _ HB_w3_17
    obtain ⟨kS_0, kS_1, kS_2⟩ := kS.out _ HB_w6_17
    obtain ⟨kR2_0, kR2_1⟩ := kR2.out _ HB_w10_17
    go_wp2_with fail
    refine (same18_any none [] 0 0 0 none [] 0 0 none [] 0 0 0 none [] 0 0 (Lib.hid rfl) (Lib.hid rfl) (Lib.hid rfl) (Lib.hid rfl) (by omega) (by omega) (by omega) (by omega) true (Lib.hid rfl) _ (Lib.hid (sl_nil _)) (Lib.hid (sl_nil _)) (Lib.hid (sl_nil _)) (Lib.hid (sl_nil _))).mono ?_
    rintro e w18 ⟨rfl, hb0⟩
    have HB_18 := Lib.hid (below_ext HB_17.out hb0)
    have HB_w3_18 := Lib.hid (below_ext HB_w3_17.out hb0)
    have HB_w4_18 := Lib.hid (below_ext HB_w4_17.out hb0)
    have HB_w6_18 := Lib.hid (below_ext HB_w6_17.out hb0)
    have HB_w9_18 := Lib.hid (below_ext HB_w9_17.out hb0)
    have HB_w10_18 := Lib.hid (below_ext HB_w10_17.out hb0)
    clear zc0 zc1 zc2 zc3 zc4 zc5 kR_0 kR_1 kRW_0 kRW_1 kS_0 kS_1 kS_2 kR2_0 kR2_1
    clear hb0
    obtain ⟨zc0, zc1, zc2, zc3, zc4, zc5⟩ := kC.out _ HB_18
    obtain ⟨kR_0, kR_1⟩ := kR.out _ HB_w4_18
    obtain ⟨kRW_0, kRW_1⟩ := kRW.out _ HB_w3_18
    obtain ⟨kS_0, kS_1, kS_2⟩ := kS.out _ HB_w6_18
    obtain ⟨kR2_0, kR2_1⟩ := kR2.out _ HB_w10_18
    have hbF := below_ext HBw.out HB_18.out
    go_wp2
    go_ret
    exact ⟨rfl, hbF⟩
  | true =>
    go_wp2_with fail
    refine (scalar18_any P Q G c true hsc _).mono ?_
    rintro e w17 ⟨rfl, hb0⟩
    have HB_17 := Lib.hid (below_ext HN16_0.out hb0)
    have HB_w3_17 := Lib.hid (below_ext HN16_1.out hb0)
    have HB_w4_17 := Lib.hid (below_ext HN16_2.out hb0)
    have HB_w6_17 := Lib.hid (below_ext HN16_3.out hb0)
    have HB_w9_17 := Lib.hid (below_ext HN16_4.out hb0)
    have HB_w10_17 := Lib.hid (below_ext HN16_5.out hb0)
    clear zc0 zc1 zc2 zc3 zc4 zc5 kR_0 kR_1 kRW_0 kRW_1 kS_0 kS_1 kS_2 kR2_0 kR2_1
    clear hb0
    obtain ⟨zc0, zc1, zc2, zc3, zc4, zc5⟩ := kC.out _ HB_17
    obtain ⟨kR_0, kR_1⟩ := kR.out _ HB_w4_17
    obtain ⟨kRW_0, kRW_1⟩ := kRW.out _ HB_w3_17
    obtain ⟨kS_0, kS_1, kS_2⟩ := kS.out _ HB_w6_17
    obtain ⟨kR2_0, kR2_1⟩ := kR2.out _ HB_w10_17
    go_wp2_with fail
    refine (scalar18_any P Q G z false (hsz.out.resolve_left (by simp) |> Lib.hid) _).mono ?_
    rintro e w18 ⟨rfl, hb0⟩
    have HB_18 := Lib.hid (below_ext HB_17.out hb0)
    have HB_w3_18 := Lib.hid (below_ext HB_w3_17.out hb0)
    have HB_w4_18 := Lib.hid (below_ext HB_w4_17.out hb0)
    have HB_w6_18 := Lib.hid (below_ext HB_w6_17.out hb0)
    have HB_w9_18 := Lib.hid (below_ext HB_w9_17.out hb0)
    have HB_w10_18 := Lib.hid (below_ext HB_w10_17.out hb0)
    clear zc0 zc1 zc2 zc3 zc4 zc5 kR_0 kR_1 kRW_0 kRW_1 kS_0 kS_1 kS_2 kR2_0 kR2_1
    clear hb0
    obtain ⟨zc0, zc1, zc2, zc3, zc4, zc5⟩ := kC.out _ HB_18
    obtain ⟨kR_0, kR_1⟩ := kR.out _ HB_w4_18
    obtain ⟨kRW_0, kRW_1⟩ := kRW.out _ HB_w3_18
    obtain ⟨kS_0, kS_1, kS_2⟩ := kS.out _ HB_w6_18
    obtain ⟨kR2_0, kR2_1⟩ := kR2.out _ HB_w10_18
    go_wp2_with fail
    refine (same18_any none [] 0 0 0 none [] 0 0 none [] 0 0 0 none [] 0 0 (Lib.hid rfl) (Lib.hid rfl) (Lib.hid rfl) (Lib.hid rfl) (by omega) (by omega) (by omega) (by omega) true (Lib.hid rfl) _ (Lib.hid (sl_nil _)) (Lib.hid (sl_nil _)) (Lib.hid (sl_nil _)) (Lib.hid (sl_nil _))).mono ?_
    rintro e w19 ⟨rfl, hb0⟩
    have HB_19 := Lib.hid (below_ext HB_18.out hb0)
    have HB_w3_19 := Lib.hid (below_ext HB_w3_18.out hb0)
    have HB_w4_19 := Lib.hid (below_ext HB_w4_18.out hb0)
    have HB_w6_19 := Lib.hid (below_ext HB_w6_18.out hb0)
    have HB_w9_19 := Lib.hid (below_ext HB_w9_18.out hb0)
    have HB_w10_19 := Lib.hid (below_ext HB_w10_18.out hb0)
    clear zc0 zc1 zc2 zc3 zc4 zc5 kR_0 kR_1 kRW_0 kRW_1 kS_0 kS_1 kS_2 kR2_0 kR2_1
    clear hb0
    obtain ⟨zc0, zc1, zc2, zc3, zc4, zc5⟩ := kC.out _ HB_19
    obtain ⟨kR_0, kR_1⟩ := kR.out _ HB_w4_19
    obtain ⟨kRW_0, kRW_1⟩ := kRW.out _ HB_w3_19
    obtain ⟨kS_0, kS_1, kS_2⟩ := kS.out _ HB_w6_19
    obtain ⟨kR2_0, kR2_1⟩ := kR2.out _ HB_w10_19
    have hbF := below_ext HBw.out HB_19.out
    go_wp2
    go_ret
    exact ⟨rfl, hbF⟩
set_option maxHeartbeats 25600000 in
theorem ec_yes (P Q G a ya b yb : Int) (s : ByteArray) (A : Option Addr) (al : List Int) (na ca : Nat) (C : Int) (Z : Option Addr) (zs : List Int) (nz cz : Nat) (c z : Int) (han : Hid (al.length = na)) (hzn : Hid (zs.length = nz)) (hQ : Q < 9223372036854775808) (hgr : Hid ((decide (100 < na) || decide (100 < nz)) = false)) (hl : s.size ≤ 100) (hna : na < 1000000) (hnz : nz < 1000000) (hr : Hid (chkG P Q G [a, ya, b, yb] = 0)) (hsc : Hid (scB Q c = true)) (hsz : Hid (scB Q z = true)) (hr2 : Hid (chkR P Q G [ya, yb] (eqRows none none a b) [z] [c] = 0)) (w : World) (hv : Hid (Vars w)) (hd : Hid (VarsD w)) (hA : Hid (Sl w A al)) (hZ : Hid (Sl w Z zs)) :
    Calls Tryz.prog 4 #[gv P Q G, .int .i64 a, .int .i64 ya, .int .i64 b, .int .i64 yb, .string s, prvL A na ca C Z nz cz, .int .i64 c, .int .i64 z] w fun e' w' => e' = .returned (.bool true) ∧ Below w.heap.size w w' := by
  have dl : decide ((100 : Int) < (s.size : Int)) = false := by simp; omega
  have hs9 : s.size ≤ 1000 := by omega
  obtain ⟨cb, hcb⟩ : ∃ x, eqChk P Q G a ya b yb C al zs = x := ⟨_, rfl⟩
  have HCB := Lib.hid hcb
  have ecc : (cb != cb) = false := by simp
  clear hcb
  have hc0 := scB_lo hsc.out
  have hc1 := scB_hi hsc.out
  have eqc : (c == c) = true := by simp
  obtain ⟨SL, hSL⟩ : ∃ l, simR P Q c [ya, yb] (eqRows none none a b) [z] = l := ⟨_, rfl⟩
  have HSN : Hid (SL.length = 2) := Lib.hid (by rw [← hSL, simR_length]; rfl)
  have HSK : Hid (eqChk P Q G a ya b yb c SL [z] = true) := Lib.hid (by rw [← hSL]; exact eqSim_ok hr.out hsc.out hsz.out)
  have HSL := Lib.hid hSL
  clear hSL
  obtain ⟨w0, hW⟩ : ∃ W, ((w.alloc (gObj P Q G)).alloc (prObjL A na ca C Z nz cz)) = W := ⟨_, rfl⟩
  have HBw : Hid (Below w.heap.size w w0) := Lib.hid (by rw [← hW]; exact below_two (Below.refl _ _))
  have hc : w0.cell? ⟨w.heap.size, 0, none⟩ = some (.int .i64 P) ∧ w0.cell? ⟨w.heap.size, 1, none⟩ = some (.int .i64 Q) ∧ w0.cell? ⟨w.heap.size, 2, none⟩ = some (.int .i64 G) ∧ w0.cell? ⟨w.heap.size + 1, 0, none⟩ = some (.slice A na ca) ∧ w0.cell? ⟨w.heap.size + 1, 1, none⟩ = some (.int .i64 C) ∧ w0.cell? ⟨w.heap.size + 1, 2, none⟩ = some (.slice Z nz cz) := by rw [← hW]; exact ⟨cell_below (allocs_cell (by simp) (by rfl)) (below_box0 _ _), cell_below (allocs_cell (by simp) (by rfl)) (below_box0 _ _), cell_below (allocs_cell (by simp) (by rfl)) (below_box0 _ _), allocs_cell (by simp) (by rfl), allocs_cell (by simp) (by rfl), allocs_cell (by simp) (by rfl)⟩
  have kC := Lib.hid (show ∀ u : World, Hid (Below w0.heap.size w0 u) → u.cell? ⟨w.heap.size, 0, none⟩ = some (.int .i64 P) ∧ u.cell? ⟨w.heap.size, 1, none⟩ = some (.int .i64 Q) ∧ u.cell? ⟨w.heap.size, 2, none⟩ = some (.int .i64 G) ∧ u.cell? ⟨w.heap.size + 1, 0, none⟩ = some (.slice A na ca) ∧ u.cell? ⟨w.heap.size + 1, 1, none⟩ = some (.int .i64 C) ∧ u.cell? ⟨w.heap.size + 1, 2, none⟩ = some (.slice Z nz cz) from fun u h => ⟨cell_below hc.1 h.out, cell_below hc.2.1 h.out, cell_below hc.2.2.1 h.out, cell_below hc.2.2.2.1 h.out, cell_below hc.2.2.2.2.1 h.out, cell_below hc.2.2.2.2.2 h.out⟩)
  have kV := Lib.hid (show ∀ u : World, Hid (Below w0.heap.size w0 u) → Hid (Vars u) from fun u h => Lib.hid ((hv.out.below) (below_ext HBw.out h.out)))
  have kD := Lib.hid (show ∀ u : World, Hid (Below w0.heap.size w0 u) → Hid (VarsD u) from fun u h => Lib.hid ((hd.out.below) (below_ext HBw.out h.out)))
  have kA := Lib.hid (show ∀ u : World, Hid (Below w0.heap.size w0 u) → Hid (Sl u A al) from fun u h => Lib.hid ((hA.out.below) (below_ext HBw.out h.out)))
  have kZ := Lib.hid (show ∀ u : World, Hid (Below w0.heap.size w0 u) → Hid (Sl u Z zs) from fun u h => Lib.hid ((hZ.out.below) (below_ext HBw.out h.out)))
  have HB_0 : Hid (Below w0.heap.size w0 w0) := Lib.hid (Below.refl _ _)
  have HW := Lib.hid hW
  clear hW hc hv hd hA hZ
  go_enter Tryz.func4, Tryz.ntmps4
  go_wp2_with fail
  rw [HW.out]
  obtain ⟨zc0, zc1, zc2, zc3, zc4, zc5⟩ := kC.out _ HB_0
  go_wp2_with fail
  refine (awake18 _ (kV.out _ HB_0)).mono ?_
  rintro e w1 ⟨rfl, hb0⟩
  have HB_1 := Lib.hid (below_ext HB_0.out hb0)
  clear zc0 zc1 zc2 zc3 zc4 zc5
  clear hb0
  obtain ⟨zc0, zc1, zc2, zc3, zc4, zc5⟩ := kC.out _ HB_1
  go_wp2_with fail
  refine (great18_any A na ca C Z nz cz false hgr _).mono ?_
  rintro e w2 ⟨rfl, hb0⟩
  have HB_2 := Lib.hid (below_ext HB_1.out hb0)
  clear zc0 zc1 zc2 zc3 zc4 zc5
  clear hb0
  obtain ⟨zc0, zc1, zc2, zc3, zc4, zc5⟩ := kC.out _ HB_2
  go_wp2_with fail
  refine (eqrel_ok P Q G a ya b yb hQ hr _ (kV.out _ HB_2)).mono ?_
  intro e w3 hE
  obtain ⟨g, rfl, hE, _, hb0⟩ := hE
  have HE := Lib.hid hE
  clear hE
  have HB_3 := Lib.hid (below_ext HB_2.out hb0)
  clear zc0 zc1 zc2 zc3 zc4 zc5
  clear hb0
  obtain ⟨zc0, zc1, zc2, zc3, zc4, zc5⟩ := kC.out _ HB_3
  have HB_w3_3 : Hid (Below w3.heap.size w3 w3) := Lib.hid (Below.refl _ _)
  have kY1 := Lib.hid (show ∀ u : World, Hid (Below w3.heap.size w3 u) → Hid (Sl u (some ⟨g + 1, 0, none⟩) [ya, yb]) from fun u h => Lib.hid (HE.out.sl.1.below h.out))
  have kX1 := Lib.hid (show ∀ u : World, Hid (Below w3.heap.size w3 u) → Hid (Sl u (some ⟨g + 1 + 1, 0, none⟩) [a]) from fun u h => Lib.hid ((sl_blk HE.out.2.1 (fun k hk => by match k, hk with | 0, _ => rfl)).below h.out))
  have kX2 := Lib.hid (show ∀ u : World, Hid (Below w3.heap.size w3 u) → Hid (Sl u (some ⟨g + 1 + 1 + 1, 0, none⟩) [b]) from fun u h => Lib.hid ((sl_blk HE.out.2.2.1 (fun k hk => by match k, hk with | 0, _ => rfl)).below h.out))
  have kRW := Lib.hid (show ∀ u : World, Hid (Below w3.heap.size w3 u) → u.cell? ⟨g + 1 + 1 + 1 + 1, 0, none⟩ = some (.slice (some ⟨g + 1 + 1, 0, none⟩) 1 1) ∧ u.cell? ⟨g + 1 + 1 + 1 + 1, 1, none⟩ = some (.slice (some ⟨g + 1 + 1 + 1, 0, none⟩) 1 1) from fun u h => ⟨cell_below (sl_of_row (a := a) (b := b) HE.out.2.2.2).1 h.out, cell_below (sl_of_row (a := a) (b := b) HE.out.2.2.2).2 h.out⟩)
  have hq := below_box0 w3 (relO (some ⟨g + 1, 0, none⟩) 2 2 (some ⟨g + 1 + 1 + 1 + 1, 0, none⟩) 2 2)
  have HB_4 := Lib.hid (below_ext HB_3.out hq)
  have HB_w3_4 := Lib.hid (below_ext HB_w3_3.out hq)
  have hc : (w3.alloc (relO (some ⟨g + 1, 0, none⟩) 2 2 (some ⟨g + 1 + 1 + 1 + 1, 0, none⟩) 2 2)).cell? ⟨w3.heap.size, 0, none⟩ = some (.slice (some ⟨g + 1, 0, none⟩) 2 2) ∧ (w3.alloc (relO (some ⟨g + 1, 0, none⟩) 2 2 (some ⟨g + 1 + 1 + 1 + 1, 0, none⟩) 2 2)).cell? ⟨w3.heap.size, 1, none⟩ = some (.slice (some ⟨g + 1 + 1 + 1 + 1, 0, none⟩) 2 2) := ⟨allocs_cell rfl (by rfl), allocs_cell rfl (by rfl)⟩
  have HC4 := Lib.hid hc
  clear zc0 zc1 zc2 zc3 zc4 zc5
  clear hq
  obtain ⟨zc0, zc1, zc2, zc3, zc4, zc5⟩ := kC.out _ HB_4
  obtain ⟨zq0, zq1⟩ := hc
  go_wp2_with fail
  obtain ⟨w4, hw⟩ : ∃ x, (w3.alloc (relO (some ⟨g + 1, 0, none⟩) 2 2 (some ⟨g + 1 + 1 + 1 + 1, 0, none⟩) 2 2)) = x := ⟨_, rfl⟩
  rw [hw] at HC4 HB_4 HB_w3_4 ⊢
  have HSN4 : Hid (w4.heap.size = w3.heap.size + 1) := Lib.hid (by rw [← hw]; simp)
  clear zc0 zc1 zc2 zc3 zc4 zc5 zq0 zq1
  clear hw
  have HB_w4_4 : Hid (Below w4.heap.size w4 w4) := Lib.hid (Below.refl _ _)
  have kR := Lib.hid (show ∀ u : World, Hid (Below w4.heap.size w4 u) → u.cell? ⟨w3.heap.size, 0, none⟩ = some (.slice (some ⟨g + 1, 0, none⟩) 2 2) ∧ u.cell? ⟨w3.heap.size, 1, none⟩ = some (.slice (some ⟨g + 1 + 1 + 1 + 1, 0, none⟩) 2 2) from fun u h => ⟨cell_below HC4.out.1 h.out, cell_below HC4.out.2 h.out⟩)
  obtain ⟨zc0, zc1, zc2, zc3, zc4, zc5⟩ := kC.out _ HB_4
  obtain ⟨kR_0, kR_1⟩ := kR.out _ HB_w4_4
  clear zc0 zc1 zc2 zc3 zc4 zc5 kR_0 kR_1
  obtain ⟨zc0, zc1, zc2, zc3, zc4, zc5⟩ := kC.out _ HB_4
  obtain ⟨kR_0, kR_1⟩ := kR.out _ HB_w4_4
  obtain ⟨kRW_0, kRW_1⟩ := kRW.out _ HB_w3_4
  go_wp2_with fail
  refine (eqsim_ok P Q G a ya b yb c z hQ hr hr2 hc0 hc1 _ (kV.out _ HB_4)).mono ?_
  rintro e w5 ⟨A3, c3, Z3, d3, rfl, hA3, hZ3, hb0⟩
  have HB_5 := Lib.hid (below_ext HB_4.out hb0)
  have HB_w3_5 := Lib.hid (below_ext HB_w3_4.out hb0)
  have HB_w4_5 := Lib.hid (below_ext HB_w4_4.out hb0)
  clear zc0 zc1 zc2 zc3 zc4 zc5 kR_0 kR_1 kRW_0 kRW_1
  clear hb0
  obtain ⟨zc0, zc1, zc2, zc3, zc4, zc5⟩ := kC.out _ HB_5
  obtain ⟨kR_0, kR_1⟩ := kR.out _ HB_w4_5
  obtain ⟨kRW_0, kRW_1⟩ := kRW.out _ HB_w3_5
  rw [HSL.out] at hA3
  have HB_w5_5 : Hid (Below w5.heap.size w5 w5) := Lib.hid (Below.refl _ _)
  have HA3 := Lib.hid hA3
  have HZ3 := Lib.hid hZ3
  clear hA3 hZ3
  have kA3 := Lib.hid (show ∀ u : World, Hid (Below w5.heap.size w5 u) → Hid (Sl u A3 SL) from fun u h => Lib.hid (HA3.out.below h.out))
  have kZ3 := Lib.hid (show ∀ u : World, Hid (Below w5.heap.size w5 u) → Hid (Sl u Z3 [z]) from fun u h => Lib.hid (HZ3.out.below h.out))
  have hq := below_box0 w5 (prObjL A3 2 c3 c Z3 1 d3)
  have HB_6 := Lib.hid (below_ext HB_5.out hq)
  have HB_w3_6 := Lib.hid (below_ext HB_w3_5.out hq)
  have HB_w4_6 := Lib.hid (below_ext HB_w4_5.out hq)
  have HB_w5_6 := Lib.hid (below_ext HB_w5_5.out hq)
  have hc : (w5.alloc (prObjL A3 2 c3 c Z3 1 d3)).cell? ⟨w5.heap.size, 0, none⟩ = some (.slice A3 2 c3) ∧ (w5.alloc (prObjL A3 2 c3 c Z3 1 d3)).cell? ⟨w5.heap.size, 1, none⟩ = some (.int .i64 c) ∧ (w5.alloc (prObjL A3 2 c3 c Z3 1 d3)).cell? ⟨w5.heap.size, 2, none⟩ = some (.slice Z3 1 d3) := ⟨allocs_cell rfl (by rfl), allocs_cell rfl (by rfl), allocs_cell rfl (by rfl)⟩
  have HC6 := Lib.hid hc
  clear zc0 zc1 zc2 zc3 zc4 zc5 kR_0 kR_1 kRW_0 kRW_1
  clear hq
  obtain ⟨zc0, zc1, zc2, zc3, zc4, zc5⟩ := kC.out _ HB_6
  obtain ⟨kR_0, kR_1⟩ := kR.out _ HB_w4_6
  obtain ⟨kRW_0, kRW_1⟩ := kRW.out _ HB_w3_6
  obtain ⟨zq0, zq1, zq2⟩ := hc
  go_wp2_with fail
  obtain ⟨w6, hw⟩ : ∃ x, (w5.alloc (prObjL A3 2 c3 c Z3 1 d3)) = x := ⟨_, rfl⟩
  rw [hw] at HC6 HB_6 HB_w3_6 HB_w4_6 HB_w5_6 ⊢
  have HSN6 : Hid (w6.heap.size = w5.heap.size + 1) := Lib.hid (by rw [← hw]; simp)
  clear zc0 zc1 zc2 zc3 zc4 zc5 kR_0 kR_1 kRW_0 kRW_1 zq0 zq1 zq2
  clear hw
  have HB_w6_6 : Hid (Below w6.heap.size w6 w6) := Lib.hid (Below.refl _ _)
  have kS := Lib.hid (show ∀ u : World, Hid (Below w6.heap.size w6 u) → u.cell? ⟨w5.heap.size, 0, none⟩ = some (.slice A3 2 c3) ∧ u.cell? ⟨w5.heap.size, 1, none⟩ = some (.int .i64 c) ∧ u.cell? ⟨w5.heap.size, 2, none⟩ = some (.slice Z3 1 d3) from fun u h => ⟨cell_below HC6.out.1 h.out, cell_below HC6.out.2.1 h.out, cell_below HC6.out.2.2 h.out⟩)
  obtain ⟨zc0, zc1, zc2, zc3, zc4, zc5⟩ := kC.out _ HB_6
  obtain ⟨kR_0, kR_1⟩ := kR.out _ HB_w4_6
  obtain ⟨kRW_0, kRW_1⟩ := kRW.out _ HB_w3_6
  obtain ⟨kS_0, kS_1, kS_2⟩ := kS.out _ HB_w6_6
  go_wp2_with fail
  refine (rfault18_any P Q G a ya b yb 0 hr hQ _).mono ?_
  rintro e w7 ⟨rfl, hb0⟩
  have HB_7 := Lib.hid (below_ext HB_6.out hb0)
  have HB_w3_7 := Lib.hid (below_ext HB_w3_6.out hb0)
  have HB_w4_7 := Lib.hid (below_ext HB_w4_6.out hb0)
  have HB_w5_7 := Lib.hid (below_ext HB_w5_6.out hb0)
  have HB_w6_7 := Lib.hid (below_ext HB_w6_6.out hb0)
  clear zc0 zc1 zc2 zc3 zc4 zc5 kR_0 kR_1 kRW_0 kRW_1 kS_0 kS_1 kS_2
  clear hb0
  obtain ⟨zc0, zc1, zc2, zc3, zc4, zc5⟩ := kC.out _ HB_7
  obtain ⟨kR_0, kR_1⟩ := kR.out _ HB_w4_7
  obtain ⟨kRW_0, kRW_1⟩ := kRW.out _ HB_w3_7
  obtain ⟨kS_0, kS_1, kS_2⟩ := kS.out _ HB_w6_7
  go_wp2_with fail
  clear zc0 zc1 zc2 zc3 zc4 zc5 kR_0 kR_1 kRW_0 kRW_1 kS_0 kS_1 kS_2
  have hS8 := Lib.hid (show ∀ u1 u2 : World, (Hid (Below w0.heap.size w0 u1) ∧ Hid (Below w3.heap.size w3 u1) ∧ Hid (Below w4.heap.size w4 u1) ∧ Hid (Below w5.heap.size w5 u1) ∧ Hid (Below w6.heap.size w6 u1)) → Below u1.heap.size u1 u2 → (u2.cell? ⟨w.heap.size, 0, none⟩ = some (.int .i64 P) ∧ u2.cell? ⟨w.heap.size, 1, none⟩ = some (.int .i64 Q) ∧ u2.cell? ⟨w.heap.size, 2, none⟩ = some (.int .i64 G) ∧ u2.cell? ⟨w.heap.size + 1, 0, none⟩ = some (.slice A na ca) ∧ u2.cell? ⟨w.heap.size + 1, 1, none⟩ = some (.int .i64 C) ∧ u2.cell? ⟨w.heap.size + 1, 2, none⟩ = some (.slice Z nz cz) ∧ u2.cell? ⟨w3.heap.size, 0, none⟩ = some (.slice (some ⟨g + 1, 0, none⟩) 2 2) ∧ u2.cell? ⟨w3.heap.size, 1, none⟩ = some (.slice (some ⟨g + 1 + 1 + 1 + 1, 0, none⟩) 2 2) ∧ u2.cell? ⟨g + 1 + 1 + 1 + 1, 0, none⟩ = some (.slice (some ⟨g + 1 + 1, 0, none⟩) 1 1) ∧ u2.cell? ⟨g + 1 + 1 + 1 + 1, 1, none⟩ = some (.slice (some ⟨g + 1 + 1 + 1, 0, none⟩) 1 1) ∧ u2.cell? ⟨w5.heap.size, 0, none⟩ = some (.slice A3 2 c3) ∧ u2.cell? ⟨w5.heap.size, 1, none⟩ = some (.int .i64 c) ∧ u2.cell? ⟨w5.heap.size, 2, none⟩ = some (.slice Z3 1 d3) ∧ Hid (Below w0.heap.size w0 u2) ∧ Hid (Below w3.heap.size w3 u2) ∧ Hid (Below w4.heap.size w4 u2) ∧ Hid (Below w5.heap.size w5 u2) ∧ Hid (Below w6.heap.size w6 u2)) from fun u1 u2 h1 h2 => by
    obtain ⟨q0, q1, q2, q3, q4⟩ := h1
    have r0 := Lib.hid (below_ext q0.out h2)
    have r1 := Lib.hid (below_ext q1.out h2)
    have r2 := Lib.hid (below_ext q2.out h2)
    have r3 := Lib.hid (below_ext q3.out h2)
    have r4 := Lib.hid (below_ext q4.out h2)
    obtain ⟨y0, y1, y2, y3, y4, y5⟩ := kC.out _ r0
    obtain ⟨kR_0, kR_1⟩ := kR.out _ r2
    obtain ⟨kRW_0, kRW_1⟩ := kRW.out _ r1
    obtain ⟨kS_0, kS_1, kS_2⟩ := kS.out _ r4
    exact ⟨y0, y1, y2, y3, y4, y5, kR_0, kR_1, kRW_0, kRW_1, kS_0, kS_1, kS_2, r0, r1, r2, r3, r4⟩)
  have HR8 := Lib.hid (show Hid (Below w0.heap.size w0 w7) ∧ Hid (Below w3.heap.size w3 w7) ∧ Hid (Below w4.heap.size w4 w7) ∧ Hid (Below w5.heap.size w5 w7) ∧ Hid (Below w6.heap.size w6 w7) from ⟨HB_7, HB_w3_7, HB_w4_7, HB_w5_7, HB_w6_7⟩)
  go_region_held3 (fun w' => w'.cell? ⟨w.heap.size, 0, none⟩ = some (.int .i64 P) ∧ w'.cell? ⟨w.heap.size, 1, none⟩ = some (.int .i64 Q) ∧ w'.cell? ⟨w.heap.size, 2, none⟩ = some (.int .i64 G) ∧ w'.cell? ⟨w.heap.size + 1, 0, none⟩ = some (.slice A na ca) ∧ w'.cell? ⟨w.heap.size + 1, 1, none⟩ = some (.int .i64 C) ∧ w'.cell? ⟨w.heap.size + 1, 2, none⟩ = some (.slice Z nz cz) ∧ w'.cell? ⟨w3.heap.size, 0, none⟩ = some (.slice (some ⟨g + 1, 0, none⟩) 2 2) ∧ w'.cell? ⟨w3.heap.size, 1, none⟩ = some (.slice (some ⟨g + 1 + 1 + 1 + 1, 0, none⟩) 2 2) ∧ w'.cell? ⟨g + 1 + 1 + 1 + 1, 0, none⟩ = some (.slice (some ⟨g + 1 + 1, 0, none⟩) 1 1) ∧ w'.cell? ⟨g + 1 + 1 + 1 + 1, 1, none⟩ = some (.slice (some ⟨g + 1 + 1 + 1, 0, none⟩) 1 1) ∧ w'.cell? ⟨w5.heap.size, 0, none⟩ = some (.slice A3 2 c3) ∧ w'.cell? ⟨w5.heap.size, 1, none⟩ = some (.int .i64 c) ∧ w'.cell? ⟨w5.heap.size, 2, none⟩ = some (.slice Z3 1 d3) ∧ Hid (Below w0.heap.size w0 w') ∧ Hid (Below w3.heap.size w3 w') ∧ Hid (Below w4.heap.size w4 w') ∧ Hid (Below w5.heap.size w5 w') ∧ Hid (Below w6.heap.size w6 w'))
    (first | exact hS8.out _ _ HR8.out ((Below.refl _ _).drew) | (exact hS8.out _ _ (by go_split_ands; exact ⟨(by assumption), (by assumption), (by assumption), (by assumption), (by assumption)⟩) hbA) | go_keep)
    ((first
      | (go_at_call 16; (with_reducible refine (eqck_any P Q G a ya b yb A al na ca C Z zs nz cz han hzn hna hnz hQ cb HCB _ ?_ ?_ ?_).mono ?_); (go_split_ands; exact kV.out _ (by assumption)); (go_split_ands; exact kA.out _ (by assumption)); (go_split_ands; exact kZ.out _ (by assumption)); rintro e wA ⟨rfl, hbA⟩)
      | (go_at_call 17; (with_reducible refine (reqck_any P Q G a ya b yb A al na ca C Z zs nz cz han hzn hna hnz hQ cb HCB _ ?_ ?_).mono ?_); (go_split_ands; exact kA.out _ (by assumption)); (go_split_ands; exact kZ.out _ (by assumption)); rintro e wA ⟨rfl, hbA⟩)))
  rename_i hHeld
  obtain ⟨x0, x1, x2, x3, x4, x5, x6, x7, x8, x9, x10, x11, x12, HN8_0, HN8_1, HN8_2, HN8_3, HN8_4⟩ := hHeld
  clear hS8 HR8 x0 x1 x2 x3 x4 x5 x6 x7 x8 x9 x10 x11 x12
  obtain ⟨zc0, zc1, zc2, zc3, zc4, zc5⟩ := kC.out _ HN8_0
  obtain ⟨kR_0, kR_1⟩ := kR.out _ HN8_2
  obtain ⟨kRW_0, kRW_1⟩ := kRW.out _ HN8_1
  obtain ⟨kS_0, kS_1, kS_2⟩ := kS.out _ HN8_4
  go_wp2_with fail
  refine (rerelation_any a ya b yb _).mono ?_
  intro e w9 hE2
  obtain ⟨Y2, B2, A4, B4, rfl, hY2, hB2, hb0⟩ := hE2
  have HB_9 := Lib.hid (below_ext HN8_0.out hb0)
  have HB_w3_9 := Lib.hid (below_ext HN8_1.out hb0)
  have HB_w4_9 := Lib.hid (below_ext HN8_2.out hb0)
  have HB_w5_9 := Lib.hid (below_ext HN8_3.out hb0)
  have HB_w6_9 := Lib.hid (below_ext HN8_4.out hb0)
  clear zc0 zc1 zc2 zc3 zc4 zc5 kR_0 kR_1 kRW_0 kRW_1 kS_0 kS_1 kS_2
  clear hb0
  obtain ⟨zc0, zc1, zc2, zc3, zc4, zc5⟩ := kC.out _ HB_9
  obtain ⟨kR_0, kR_1⟩ := kR.out _ HB_w4_9
  obtain ⟨kRW_0, kRW_1⟩ := kRW.out _ HB_w3_9
  obtain ⟨kS_0, kS_1, kS_2⟩ := kS.out _ HB_w6_9
  have HB_w9_9 : Hid (Below w9.heap.size w9 w9) := Lib.hid (Below.refl _ _)
  have HY2 := Lib.hid hY2
  have HB2 := Lib.hid hB2
  clear hY2 hB2
  have kY2 := Lib.hid (show ∀ u : World, Hid (Below w9.heap.size w9 u) → Hid (Sl u Y2 [ya, yb]) from fun u h => Lib.hid (HY2.out.below h.out))
  have kB2 := Lib.hid (show ∀ u : World, Hid (Below w9.heap.size w9 u) → Hid (Rw u B2 (eqRows A4 B4 a b)) from fun u h => Lib.hid (HB2.out.below h.out))
  have hq := below_box0 w9 (relO Y2 2 2 B2 2 2)
  have HB_10 := Lib.hid (below_ext HB_9.out hq)
  have HB_w3_10 := Lib.hid (below_ext HB_w3_9.out hq)
  have HB_w4_10 := Lib.hid (below_ext HB_w4_9.out hq)
  have HB_w5_10 := Lib.hid (below_ext HB_w5_9.out hq)
  have HB_w6_10 := Lib.hid (below_ext HB_w6_9.out hq)
  have HB_w9_10 := Lib.hid (below_ext HB_w9_9.out hq)
  have hc : (w9.alloc (relO Y2 2 2 B2 2 2)).cell? ⟨w9.heap.size, 0, none⟩ = some (.slice Y2 2 2) ∧ (w9.alloc (relO Y2 2 2 B2 2 2)).cell? ⟨w9.heap.size, 1, none⟩ = some (.slice B2 2 2) := ⟨allocs_cell rfl (by rfl), allocs_cell rfl (by rfl)⟩
  have HC10 := Lib.hid hc
  clear zc0 zc1 zc2 zc3 zc4 zc5 kR_0 kR_1 kRW_0 kRW_1 kS_0 kS_1 kS_2
  clear hq
  obtain ⟨zc0, zc1, zc2, zc3, zc4, zc5⟩ := kC.out _ HB_10
  obtain ⟨kR_0, kR_1⟩ := kR.out _ HB_w4_10
  obtain ⟨kRW_0, kRW_1⟩ := kRW.out _ HB_w3_10
  obtain ⟨kS_0, kS_1, kS_2⟩ := kS.out _ HB_w6_10
  obtain ⟨zq0, zq1⟩ := hc
  go_wp2_with fail
  obtain ⟨w10, hw⟩ : ∃ x, (w9.alloc (relO Y2 2 2 B2 2 2)) = x := ⟨_, rfl⟩
  rw [hw] at HC10 HB_10 HB_w3_10 HB_w4_10 HB_w5_10 HB_w6_10 HB_w9_10 ⊢
  have HSN10 : Hid (w10.heap.size = w9.heap.size + 1) := Lib.hid (by rw [← hw]; simp)
  clear zc0 zc1 zc2 zc3 zc4 zc5 kR_0 kR_1 kRW_0 kRW_1 kS_0 kS_1 kS_2 zq0 zq1
  clear hw
  have HB_w10_10 : Hid (Below w10.heap.size w10 w10) := Lib.hid (Below.refl _ _)
  have kR2 := Lib.hid (show ∀ u : World, Hid (Below w10.heap.size w10 u) → u.cell? ⟨w9.heap.size, 0, none⟩ = some (.slice Y2 2 2) ∧ u.cell? ⟨w9.heap.size, 1, none⟩ = some (.slice B2 2 2) from fun u h => ⟨cell_below HC10.out.1 h.out, cell_below HC10.out.2 h.out⟩)
  obtain ⟨zc0, zc1, zc2, zc3, zc4, zc5⟩ := kC.out _ HB_10
  obtain ⟨kR_0, kR_1⟩ := kR.out _ HB_w4_10
  obtain ⟨kRW_0, kRW_1⟩ := kRW.out _ HB_w3_10
  obtain ⟨kS_0, kS_1, kS_2⟩ := kS.out _ HB_w6_10
  obtain ⟨kR2_0, kR2_1⟩ := kR2.out _ HB_w10_10
  go_wp2_with fail
  refine (eqs_any (some ⟨g + 1, 0, none⟩) [ya, yb] 2 2 Y2 [ya, yb] 2 2 true (Lib.hid (by simp)) (Lib.hid rfl) (Lib.hid rfl) (by omega) (by omega) _ (kY1.out _ HB_w3_10) (kY2.out _ HB_w9_10)).mono ?_
  rintro e w11 ⟨rfl, hb0⟩
  have HB_11 := Lib.hid (below_ext HB_10.out hb0)
  have HB_w3_11 := Lib.hid (below_ext HB_w3_10.out hb0)
  have HB_w4_11 := Lib.hid (below_ext HB_w4_10.out hb0)
  have HB_w5_11 := Lib.hid (below_ext HB_w5_10.out hb0)
  have HB_w6_11 := Lib.hid (below_ext HB_w6_10.out hb0)
  have HB_w9_11 := Lib.hid (below_ext HB_w9_10.out hb0)
  have HB_w10_11 := Lib.hid (below_ext HB_w10_10.out hb0)
  clear zc0 zc1 zc2 zc3 zc4 zc5 kR_0 kR_1 kRW_0 kRW_1 kS_0 kS_1 kS_2 kR2_0 kR2_1
  clear hb0
  obtain ⟨zc0, zc1, zc2, zc3, zc4, zc5⟩ := kC.out _ HB_11
  obtain ⟨kR_0, kR_1⟩ := kR.out _ HB_w4_11
  obtain ⟨kRW_0, kRW_1⟩ := kRW.out _ HB_w3_11
  obtain ⟨kS_0, kS_1, kS_2⟩ := kS.out _ HB_w6_11
  obtain ⟨kR2_0, kR2_1⟩ := kR2.out _ HB_w10_11
  have HOx := Lib.hid (sl_of_cells (cells1 w11 3 a))
  have hq := below_box0 w11 (.cells #[.int .i64 a] 3)
  have HB_12 := Lib.hid (below_ext HB_11.out hq)
  have HB_w3_12 := Lib.hid (below_ext HB_w3_11.out hq)
  have HB_w4_12 := Lib.hid (below_ext HB_w4_11.out hq)
  have HB_w5_12 := Lib.hid (below_ext HB_w5_11.out hq)
  have HB_w6_12 := Lib.hid (below_ext HB_w6_11.out hq)
  have HB_w9_12 := Lib.hid (below_ext HB_w9_11.out hq)
  have HB_w10_12 := Lib.hid (below_ext HB_w10_11.out hq)
  clear hq
  go_wp2_with fail
  refine (eqs_any (some ⟨g + 1 + 1, 0, none⟩) [a] 1 1 (some ⟨w11.heap.size, 0, none⟩) [a] 1 1 true (Lib.hid (by simp)) (Lib.hid rfl) (Lib.hid rfl) (by omega) (by omega) _ (kX1.out _ HB_w3_12) HOx).mono ?_
  rintro e w13 ⟨rfl, hb0⟩
  have HB_13 := Lib.hid (below_ext HB_12.out hb0)
  have HB_w3_13 := Lib.hid (below_ext HB_w3_12.out hb0)
  have HB_w4_13 := Lib.hid (below_ext HB_w4_12.out hb0)
  have HB_w5_13 := Lib.hid (below_ext HB_w5_12.out hb0)
  have HB_w6_13 := Lib.hid (below_ext HB_w6_12.out hb0)
  have HB_w9_13 := Lib.hid (below_ext HB_w9_12.out hb0)
  have HB_w10_13 := Lib.hid (below_ext HB_w10_12.out hb0)
  clear zc0 zc1 zc2 zc3 zc4 zc5 kR_0 kR_1 kRW_0 kRW_1 kS_0 kS_1 kS_2 kR2_0 kR2_1
  clear hb0
  obtain ⟨zc0, zc1, zc2, zc3, zc4, zc5⟩ := kC.out _ HB_13
  obtain ⟨kR_0, kR_1⟩ := kR.out _ HB_w4_13
  obtain ⟨kRW_0, kRW_1⟩ := kRW.out _ HB_w3_13
  obtain ⟨kS_0, kS_1, kS_2⟩ := kS.out _ HB_w6_13
  obtain ⟨kR2_0, kR2_1⟩ := kR2.out _ HB_w10_13
  clear HOx
  have HOx := Lib.hid (sl_of_cells (cells1 w13 3 b))
  have hq := below_box0 w13 (.cells #[.int .i64 b] 3)
  have HB_14 := Lib.hid (below_ext HB_13.out hq)
  have HB_w3_14 := Lib.hid (below_ext HB_w3_13.out hq)
  have HB_w4_14 := Lib.hid (below_ext HB_w4_13.out hq)
  have HB_w5_14 := Lib.hid (below_ext HB_w5_13.out hq)
  have HB_w6_14 := Lib.hid (below_ext HB_w6_13.out hq)
  have HB_w9_14 := Lib.hid (below_ext HB_w9_13.out hq)
  have HB_w10_14 := Lib.hid (below_ext HB_w10_13.out hq)
  clear hq
  go_wp2_with fail
  refine (eqs_any (some ⟨g + 1 + 1 + 1, 0, none⟩) [b] 1 1 (some ⟨w13.heap.size, 0, none⟩) [b] 1 1 true (Lib.hid (by simp)) (Lib.hid rfl) (Lib.hid rfl) (by omega) (by omega) _ (kX2.out _ HB_w3_14) HOx).mono ?_
  rintro e w15 ⟨rfl, hb0⟩
  have HB_15 := Lib.hid (below_ext HB_14.out hb0)
  have HB_w3_15 := Lib.hid (below_ext HB_w3_14.out hb0)
  have HB_w4_15 := Lib.hid (below_ext HB_w4_14.out hb0)
  have HB_w5_15 := Lib.hid (below_ext HB_w5_14.out hb0)
  have HB_w6_15 := Lib.hid (below_ext HB_w6_14.out hb0)
  have HB_w9_15 := Lib.hid (below_ext HB_w9_14.out hb0)
  have HB_w10_15 := Lib.hid (below_ext HB_w10_14.out hb0)
  clear zc0 zc1 zc2 zc3 zc4 zc5 kR_0 kR_1 kRW_0 kRW_1 kS_0 kS_1 kS_2 kR2_0 kR2_1
  clear hb0
  obtain ⟨zc0, zc1, zc2, zc3, zc4, zc5⟩ := kC.out _ HB_15
  obtain ⟨kR_0, kR_1⟩ := kR.out _ HB_w4_15
  obtain ⟨kRW_0, kRW_1⟩ := kRW.out _ HB_w3_15
  obtain ⟨kS_0, kS_1, kS_2⟩ := kS.out _ HB_w6_15
  obtain ⟨kR2_0, kR2_1⟩ := kR2.out _ HB_w10_15
  clear HOx
  obtain ⟨vb, hvb⟩ : ∃ x, verL P Q G C (bys s) [ya, yb] (eqRows none none a b) al zs = x := ⟨_, rfl⟩
  have HVB : Kp (eqVer P Q G a ya b yb C (bys s) al zs = vb) := ⟨by rw [eqVer, hr.out, hvb]; rfl⟩
  have HVL : Kp (verL P Q G C (bys s) [ya, yb] (eqRows A4 B4 a b) al zs = vb) := ⟨(verL_addr A4 B4).trans hvb⟩
  have evv : (vb != vb) = false := by simp
  clear hvb
  go_wp2_with fail
  clear zc0 zc1 zc2 zc3 zc4 zc5 kR_0 kR_1 kRW_0 kRW_1 kS_0 kS_1 kS_2 kR2_0 kR2_1
  have hS16 := Lib.hid (show ∀ u1 u2 : World, (Hid (Below w0.heap.size w0 u1) ∧ Hid (Below w3.heap.size w3 u1) ∧ Hid (Below w4.heap.size w4 u1) ∧ Hid (Below w5.heap.size w5 u1) ∧ Hid (Below w6.heap.size w6 u1) ∧ Hid (Below w9.heap.size w9 u1) ∧ Hid (Below w10.heap.size w10 u1)) → Below u1.heap.size u1 u2 → (u2.cell? ⟨w.heap.size, 0, none⟩ = some (.int .i64 P) ∧ u2.cell? ⟨w.heap.size, 1, none⟩ = some (.int .i64 Q) ∧ u2.cell? ⟨w.heap.size, 2, none⟩ = some (.int .i64 G) ∧ u2.cell? ⟨w.heap.size + 1, 0, none⟩ = some (.slice A na ca) ∧ u2.cell? ⟨w.heap.size + 1, 1, none⟩ = some (.int .i64 C) ∧ u2.cell? ⟨w.heap.size + 1, 2, none⟩ = some (.slice Z nz cz) ∧ u2.cell? ⟨w3.heap.size, 0, none⟩ = some (.slice (some ⟨g + 1, 0, none⟩) 2 2) ∧ u2.cell? ⟨w3.heap.size, 1, none⟩ = some (.slice (some ⟨g + 1 + 1 + 1 + 1, 0, none⟩) 2 2) ∧ u2.cell? ⟨g + 1 + 1 + 1 + 1, 0, none⟩ = some (.slice (some ⟨g + 1 + 1, 0, none⟩) 1 1) ∧ u2.cell? ⟨g + 1 + 1 + 1 + 1, 1, none⟩ = some (.slice (some ⟨g + 1 + 1 + 1, 0, none⟩) 1 1) ∧ u2.cell? ⟨w5.heap.size, 0, none⟩ = some (.slice A3 2 c3) ∧ u2.cell? ⟨w5.heap.size, 1, none⟩ = some (.int .i64 c) ∧ u2.cell? ⟨w5.heap.size, 2, none⟩ = some (.slice Z3 1 d3) ∧ u2.cell? ⟨w9.heap.size, 0, none⟩ = some (.slice Y2 2 2) ∧ u2.cell? ⟨w9.heap.size, 1, none⟩ = some (.slice B2 2 2) ∧ Hid (Below w0.heap.size w0 u2) ∧ Hid (Below w3.heap.size w3 u2) ∧ Hid (Below w4.heap.size w4 u2) ∧ Hid (Below w5.heap.size w5 u2) ∧ Hid (Below w6.heap.size w6 u2) ∧ Hid (Below w9.heap.size w9 u2) ∧ Hid (Below w10.heap.size w10 u2)) from fun u1 u2 h1 h2 => by
    obtain ⟨q0, q1, q2, q3, q4, q5, q6⟩ := h1
    have r0 := Lib.hid (below_ext q0.out h2)
    have r1 := Lib.hid (below_ext q1.out h2)
    have r2 := Lib.hid (below_ext q2.out h2)
    have r3 := Lib.hid (below_ext q3.out h2)
    have r4 := Lib.hid (below_ext q4.out h2)
    have r5 := Lib.hid (below_ext q5.out h2)
    have r6 := Lib.hid (below_ext q6.out h2)
    obtain ⟨y0, y1, y2, y3, y4, y5⟩ := kC.out _ r0
    obtain ⟨kR_0, kR_1⟩ := kR.out _ r2
    obtain ⟨kRW_0, kRW_1⟩ := kRW.out _ r1
    obtain ⟨kS_0, kS_1, kS_2⟩ := kS.out _ r4
    obtain ⟨kR2_0, kR2_1⟩ := kR2.out _ r6
    exact ⟨y0, y1, y2, y3, y4, y5, kR_0, kR_1, kRW_0, kRW_1, kS_0, kS_1, kS_2, kR2_0, kR2_1, r0, r1, r2, r3, r4, r5, r6⟩)
  have HR16 := Lib.hid (show Hid (Below w0.heap.size w0 w15) ∧ Hid (Below w3.heap.size w3 w15) ∧ Hid (Below w4.heap.size w4 w15) ∧ Hid (Below w5.heap.size w5 w15) ∧ Hid (Below w6.heap.size w6 w15) ∧ Hid (Below w9.heap.size w9 w15) ∧ Hid (Below w10.heap.size w10 w15) from ⟨HB_15, HB_w3_15, HB_w4_15, HB_w5_15, HB_w6_15, HB_w9_15, HB_w10_15⟩)
  go_region_held3 (fun w' => w'.cell? ⟨w.heap.size, 0, none⟩ = some (.int .i64 P) ∧ w'.cell? ⟨w.heap.size, 1, none⟩ = some (.int .i64 Q) ∧ w'.cell? ⟨w.heap.size, 2, none⟩ = some (.int .i64 G) ∧ w'.cell? ⟨w.heap.size + 1, 0, none⟩ = some (.slice A na ca) ∧ w'.cell? ⟨w.heap.size + 1, 1, none⟩ = some (.int .i64 C) ∧ w'.cell? ⟨w.heap.size + 1, 2, none⟩ = some (.slice Z nz cz) ∧ w'.cell? ⟨w3.heap.size, 0, none⟩ = some (.slice (some ⟨g + 1, 0, none⟩) 2 2) ∧ w'.cell? ⟨w3.heap.size, 1, none⟩ = some (.slice (some ⟨g + 1 + 1 + 1 + 1, 0, none⟩) 2 2) ∧ w'.cell? ⟨g + 1 + 1 + 1 + 1, 0, none⟩ = some (.slice (some ⟨g + 1 + 1, 0, none⟩) 1 1) ∧ w'.cell? ⟨g + 1 + 1 + 1 + 1, 1, none⟩ = some (.slice (some ⟨g + 1 + 1 + 1, 0, none⟩) 1 1) ∧ w'.cell? ⟨w5.heap.size, 0, none⟩ = some (.slice A3 2 c3) ∧ w'.cell? ⟨w5.heap.size, 1, none⟩ = some (.int .i64 c) ∧ w'.cell? ⟨w5.heap.size, 2, none⟩ = some (.slice Z3 1 d3) ∧ w'.cell? ⟨w9.heap.size, 0, none⟩ = some (.slice Y2 2 2) ∧ w'.cell? ⟨w9.heap.size, 1, none⟩ = some (.slice B2 2 2) ∧ Hid (Below w0.heap.size w0 w') ∧ Hid (Below w3.heap.size w3 w') ∧ Hid (Below w4.heap.size w4 w') ∧ Hid (Below w5.heap.size w5 w') ∧ Hid (Below w6.heap.size w6 w') ∧ Hid (Below w9.heap.size w9 w') ∧ Hid (Below w10.heap.size w10 w'))
    (first | exact hS16.out _ _ HR16.out ((Below.refl _ _).drew) | (exact hS16.out _ _ (by go_split_ands; exact ⟨(by assumption), (by assumption), (by assumption), (by assumption), (by assumption), (by assumption), (by assumption)⟩) hbA) | go_keep)
    ((first
      | (go_at_call 19; (with_reducible refine (eqvr_any P Q G a ya b yb A al na ca C Z zs nz cz han hzn hna hnz hQ s hs9 vb HVB _ ?_ ?_ ?_ ?_).mono ?_); (go_split_ands; exact kV.out _ (by assumption)); (go_split_ands; exact kD.out _ (by assumption)); (go_split_ands; exact kA.out _ (by assumption)); (go_split_ands; exact kZ.out _ (by assumption)); rintro e wA ⟨rfl, hbA⟩)
      | (go_at_call 22; (with_reducible refine (lver_any P Q G Y2 [ya, yb] 2 2 B2 (eqRows A4 B4 a b) 2 2 A al na ca C Z zs nz cz (Lib.hid rfl) (Lib.hid rfl) han hzn hna hnz hQ s hs9 vb HVL _ ?_ ?_ ?_ ?_ ?_ ?_).mono ?_); (go_split_ands; exact kV.out _ (by assumption)); (go_split_ands; exact kD.out _ (by assumption)); (go_split_ands; exact kY2.out _ (by assumption)); (go_split_ands; exact kB2.out _ (by assumption)); (go_split_ands; exact kA.out _ (by assumption)); (go_split_ands; exact kZ.out _ (by assumption)); rintro e wA ⟨rfl, hbA⟩)))
  rename_i hHeld
  obtain ⟨x0, x1, x2, x3, x4, x5, x6, x7, x8, x9, x10, x11, x12, x13, x14, HN16_0, HN16_1, HN16_2, HN16_3, HN16_4, HN16_5, HN16_6⟩ := hHeld
  clear hS16 HR16 x0 x1 x2 x3 x4 x5 x6 x7 x8 x9 x10 x11 x12 x13 x14
  obtain ⟨zc0, zc1, zc2, zc3, zc4, zc5⟩ := kC.out _ HN16_0
  obtain ⟨kR_0, kR_1⟩ := kR.out _ HN16_2
  obtain ⟨kRW_0, kRW_1⟩ := kRW.out _ HN16_1
  obtain ⟨kS_0, kS_1, kS_2⟩ := kS.out _ HN16_4
  obtain ⟨kR2_0, kR2_1⟩ := kR2.out _ HN16_6
  go_wp2_with fail
  refine (scalar18_any P Q G c true hsc _).mono ?_
  rintro e w17 ⟨rfl, hb0⟩
  have HB_17 := Lib.hid (below_ext HN16_0.out hb0)
  have HB_w3_17 := Lib.hid (below_ext HN16_1.out hb0)
  have HB_w4_17 := Lib.hid (below_ext HN16_2.out hb0)
  have HB_w5_17 := Lib.hid (below_ext HN16_3.out hb0)
  have HB_w6_17 := Lib.hid (below_ext HN16_4.out hb0)
  have HB_w9_17 := Lib.hid (below_ext HN16_5.out hb0)
  have HB_w10_17 := Lib.hid (below_ext HN16_6.out hb0)
  clear zc0 zc1 zc2 zc3 zc4 zc5 kR_0 kR_1 kRW_0 kRW_1 kS_0 kS_1 kS_2 kR2_0 kR2_1
  clear hb0
  obtain ⟨zc0, zc1, zc2, zc3, zc4, zc5⟩ := kC.out _ HB_17
  obtain ⟨kR_0, kR_1⟩ := kR.out _ HB_w4_17
  obtain ⟨kRW_0, kRW_1⟩ := kRW.out _ HB_w3_17
  obtain ⟨kS_0, kS_1, kS_2⟩ := kS.out _ HB_w6_17
  obtain ⟨kR2_0, kR2_1⟩ := kR2.out _ HB_w10_17
  go_wp2_with fail
  refine (scalar18_any P Q G z true hsz _).mono ?_
  rintro e w18 ⟨rfl, hb0⟩
  have HB_18 := Lib.hid (below_ext HB_17.out hb0)
  have HB_w3_18 := Lib.hid (below_ext HB_w3_17.out hb0)
  have HB_w4_18 := Lib.hid (below_ext HB_w4_17.out hb0)
  have HB_w5_18 := Lib.hid (below_ext HB_w5_17.out hb0)
  have HB_w6_18 := Lib.hid (below_ext HB_w6_17.out hb0)
  have HB_w9_18 := Lib.hid (below_ext HB_w9_17.out hb0)
  have HB_w10_18 := Lib.hid (below_ext HB_w10_17.out hb0)
  clear zc0 zc1 zc2 zc3 zc4 zc5 kR_0 kR_1 kRW_0 kRW_1 kS_0 kS_1 kS_2 kR2_0 kR2_1
  clear hb0
  obtain ⟨zc0, zc1, zc2, zc3, zc4, zc5⟩ := kC.out _ HB_18
  obtain ⟨kR_0, kR_1⟩ := kR.out _ HB_w4_18
  obtain ⟨kRW_0, kRW_1⟩ := kRW.out _ HB_w3_18
  obtain ⟨kS_0, kS_1, kS_2⟩ := kS.out _ HB_w6_18
  obtain ⟨kR2_0, kR2_1⟩ := kR2.out _ HB_w10_18
  have HOx := Lib.hid (sl_of_cells (cells1 w18 3 z))
  have hq := below_box0 w18 (.cells #[.int .i64 z] 3)
  have HB_19 := Lib.hid (below_ext HB_18.out hq)
  have HB_w3_19 := Lib.hid (below_ext HB_w3_18.out hq)
  have HB_w4_19 := Lib.hid (below_ext HB_w4_18.out hq)
  have HB_w5_19 := Lib.hid (below_ext HB_w5_18.out hq)
  have HB_w6_19 := Lib.hid (below_ext HB_w6_18.out hq)
  have HB_w9_19 := Lib.hid (below_ext HB_w9_18.out hq)
  have HB_w10_19 := Lib.hid (below_ext HB_w10_18.out hq)
  clear hq
  go_wp2_with fail
  refine (lsimul_ok P Q G Y2 [ya, yb] 2 B2 (eqRows A4 B4 a b) 2 2 c (some ⟨w18.heap.size, 0, none⟩) [z] 1 1 (Lib.hid ((chkR_addr A4 B4).trans hr2.out)) hc0 hc1 (Lib.hid rfl) (Lib.hid rfl) (Lib.hid rfl) (by omega) hQ _ (kV.out _ HB_19) (kY2.out _ HB_w9_19) (kB2.out _ HB_w9_19) HOx).mono ?_
  rintro e w20 ⟨A5, c5, Z5, d5, rfl, hA5, hZ5, hb0⟩
  have HB_20 := Lib.hid (below_ext HB_19.out hb0)
  have HB_w3_20 := Lib.hid (below_ext HB_w3_19.out hb0)
  have HB_w4_20 := Lib.hid (below_ext HB_w4_19.out hb0)
  have HB_w5_20 := Lib.hid (below_ext HB_w5_19.out hb0)
  have HB_w6_20 := Lib.hid (below_ext HB_w6_19.out hb0)
  have HB_w9_20 := Lib.hid (below_ext HB_w9_19.out hb0)
  have HB_w10_20 := Lib.hid (below_ext HB_w10_19.out hb0)
  clear zc0 zc1 zc2 zc3 zc4 zc5 kR_0 kR_1 kRW_0 kRW_1 kS_0 kS_1 kS_2 kR2_0 kR2_1
  clear hb0
  obtain ⟨zc0, zc1, zc2, zc3, zc4, zc5⟩ := kC.out _ HB_20
  obtain ⟨kR_0, kR_1⟩ := kR.out _ HB_w4_20
  obtain ⟨kRW_0, kRW_1⟩ := kRW.out _ HB_w3_20
  obtain ⟨kS_0, kS_1, kS_2⟩ := kS.out _ HB_w6_20
  obtain ⟨kR2_0, kR2_1⟩ := kR2.out _ HB_w10_20
  rw [simR_addr A4 B4, HSL.out] at hA5
  clear HOx
  have HB_w20_20 : Hid (Below w20.heap.size w20 w20) := Lib.hid (Below.refl _ _)
  have HA5 := Lib.hid hA5
  have HZ5 := Lib.hid hZ5
  clear hA5 hZ5
  have kA5 := Lib.hid (show ∀ u : World, Hid (Below w20.heap.size w20 u) → Hid (Sl u A5 SL) from fun u h => Lib.hid (HA5.out.below h.out))
  have kZ5 := Lib.hid (show ∀ u : World, Hid (Below w20.heap.size w20 u) → Hid (Sl u Z5 [z]) from fun u h => Lib.hid (HZ5.out.below h.out))
  have hq := below_box0 w20 (prObjL A5 2 c5 c Z5 1 d5)
  have HB_21 := Lib.hid (below_ext HB_20.out hq)
  have HB_w3_21 := Lib.hid (below_ext HB_w3_20.out hq)
  have HB_w4_21 := Lib.hid (below_ext HB_w4_20.out hq)
  have HB_w5_21 := Lib.hid (below_ext HB_w5_20.out hq)
  have HB_w6_21 := Lib.hid (below_ext HB_w6_20.out hq)
  have HB_w9_21 := Lib.hid (below_ext HB_w9_20.out hq)
  have HB_w10_21 := Lib.hid (below_ext HB_w10_20.out hq)
  have HB_w20_21 := Lib.hid (below_ext HB_w20_20.out hq)
  have hc : (w20.alloc (prObjL A5 2 c5 c Z5 1 d5)).cell? ⟨w20.heap.size, 0, none⟩ = some (.slice A5 2 c5) ∧ (w20.alloc (prObjL A5 2 c5 c Z5 1 d5)).cell? ⟨w20.heap.size, 1, none⟩ = some (.int .i64 c) ∧ (w20.alloc (prObjL A5 2 c5 c Z5 1 d5)).cell? ⟨w20.heap.size, 2, none⟩ = some (.slice Z5 1 d5) := ⟨allocs_cell rfl (by rfl), allocs_cell rfl (by rfl), allocs_cell rfl (by rfl)⟩
  have HC21 := Lib.hid hc
  clear zc0 zc1 zc2 zc3 zc4 zc5 kR_0 kR_1 kRW_0 kRW_1 kS_0 kS_1 kS_2 kR2_0 kR2_1
  clear hq
  obtain ⟨zc0, zc1, zc2, zc3, zc4, zc5⟩ := kC.out _ HB_21
  obtain ⟨kR_0, kR_1⟩ := kR.out _ HB_w4_21
  obtain ⟨kRW_0, kRW_1⟩ := kRW.out _ HB_w3_21
  obtain ⟨kS_0, kS_1, kS_2⟩ := kS.out _ HB_w6_21
  obtain ⟨kR2_0, kR2_1⟩ := kR2.out _ HB_w10_21
  obtain ⟨zq0, zq1, zq2⟩ := hc
  go_wp2_with fail
  obtain ⟨w21, hw⟩ : ∃ x, (w20.alloc (prObjL A5 2 c5 c Z5 1 d5)) = x := ⟨_, rfl⟩
  rw [hw] at HC21 HB_21 HB_w3_21 HB_w4_21 HB_w5_21 HB_w6_21 HB_w9_21 HB_w10_21 HB_w20_21 ⊢
  have HSN21 : Hid (w21.heap.size = w20.heap.size + 1) := Lib.hid (by rw [← hw]; simp)
  clear zc0 zc1 zc2 zc3 zc4 zc5 kR_0 kR_1 kRW_0 kRW_1 kS_0 kS_1 kS_2 kR2_0 kR2_1 zq0 zq1 zq2
  clear hw
  have HB_w21_21 : Hid (Below w21.heap.size w21 w21) := Lib.hid (Below.refl _ _)
  have kT := Lib.hid (show ∀ u : World, Hid (Below w21.heap.size w21 u) → u.cell? ⟨w20.heap.size, 0, none⟩ = some (.slice A5 2 c5) ∧ u.cell? ⟨w20.heap.size, 1, none⟩ = some (.int .i64 c) ∧ u.cell? ⟨w20.heap.size, 2, none⟩ = some (.slice Z5 1 d5) from fun u h => ⟨cell_below HC21.out.1 h.out, cell_below HC21.out.2.1 h.out, cell_below HC21.out.2.2 h.out⟩)
  obtain ⟨zc0, zc1, zc2, zc3, zc4, zc5⟩ := kC.out _ HB_21
  obtain ⟨kR_0, kR_1⟩ := kR.out _ HB_w4_21
  obtain ⟨kRW_0, kRW_1⟩ := kRW.out _ HB_w3_21
  obtain ⟨kS_0, kS_1, kS_2⟩ := kS.out _ HB_w6_21
  obtain ⟨kR2_0, kR2_1⟩ := kR2.out _ HB_w10_21
  obtain ⟨kT_0, kT_1, kT_2⟩ := kT.out _ HB_w21_21
  go_wp2_with fail
  refine (same18_any A3 SL 2 c3 c Z3 [z] 1 d3 A5 SL 2 c5 c Z5 [z] 1 d5 HSN (Lib.hid rfl) HSN (Lib.hid rfl) (by omega) (by omega) (by omega) (by omega) true (Lib.hid (by simp)) _ (kA3.out _ HB_w5_21) (kZ3.out _ HB_w5_21) (kA5.out _ HB_w20_21) (kZ5.out _ HB_w20_21)).mono ?_
  rintro e w22 ⟨rfl, hb0⟩
  have HB_22 := Lib.hid (below_ext HB_21.out hb0)
  have HB_w3_22 := Lib.hid (below_ext HB_w3_21.out hb0)
  have HB_w4_22 := Lib.hid (below_ext HB_w4_21.out hb0)
  have HB_w5_22 := Lib.hid (below_ext HB_w5_21.out hb0)
  have HB_w6_22 := Lib.hid (below_ext HB_w6_21.out hb0)
  have HB_w9_22 := Lib.hid (below_ext HB_w9_21.out hb0)
  have HB_w10_22 := Lib.hid (below_ext HB_w10_21.out hb0)
  have HB_w20_22 := Lib.hid (below_ext HB_w20_21.out hb0)
  have HB_w21_22 := Lib.hid (below_ext HB_w21_21.out hb0)
  clear zc0 zc1 zc2 zc3 zc4 zc5 kR_0 kR_1 kRW_0 kRW_1 kS_0 kS_1 kS_2 kR2_0 kR2_1 kT_0 kT_1 kT_2
  clear hb0
  obtain ⟨zc0, zc1, zc2, zc3, zc4, zc5⟩ := kC.out _ HB_22
  obtain ⟨kR_0, kR_1⟩ := kR.out _ HB_w4_22
  obtain ⟨kRW_0, kRW_1⟩ := kRW.out _ HB_w3_22
  obtain ⟨kS_0, kS_1, kS_2⟩ := kS.out _ HB_w6_22
  obtain ⟨kR2_0, kR2_1⟩ := kR2.out _ HB_w10_22
  obtain ⟨kT_0, kT_1, kT_2⟩ := kT.out _ HB_w21_22
  go_wp2_with fail
  refine (reqck_any P Q G a ya b yb A3 SL 2 c3 c Z3 [z] 1 d3 HSN (Lib.hid rfl) (by omega) (by omega) hQ true HSK _ (kA3.out _ HB_w5_22) (kZ3.out _ HB_w5_22)).mono ?_
  rintro e w23 ⟨rfl, hb0⟩
  have HB_23 := Lib.hid (below_ext HB_22.out hb0)
  have HB_w3_23 := Lib.hid (below_ext HB_w3_22.out hb0)
  have HB_w4_23 := Lib.hid (below_ext HB_w4_22.out hb0)
  have HB_w5_23 := Lib.hid (below_ext HB_w5_22.out hb0)
  have HB_w6_23 := Lib.hid (below_ext HB_w6_22.out hb0)
  have HB_w9_23 := Lib.hid (below_ext HB_w9_22.out hb0)
  have HB_w10_23 := Lib.hid (below_ext HB_w10_22.out hb0)
  have HB_w20_23 := Lib.hid (below_ext HB_w20_22.out hb0)
  have HB_w21_23 := Lib.hid (below_ext HB_w21_22.out hb0)
  clear zc0 zc1 zc2 zc3 zc4 zc5 kR_0 kR_1 kRW_0 kRW_1 kS_0 kS_1 kS_2 kR2_0 kR2_1 kT_0 kT_1 kT_2
  clear hb0
  obtain ⟨zc0, zc1, zc2, zc3, zc4, zc5⟩ := kC.out _ HB_23
  obtain ⟨kR_0, kR_1⟩ := kR.out _ HB_w4_23
  obtain ⟨kRW_0, kRW_1⟩ := kRW.out _ HB_w3_23
  obtain ⟨kS_0, kS_1, kS_2⟩ := kS.out _ HB_w6_23
  obtain ⟨kR2_0, kR2_1⟩ := kR2.out _ HB_w10_23
  obtain ⟨kT_0, kT_1, kT_2⟩ := kT.out _ HB_w21_23
  have HOx := Lib.hid (sl_of_cells (cells1 w23 3 z))
  have hq := below_box0 w23 (.cells #[.int .i64 z] 3)
  have HB_24 := Lib.hid (below_ext HB_23.out hq)
  have HB_w3_24 := Lib.hid (below_ext HB_w3_23.out hq)
  have HB_w4_24 := Lib.hid (below_ext HB_w4_23.out hq)
  have HB_w5_24 := Lib.hid (below_ext HB_w5_23.out hq)
  have HB_w6_24 := Lib.hid (below_ext HB_w6_23.out hq)
  have HB_w9_24 := Lib.hid (below_ext HB_w9_23.out hq)
  have HB_w10_24 := Lib.hid (below_ext HB_w10_23.out hq)
  have HB_w20_24 := Lib.hid (below_ext HB_w20_23.out hq)
  have HB_w21_24 := Lib.hid (below_ext HB_w21_23.out hq)
  clear hq
  go_wp2_with fail
  refine (eqs_any Z3 [z] 1 d3 (some ⟨w23.heap.size, 0, none⟩) [z] 1 1 true (Lib.hid (by simp)) (Lib.hid rfl) (Lib.hid rfl) (by omega) (by omega) _ (kZ3.out _ HB_w5_24) HOx).mono ?_
  rintro e w25 ⟨rfl, hb0⟩
  have HB_25 := Lib.hid (below_ext HB_24.out hb0)
  have HB_w3_25 := Lib.hid (below_ext HB_w3_24.out hb0)
  have HB_w4_25 := Lib.hid (below_ext HB_w4_24.out hb0)
  have HB_w5_25 := Lib.hid (below_ext HB_w5_24.out hb0)
  have HB_w6_25 := Lib.hid (below_ext HB_w6_24.out hb0)
  have HB_w9_25 := Lib.hid (below_ext HB_w9_24.out hb0)
  have HB_w10_25 := Lib.hid (below_ext HB_w10_24.out hb0)
  have HB_w20_25 := Lib.hid (below_ext HB_w20_24.out hb0)
  have HB_w21_25 := Lib.hid (below_ext HB_w21_24.out hb0)
  clear zc0 zc1 zc2 zc3 zc4 zc5 kR_0 kR_1 kRW_0 kRW_1 kS_0 kS_1 kS_2 kR2_0 kR2_1 kT_0 kT_1 kT_2
  clear hb0
  obtain ⟨zc0, zc1, zc2, zc3, zc4, zc5⟩ := kC.out _ HB_25
  obtain ⟨kR_0, kR_1⟩ := kR.out _ HB_w4_25
  obtain ⟨kRW_0, kRW_1⟩ := kRW.out _ HB_w3_25
  obtain ⟨kS_0, kS_1, kS_2⟩ := kS.out _ HB_w6_25
  obtain ⟨kR2_0, kR2_1⟩ := kR2.out _ HB_w10_25
  obtain ⟨kT_0, kT_1, kT_2⟩ := kT.out _ HB_w21_25
  have hbF := below_ext HBw.out HB_25.out
  go_wp2
  go_ret
  exact ⟨rfl, hbF⟩
/-- THE LAW: true for every input. -/
theorem ec_true (P Q G a ya b yb : Int) (s : ByteArray) (A : Option Addr) (al : List Int) (na ca : Nat) (C : Int) (Z : Option Addr) (zs : List Int) (nz cz : Nat) (c z : Int) (han : Hid (al.length = na)) (hzn : Hid (zs.length = nz)) (hQ : Q < 9223372036854775808) (w : World) (hv : Hid (Vars w)) (hd : Hid (VarsD w)) (hA : Hid (Sl w A al)) (hZ : Hid (Sl w Z zs)) :
    Calls Tryz.prog 4 #[gv P Q G, .int .i64 a, .int .i64 ya, .int .i64 b, .int .i64 yb, .string s, prvL A na ca C Z nz cz, .int .i64 c, .int .i64 z] w fun e' w' => e' = .returned (.bool true) ∧ Below w.heap.size w w' := by
  cases hgr : (decide (100 < na) || decide (100 < nz)) with
  | true => exact ec_great P Q G a ya b yb s A al na ca C Z zs nz cz c z han hzn hQ (Lib.hid hgr) w hv hd hA hZ
  | false =>
    by_cases hl : 100 < s.size
    · exact ec_long P Q G a ya b yb s A al na ca C Z zs nz cz c z han hzn hQ (Lib.hid hgr) hl w hv hd hA hZ
    · have h2 : na ≤ 100 ∧ nz ≤ 100 := by simpa using hgr
      by_cases h0 : chkG P Q G [a, ya, b, yb] = 0
      · have hr2 := chkR_eq (c := c) (z := z) h0
        cases hc : scB Q c with
        | false => exact ec_no P Q G a ya b yb s A al na ca C Z zs nz cz c z han hzn hQ (Lib.hid hgr) (by omega) (by omega) (by omega) (Lib.hid h0) false (Lib.hid hc) (Lib.hid (Or.inl rfl)) (Lib.hid (by rw [hr2, hc]; rfl)) w hv hd hA hZ
        | true =>
          cases hz : scB Q z with
          | false => exact ec_no P Q G a ya b yb s A al na ca C Z zs nz cz c z han hzn hQ (Lib.hid hgr) (by omega) (by omega) (by omega) (Lib.hid h0) true (Lib.hid hc) (Lib.hid (Or.inr hz)) (Lib.hid (by rw [hr2, hc, hz]; rfl)) w hv hd hA hZ
          | true => exact ec_yes P Q G a ya b yb s A al na ca C Z zs nz cz c z han hzn hQ (Lib.hid hgr) (by omega) (by omega) (by omega) (Lib.hid h0) (Lib.hid hc) (Lib.hid hz) (Lib.hid (by rw [hr2, hc, hz]; rfl)) w hv hd hA hZ
      · exact ec_bad P Q G a ya b yb s A al na ca C Z zs nz cz c z han hzn hQ (Lib.hid hgr) (by omega) (by omega) (by omega) _ (Lib.hid rfl) (by simpa using h0) w hv hd hA hZ
end Go.Proofs.YtdlhodbiaoafiaaGreatDoor
