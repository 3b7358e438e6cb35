/- linear.Check: the good case. -/
import Derived.Test.YtijedphpcocfnaaDoorLinO
namespace Go.Proofs.YtijedphpcocfnaaDoor
open Go.RowKit SpM
set_option linter.unusedVariables false
set_option linter.unusedSimpArgs false
set_option maxRecDepth 100000

/-- a proof's value, its block, its box (names apart from layer 16's). -/
abbrev prvL (pa : Option Addr) (na ca : Nat) (C : Int) (pz : Option Addr) (nz cz : Nat) : Value := .agg #[.slice pa na ca, .int .i64 C, .slice pz nz cz]
abbrev prObjL (pa : Option Addr) (na ca : Nat) (C : Int) (pz : Option Addr) (nz cz : Nat) : Obj := .cells #[.slice pa na ca, .int .i64 C, .slice pz nz cz] 39
def PrBox (w : World) (a : Nat) (x y z : Value) : Prop := w.cell? ⟨a, 0, none⟩ = some x ∧ w.cell? ⟨a, 1, none⟩ = some y ∧ w.cell? ⟨a, 2, none⟩ = some z
theorem PrBox.below {w w' : World} {a : Nat} {x y z : Value} (h : PrBox w a x y z) (hb : Below w.heap.size w w') : PrBox w' a x y z :=
  ⟨cell_below h.1 hb, cell_below h.2.1 hb, cell_below h.2.2 hb⟩
theorem prBox_alloc0 (w : World) (T : TypeId) (x y z : Value) : PrBox (w.alloc (.cells #[x, y, z] T)) w.heap.size x y z := ⟨World.cell?_alloc_at _ _ _ _ rfl, World.cell?_alloc_at _ _ _ _ rfl, World.cell?_alloc_at _ _ _ _ rfl⟩
theorem boxes3 (w : World) (o1 o2 : Obj) (T : TypeId) (x y z : Value) : PrBox (((w.alloc o1).alloc o2).alloc (.cells #[x, y, z] T)) (w.heap.size + 2) x y z := by
  have e : ((w.alloc o1).alloc o2).heap.size = w.heap.size + 2 := by simp
  rw [← e]
  exact prBox_alloc0 _ _ _ _ _
theorem boxes3_below {w : World} {o1 o2 o3 : Obj} : Below w.heap.size w (((w.alloc o1).alloc o2).alloc o3) :=
  (((Below.refl _ _).alloc (Nat.le_refl _) _).alloc (by simp) _).alloc (by simp; omega) _

set_option maxHeartbeats 12800000 in
theorem lcheckp_ok (P Q G : Int) (Y : Option Addr) (ys : List Int) (n yc : Nat) (B : Option Addr) (rows : List Row) (bc : Nat) (A : Option Addr) (al : List Int) (ca : Nat) (C : Int) (Z : Option Addr) (zs : List Int) (nz cz : Nat)
    (HVL : Hid (validR P Q G ys rows = true)) (hyn : Hid (ys.length = n)) (hbn : Hid (rows.length = n)) (han : Hid (al.length = n)) (hzn : Hid (zs.length = nz)) (hlen : zs.length = rowN rows) (Hl : Hid (zs.all (scB Q) = true)) (hc0 : 0 ≤ C) (hc1 : C < Q) (r : Bool) (hr : Hid ((simR P Q C ys rows zs == al) = r))
    (hQ : Q < 9223372036854775808) (w : World) (hv : Hid (Vars w)) (hY : Hid (Sl w Y ys)) (hB : Hid (Rw w B rows)) (hA : Hid (Sl w A al)) (hZ : Hid (Sl w Z zs)) :
    Calls Tryd.prog 27 #[gv P Q G, relV Y n yc B n bc, prvL A n ca C Z nz cz] w fun e' w' => e' = .returned (.bool r) ∧ Below w.heap.size w w' := by
  obtain ⟨v1, v2, v3, v4, v5, v6, v7, v8⟩ := validR_parts HVL.out
  have hnp : 0 < n := by rw [← hyn.out]; omega
  have hn8 : n ≤ 8 := by rw [← hyn.out]; omega
  have hz12 : nz ≤ 12 := by rw [← hzn.out]; omega
  have HN : Hid (rowN rows = nz) := Lib.hid (hlen.symm.trans hzn.out)
  have hnn : ((n : Int) != (n : Int)) = false := by simp
  have hzz : ((nz : Int) != (nz : Int)) = false := by simp
  have HSC := Lib.hid (scB_one hc0 hc1)
  have hsl : (simR P Q C ys rows zs).length = n := by rw [simR_length]; exact hbn.out
  clear v1 v2 v3 v4 v5 v6 v7 v8
  obtain ⟨W, hW⟩ : ∃ W, ((w.alloc (gObj P Q G)).alloc (relO Y n yc B n bc)).alloc (prObjL A n ca C Z nz cz) = W := ⟨_, rfl⟩
  have HBw : Hid (Below w.heap.size w W) := Lib.hid (by rw [← hW]; exact boxes3_below)
  have HX0 : Hid (GBox W w.heap.size P Q G) := Lib.hid (by rw [← hW]; exact ((gbox_alloc w P Q G).below (below_box0 _ _)).below (below_box0 _ _))
  have HR0 : Hid (RBox W (w.heap.size + 1) (.slice Y n yc) (.slice B n bc)) := Lib.hid (by rw [← hW]; exact (rbox_alloc1 _ _ _ _ _).below (below_box0 _ _))
  have HP0 : Hid (PrBox W (w.heap.size + 2) (.slice A n ca) (.int .i64 C) (.slice Z nz cz)) := Lib.hid (by rw [← hW]; exact boxes3 w _ _ _ _ _ _)
  have hOV := Lib.hid (show ∀ u1 : World, Hid (Below W.heap.size W u1) → Hid (Vars u1) from fun u1 h1 => Lib.hid (hv.out.below (below_ext HBw.out h1.out)))
  have hOY := Lib.hid (show ∀ u1 : World, Hid (Below W.heap.size W u1) → Hid (Sl u1 Y ys) from fun u1 h1 => Lib.hid (hY.out.below (below_ext HBw.out h1.out)))
  have hOB := Lib.hid (show ∀ u1 : World, Hid (Below W.heap.size W u1) → Hid (Rw u1 B rows) from fun u1 h1 => Lib.hid (hB.out.below (below_ext HBw.out h1.out)))
  have hOA := Lib.hid (show ∀ u1 : World, Hid (Below W.heap.size W u1) → Hid (Sl u1 A al) from fun u1 h1 => Lib.hid (hA.out.below (below_ext HBw.out h1.out)))
  have hOZ := Lib.hid (show ∀ u1 : World, Hid (Below W.heap.size W u1) → Hid (Sl u1 Z zs) from fun u1 h1 => Lib.hid (hZ.out.below (below_ext HBw.out h1.out)))
  have hS := Lib.hid (show ∀ u1 u2 : World, Hid (Below W.heap.size W u1) → Below u1.heap.size u1 u2 → (u2.cell? ⟨w.heap.size, 0, none⟩ = some (.int .i64 P) ∧ u2.cell? ⟨w.heap.size, 1, none⟩ = some (.int .i64 Q) ∧ u2.cell? ⟨w.heap.size, 2, none⟩ = some (.int .i64 G) ∧ u2.cell? ⟨w.heap.size + 1, 0, none⟩ = some (.slice Y n yc) ∧ u2.cell? ⟨w.heap.size + 1, 1, none⟩ = some (.slice B n bc) ∧ u2.cell? ⟨w.heap.size + 2, 0, none⟩ = some (.slice A n ca) ∧ u2.cell? ⟨w.heap.size + 2, 1, none⟩ = some (.int .i64 C) ∧ u2.cell? ⟨w.heap.size + 2, 2, none⟩ = some (.slice Z nz cz) ∧ Hid (Below W.heap.size W u2)) from fun u1 u2 h1 h2 => have h3 := below_ext h1.out h2; ⟨(HX0.out.below h3).1, (HX0.out.below h3).2.1, (HX0.out.below h3).2.2, (HR0.out.below h3).1, (HR0.out.below h3).2, (HP0.out.below h3).1, (HP0.out.below h3).2.1, (HP0.out.below h3).2.2, Lib.hid h3⟩)
  have hR : Hid (Below W.heap.size W W) := Lib.hid (Below.refl _ _)
  have HW := Lib.hid hW
  clear hW hv hY hB hA hZ
  go_enter Tryd.func27, Tryd.ntmps27
  go_wp2_with fail
  rw [HW.out]
  go_region_held3 (fun w' => w'.cell? ⟨w.heap.size, 0, none⟩ = some (.int .i64 P) ∧ w'.cell? ⟨w.heap.size, 1, none⟩ = some (.int .i64 Q) ∧ w'.cell? ⟨w.heap.size, 2, none⟩ = some (.int .i64 G) ∧ w'.cell? ⟨w.heap.size + 1, 0, none⟩ = some (.slice Y n yc) ∧ w'.cell? ⟨w.heap.size + 1, 1, none⟩ = some (.slice B n bc) ∧ w'.cell? ⟨w.heap.size + 2, 0, none⟩ = some (.slice A n ca) ∧ w'.cell? ⟨w.heap.size + 2, 1, none⟩ = some (.int .i64 C) ∧ w'.cell? ⟨w.heap.size + 2, 2, none⟩ = some (.slice Z nz cz) ∧ Hid (Below W.heap.size W w'))
    (first | exact hS.out _ _ hR ((Below.refl W.heap.size W).drew) | (go_split_ands; exact hS.out _ _ (by assumption) hbA) | (go_split_ands; exact hS.out _ _ (by assumption) (below_box0 _ _)) | go_keep)
    ((first
      | (go_at_call 13; (with_reducible refine (lvalid_any P Q G Y ys n yc B rows n bc true HVL hyn hbn hQ _ ?_ ?_ ?_).mono ?_); (go_split_ands; exact hOV.out _ (by assumption)); (go_split_ands; exact hOY.out _ (by assumption)); (go_split_ands; exact hOB.out _ (by assumption)); rintro e wA ⟨rfl, hbA⟩)
      | (go_at_call 54; (with_reducible refine (lunknowns_any Y n yc B rows n bc nz hbn hnp HN _ ?_).mono ?_); (go_split_ands; exact hOB.out _ (by assumption)); rintro e wA ⟨rfl, hbA⟩)
      | (go_at_call 55; (with_reducible refine (scalars_any P Q G Z zs nz cz true Hl hzn (Lib.hid (by omega)) _ ?_).mono ?_); (go_split_ands; exact hOZ.out _ (by assumption)); rintro e wA ⟨rfl, hbA⟩)
      | (go_at_call 55; (with_reducible refine (scalars_any P Q G (some ⟨wA.heap.size, 0, none⟩) [C] 1 1 true HSC (Lib.hid rfl) (Lib.hid (by omega)) _ ?_).mono ?_); exact Lib.hid (sl_of_cells (cells1 wA _ C)); rintro e wA ⟨rfl, hbA⟩)))
  rename_i hHeld
  obtain ⟨x0, x1, x2, x3, x4, x5, x6, x7, HBA⟩ := hHeld
  clear x0 x1 x2 x3 x4 x5 x6 x7
  obtain ⟨W2, hW2⟩ : ∃ x, x = wA := ⟨_, rfl⟩
  go_wp2
  go_region_held3 (fun w' => w'.cell? ⟨w.heap.size, 0, none⟩ = some (.int .i64 P) ∧ w'.cell? ⟨w.heap.size, 1, none⟩ = some (.int .i64 Q) ∧ w'.cell? ⟨w.heap.size, 2, none⟩ = some (.int .i64 G) ∧ w'.cell? ⟨w.heap.size + 1, 0, none⟩ = some (.slice Y n yc) ∧ w'.cell? ⟨w.heap.size + 1, 1, none⟩ = some (.slice B n bc) ∧ w'.cell? ⟨w.heap.size + 2, 0, none⟩ = some (.slice A n ca) ∧ w'.cell? ⟨w.heap.size + 2, 1, none⟩ = some (.int .i64 C) ∧ w'.cell? ⟨w.heap.size + 2, 2, none⟩ = some (.slice Z nz cz) ∧ Hid (Below W.heap.size W w'))
    (first | exact hS.out _ _ HBA ((Below.refl _ _).drew) | (go_split_ands; exact hS.out _ _ (by assumption) hbA) | go_keep)
    ((first
      | (go_at_call 58; (with_reducible refine (lsim_ok P Q G Y ys yc B rows n bc C Z zs nz cz HVL hyn hbn hzn hlen Hl hc0 hc1 hQ _ ?_ ?_ ?_).mono ?_); (go_split_ands; exact hOY.out _ (by assumption)); (go_split_ands; exact hOB.out _ (by assumption)); (go_split_ands; exact hOZ.out _ (by assumption)); rintro e wA ⟨g, cap, rfl, hcA, hbA⟩)
      | (go_at_call 18; (with_reducible refine (eq_any g n cap (simR P Q C ys rows zs) A al n ca hsl han hnp (by omega) (by omega) _ hcA ?_).mono ?_); (go_split_ands; exact hOA.out _ (by assumption)); rintro e wA ⟨rfl, hbA⟩)))
  rename_i hHeld
  obtain ⟨x0, x1, x2, x3, x4, x5, x6, x7, HBF⟩ := hHeld
  have hbF := below_ext HBw.out HBF.out
  clear x0 x1 x2 x3 x4 x5 x6 x7
  go_wp2
  go_ret
  exact ⟨by first | (rw [hr.out]; done) | (rw [hr.out]; rfl) | (rw [hr.out]; simp) | (simp [hr.out]; done), hbF⟩
end Go.Proofs.YtijedphpcocfnaaDoor
