/- linear.Valid, and the unknowns. -/
import Derived.Test.YtijedphpcocfnaaDoorLinB
import Derived.Test.YtijedphpcocfnaaDoorSml
namespace Go.Proofs.YtijedphpcocfnaaDoor
open Go.RowKit SpM
set_option linter.unusedVariables false
set_option linter.unusedSimpArgs false
set_option maxRecDepth 20000

/-- a relation's value, its block, its box. -/
abbrev relV (Y : Option Addr) (yn yc : Nat) (B : Option Addr) (bn bc : Nat) : Value := .agg #[.slice Y yn yc, .slice B bn bc]
abbrev relO (Y : Option Addr) (yn yc : Nat) (B : Option Addr) (bn bc : Nat) : Obj := .cells #[.slice Y yn yc, .slice B bn bc] 27
def RBox (w : World) (a : Nat) (u v : Value) : Prop := w.cell? ⟨a, 0, none⟩ = some u ∧ w.cell? ⟨a, 1, none⟩ = some v
theorem RBox.below {w w' : World} {a : Nat} {u v : Value} (h : RBox w a u v) (hb : Below w.heap.size w w') : RBox w' a u v :=
  ⟨(hb.cell (World.block_lt_of_cell? _ _ h.1)).trans h.1, (hb.cell (World.block_lt_of_cell? _ _ h.2)).trans h.2⟩
theorem rbox_alloc0 (w : World) (T : TypeId) (u v : Value) : RBox (w.alloc (.cells #[u, v] T)) w.heap.size u v := ⟨World.cell?_alloc_at _ _ _ _ rfl, World.cell?_alloc_at _ _ _ _ rfl⟩
theorem rbox_alloc1 (w : World) (o : Obj) (T : TypeId) (u v : Value) : RBox ((w.alloc o).alloc (.cells #[u, v] T)) (w.heap.size + 1) u v := by
  have e : (w.alloc o).heap.size = w.heap.size + 1 := by simp
  rw [← e]
  exact rbox_alloc0 _ _ _ _
theorem Rw.at {w : World} {b o : Nat} {rs : List Row} (h : Rw w (some ⟨b, o, none⟩) rs) {k : Nat} (hk : k < rs.length) : w.cell? ⟨b, o + k, none⟩ = some (rs.getD k noRow).val := by
  obtain ⟨⟨b', o', h1, h2⟩, _⟩ := h k hk
  cases h1
  exact h2
theorem Rw.head {w : World} {b o : Nat} {rs : List Row} {p : Option Addr} {n c : Nat} {xs : List Int} (h : Rw w (some ⟨b, o, none⟩) rs) (hk : 0 < rs.length) (e : rs.getD 0 noRow = ⟨p, n, c, xs⟩) : w.cell? ⟨b, o, none⟩ = some (.slice p n c) := by
  have h2 := h.at hk
  rw [e, Nat.add_zero] at h2
  exact h2
theorem Rw.some {w : World} {B : Option Addr} {rs : List Row} (h : Rw w B rs) (hk : 0 < rs.length) : ∃ b o, B = some ⟨b, o, none⟩ := by
  obtain ⟨⟨b, o, h1, _⟩, _⟩ := h 0 hk
  exact ⟨b, o, h1⟩

/-- a row of n elements; a valid relation. -/
def rowB (P Q : Int) (n : Nat) (r : Row) : Bool := decide (r.n = n) && r.xs.all (memG P Q)
def rowN (rows : List Row) : Nat := (rows.getD 0 noRow).n
def validR (P Q G : Int) (ys : List Int) (rows : List Row) : Bool :=
  validG P Q G && (decide (1 ≤ ys.length) && (decide (ys.length ≤ 8) && (decide (rows.length = ys.length) && (ys.all (memG P Q) && (decide (1 ≤ rowN rows) && (decide (rowN rows ≤ 12) && rows.all (rowB P Q (rowN rows))))))))

theorem lunknowns_any (Y : Option Addr) (yn yc : Nat) (B : Option Addr) (rows : List Row) (bn bc n : Nat) (hbn : Hid (rows.length = bn)) (hpos : 0 < bn) (hn : Hid (rowN rows = n)) (w : World) (hB : Hid (Rw w B rows)) :
    Calls Tryd.prog 54 #[relV Y yn yc B bn bc] w fun e' w' => e' = .returned (.int .i64 n) ∧ Below w.heap.size w w' := by
  obtain ⟨b, o, rfl⟩ := hB.out.some (by rw [hbn.out]; exact hpos)
  obtain ⟨R, hR⟩ : ∃ R, rows.getD 0 noRow = R := ⟨_, rfl⟩
  obtain ⟨p, n0, k, xs⟩ := R
  obtain rfl : n0 = n := by rw [← hn.out, rowN, hR]
  have hc := (hB.out.below (below_box0 w (relO Y yn yc (some ⟨b, o, none⟩) bn bc))).head (by rw [hbn.out]; exact hpos) hR
  clear hR hB hn
  go_enter Tryd.func54, Tryd.ntmps54
  go_wp2
  go_ret
  exact ⟨rfl, below_box0 _ _⟩
theorem runknowns_any (Y : Option Addr) (yn yc : Nat) (B : Option Addr) (rows : List Row) (bn bc n : Nat) (hbn : Hid (rows.length = bn)) (hpos : 0 < bn) (hn : Hid (rowN rows = n)) (w : World) (hB : Hid (Rw w B rows)) :
    Calls Tryd.prog 53 #[relV Y yn yc B bn bc] w fun e' w' => e' = .returned (.int .i64 n) ∧ Below w.heap.size w w' := by
  obtain ⟨b, o, rfl⟩ := hB.out.some (by rw [hbn.out]; exact hpos)
  obtain ⟨R, hR⟩ : ∃ R, rows.getD 0 noRow = R := ⟨_, rfl⟩
  obtain ⟨p, n0, k, xs⟩ := R
  obtain rfl : n0 = n := by rw [← hn.out, rowN, hR]
  have hc := (hB.out.below (below_box0 w (relO Y yn yc (some ⟨b, o, none⟩) bn bc))).head (by rw [hbn.out]; exact hpos) hR
  clear hR hB hn
  go_enter Tryd.func53, Tryd.ntmps53
  go_wp2
  go_ret
  exact ⟨rfl, below_box0 _ _⟩

theorem says_lv (P Q G : Int) (n a g : Nat) (h1 : P < 2305843009213693952) (hQ0 : 0 ≤ Q) (hQ : Q < 9223372036854775808) (hn12 : n ≤ 12) (W : World) (hn : Hid (W.cell? ⟨a, 0, none⟩ = some (.int .i64 n))) (hx : Hid (GBox W g P Q G)) :
    SaysR 52 #[.pointer (some ⟨a, 0, none⟩), .pointer (some ⟨g, 0, none⟩)] (fun r => !rowB P Q n r) W := fun r w1 hb hok => by
  obtain ⟨p, m, c, xs⟩ := r
  show Calls Tryd.prog 52 #[.slice p m c, .pointer (some ⟨a, 0, none⟩), .pointer (some ⟨g, 0, none⟩)] w1 fun e w' => e = .returned (.bool (!rowB P Q n ⟨p, m, c, xs⟩)) ∧ Below w1.heap.size w1 w'
  obtain ⟨c0, c1, c2⟩ := hx.out.below hb
  have ca := cell_below hn.out hb
  have hl : xs.length = m := hok.1
  have HS : Hid (Sl w1 p xs) := Lib.hid hok.2
  by_cases hm : m = n
  · subst hm
    obtain ⟨r, hr⟩ : ∃ r, xs.all (memG P Q) = r := ⟨_, rfl⟩
    have e : rowB P Q m ⟨p, m, c, xs⟩ = r := by simp [rowB, hr]
    rw [e]
    have HR := Lib.hid hr
    have HL := Lib.hid hl
    clear hr hb hok e hl
    go_enter Tryd.func52, Tryd.ntmps52
    go_wp2_with fail
    refine (elements_any P Q G p xs m c r HR HL (Lib.hid (by omega)) h1 hQ0 hQ _ HS).mono ?_
    rintro e w2 ⟨rfl, hb0⟩
    go_wp2
    go_ret
    exact ⟨rfl, hb0⟩
  · have e : rowB P Q n ⟨p, m, c, xs⟩ = false := by simp [rowB, hm]
    rw [e]
    have hne : ((m : Int) != (n : Int)) = true := by simp; omega
    clear hb hok e hl
    go_enter Tryd.func52, Tryd.ntmps52
    go_wp2
    go_ret
    exact ⟨rfl, Below.refl _ _⟩

theorem anyR_not_all {f : Row → Bool} {xs : List Row} : (xs.any fun x => !f x) = !(xs.all f) := by
  induction xs with
  | nil => rfl
  | cons x xs ih => rw [List.any_cons, List.all_cons, ih, Bool.not_and]

set_option maxHeartbeats 6400000 in
theorem lvalid_any (P Q G : Int) (Y : Option Addr) (ys : List Int) (yn yc : Nat) (B : Option Addr) (rows : List Row) (bn bc : Nat) (r : Bool) (hr : Hid (validR P Q G ys rows = r)) (hyn : Hid (ys.length = yn)) (hbn : Hid (rows.length = bn)) (hQ : Q < 9223372036854775808) (w : World) (hv : Hid (Vars w)) (hY : Hid (Sl w Y ys)) (hB : Hid (Rw w B rows)) :
    Calls Tryd.prog 13 #[gv P Q G, relV Y yn yc B bn bc] w fun e' w' => e' = .returned (.bool r) ∧ Below w.heap.size w w' := by
  obtain ⟨w0, hW⟩ : ∃ W, (w.alloc (gObj P Q G)).alloc (relO Y yn yc B bn bc) = W := ⟨_, rfl⟩
  have HBw : Hid (Below w.heap.size w w0) := Lib.hid (by rw [← hW]; exact below_two (Below.refl _ _))
  have HX0 : Hid (GBox w0 w.heap.size P Q G) := Lib.hid (by rw [← hW]; exact (gbox_alloc w P Q G).below (below_box0 _ _))
  have HR0 : Hid (RBox w0 (w.heap.size + 1) (.slice Y yn yc) (.slice B bn bc)) := Lib.hid (by rw [← hW]; exact rbox_alloc1 _ _ _ _ _)
  have HY0 : Hid (Sl w0 Y ys) := Lib.hid (hY.out.below HBw.out)
  have HW_0 : Hid (Rw w0 B rows) := Lib.hid (hB.out.below HBw.out)
  have HV0 : Hid (Vars w0) := Lib.hid (hv.out.below HBw.out)
  have HW := Lib.hid hW
  clear hW hY hv
  have hr' := hr.out
  rw [validR, hyn.out, hbn.out] at hr'
  cases hval : validG P Q G with
  | false =>
    obtain rfl : r = false := by rw [← hr', hval, Bool.false_and]
    have HVL := Lib.hid hval
    clear hr hr' hval hB
    go_enter Tryd.func13, Tryd.ntmps13
    go_wp2_with fail
    rw [HW.out]
    go_wp2_with fail
    refine (valid_any P Q G false HVL hQ _ HV0).mono ?_
    rintro e w1 ⟨rfl, hb0⟩
    have hb1 := below_ext (HBw.out) hb0
    have HV1 := Lib.hid (HV0.out.below hb0)
    have HX1 := Lib.hid (HX0.out.below hb0)
    have HR1 := Lib.hid (HR0.out.below hb0)
    have HY1 := Lib.hid (HY0.out.below hb0)
    have HW_1 := Lib.hid (HW_0.out.below hb0)
    clear hb0
    obtain ⟨c0, c1, c2⟩ := HX1.out
    obtain ⟨d0, d1⟩ := HR1.out
    go_wp2
    go_ret
    exact ⟨rfl, hb1⟩
  | true =>
    obtain ⟨hp2, hp, hq3, hqp⟩ := validG_P hval
    have HVL := Lib.hid hval
    rw [hval, Bool.true_and] at hr'
    clear hval
    by_cases h1 : yn < 1
    · obtain rfl : r = false := by rw [← hr', decide_eq_false (show ¬ 1 ≤ yn by omega)]; rfl
      have d_h1 : decide ((yn : Int) < 1) = true := by simp; omega
      clear hr hr' hB
      go_enter Tryd.func13, Tryd.ntmps13
      go_wp2_with fail
      rw [HW.out]
      go_wp2_with fail
      refine (valid_any P Q G true HVL hQ _ HV0).mono ?_
      rintro e w1 ⟨rfl, hb0⟩
      have hb1 := below_ext (HBw.out) hb0
      have HV1 := Lib.hid (HV0.out.below hb0)
      have HX1 := Lib.hid (HX0.out.below hb0)
      have HR1 := Lib.hid (HR0.out.below hb0)
      have HY1 := Lib.hid (HY0.out.below hb0)
      have HW_1 := Lib.hid (HW_0.out.below hb0)
      clear hb0
      obtain ⟨c0, c1, c2⟩ := HX1.out
      obtain ⟨d0, d1⟩ := HR1.out
      go_wp2
      go_ret
      exact ⟨rfl, hb1⟩
    · rw [decide_eq_true (show 1 ≤ yn by omega), Bool.true_and] at hr'
      have d_h1 : decide ((yn : Int) < 1) = false := by simp; omega
      by_cases h2 : 8 < yn
      · obtain rfl : r = false := by rw [← hr', decide_eq_false (show ¬ yn ≤ 8 by omega)]; rfl
        have d_h2 : decide ((8 : Int) < (yn : Int)) = true := by simp; omega
        clear hr hr' hB
        go_enter Tryd.func13, Tryd.ntmps13
        go_wp2_with fail
        rw [HW.out]
        go_wp2_with fail
        refine (valid_any P Q G true HVL hQ _ HV0).mono ?_
        rintro e w1 ⟨rfl, hb0⟩
        have hb1 := below_ext (HBw.out) hb0
        have HV1 := Lib.hid (HV0.out.below hb0)
        have HX1 := Lib.hid (HX0.out.below hb0)
        have HR1 := Lib.hid (HR0.out.below hb0)
        have HY1 := Lib.hid (HY0.out.below hb0)
        have HW_1 := Lib.hid (HW_0.out.below hb0)
        clear hb0
        obtain ⟨c0, c1, c2⟩ := HX1.out
        obtain ⟨d0, d1⟩ := HR1.out
        go_wp2
        go_ret
        exact ⟨rfl, hb1⟩
      · rw [decide_eq_true (show yn ≤ 8 by omega), Bool.true_and] at hr'
        have d_h2 : decide ((8 : Int) < (yn : Int)) = false := by simp; omega
        by_cases h3 : ¬ bn = yn
        · obtain rfl : r = false := by rw [← hr', decide_eq_false h3]; rfl
          have d_h3 : ((bn : Int) != (yn : Int)) = true := by simp; omega
          clear hr hr' hB
          go_enter Tryd.func13, Tryd.ntmps13
          go_wp2_with fail
          rw [HW.out]
          go_wp2_with fail
          refine (valid_any P Q G true HVL hQ _ HV0).mono ?_
          rintro e w1 ⟨rfl, hb0⟩
          have hb1 := below_ext (HBw.out) hb0
          have HV1 := Lib.hid (HV0.out.below hb0)
          have HX1 := Lib.hid (HX0.out.below hb0)
          have HR1 := Lib.hid (HR0.out.below hb0)
          have HY1 := Lib.hid (HY0.out.below hb0)
          have HW_1 := Lib.hid (HW_0.out.below hb0)
          clear hb0
          obtain ⟨c0, c1, c2⟩ := HX1.out
          obtain ⟨d0, d1⟩ := HR1.out
          go_wp2
          go_ret
          exact ⟨rfl, hb1⟩
        · rw [decide_eq_true (show bn = yn by omega), Bool.true_and] at hr'
          have d_h3 : ((bn : Int) != (yn : Int)) = false := by simp; omega
          obtain rfl : bn = yn := by omega
          clear d_h3 h3
          cases h4 : ys.all (memG P Q) with
          | false =>
            obtain rfl : r = false := by rw [← hr', h4]; rfl
            have HE := Lib.hid h4
            clear hr hr' hB h4
            go_enter Tryd.func13, Tryd.ntmps13
            go_wp2_with fail
            rw [HW.out]
            go_wp2_with fail
            refine (valid_any P Q G true HVL hQ _ HV0).mono ?_
            rintro e w1 ⟨rfl, hb0⟩
            have hb1 := below_ext (HBw.out) hb0
            have HV1 := Lib.hid (HV0.out.below hb0)
            have HX1 := Lib.hid (HX0.out.below hb0)
            have HR1 := Lib.hid (HR0.out.below hb0)
            have HY1 := Lib.hid (HY0.out.below hb0)
            have HW_1 := Lib.hid (HW_0.out.below hb0)
            clear hb0
            obtain ⟨c0, c1, c2⟩ := HX1.out
            obtain ⟨d0, d1⟩ := HR1.out
            go_wp2_with fail
            refine (elements_any P Q G Y ys bn yc false HE hyn (Lib.hid (by omega)) hp (by omega) hQ _ HY1).mono ?_
            rintro e w2 ⟨rfl, hb0⟩
            have hb2 := below_ext hb1 hb0
            have HV2 := Lib.hid (HV1.out.below hb0)
            have HX2 := Lib.hid (HX1.out.below hb0)
            have HR2 := Lib.hid (HR1.out.below hb0)
            have HY2 := Lib.hid (HY1.out.below hb0)
            have HW_2 := Lib.hid (HW_1.out.below hb0)
            clear c0 c1 c2 d0 d1 hb0
            obtain ⟨c0, c1, c2⟩ := HX2.out
            obtain ⟨d0, d1⟩ := HR2.out
            go_wp2
            go_ret
            exact ⟨rfl, hb2⟩
          | true =>
            have HE := Lib.hid h4
            rw [h4, Bool.true_and] at hr'
            obtain ⟨b0, o0, rfl⟩ := hB.out.some (by rw [hbn.out]; omega)
            obtain ⟨R, hR⟩ : ∃ R, rows.getD 0 noRow = R := ⟨_, rfl⟩
            obtain ⟨p0, n0, k0, x0⟩ := R
            have hN : rowN rows = n0 := by rw [rowN, hR]
            rw [hN] at hr'
            have hpos : 0 < rows.length := by rw [hbn.out]; omega
            have hbpos : 0 < bn := by omega
            have HR_ := Lib.hid hR
            clear hR h4 hB hN
            by_cases h5 : n0 < 1
            · obtain rfl : r = false := by rw [← hr', decide_eq_false (show ¬ 1 ≤ n0 by omega)]; rfl
              have d5 : decide ((n0 : Int) < 1) = true := by simp; omega
              clear hr hr'
              go_enter Tryd.func13, Tryd.ntmps13
              go_wp2_with fail
              rw [HW.out]
              go_wp2_with fail
              refine (valid_any P Q G true HVL hQ _ HV0).mono ?_
              rintro e w1 ⟨rfl, hb0⟩
              have hb1 := below_ext (HBw.out) hb0
              have HV1 := Lib.hid (HV0.out.below hb0)
              have HX1 := Lib.hid (HX0.out.below hb0)
              have HR1 := Lib.hid (HR0.out.below hb0)
              have HY1 := Lib.hid (HY0.out.below hb0)
              have HW_1 := Lib.hid (HW_0.out.below hb0)
              clear hb0
              obtain ⟨c0, c1, c2⟩ := HX1.out
              obtain ⟨d0, d1⟩ := HR1.out
              go_wp2_with fail
              refine (elements_any P Q G Y ys bn yc true HE hyn (Lib.hid (by omega)) hp (by omega) hQ _ HY1).mono ?_
              rintro e w2 ⟨rfl, hb0⟩
              have hb2 := below_ext hb1 hb0
              have HV2 := Lib.hid (HV1.out.below hb0)
              have HX2 := Lib.hid (HX1.out.below hb0)
              have HR2 := Lib.hid (HR1.out.below hb0)
              have HY2 := Lib.hid (HY1.out.below hb0)
              have HW_2 := Lib.hid (HW_1.out.below hb0)
              clear c0 c1 c2 d0 d1 hb0
              obtain ⟨c0, c1, c2⟩ := HX2.out
              obtain ⟨d0, d1⟩ := HR2.out
              have hc0 := HW_2.out.head hpos HR_.out
              have hq : Below w2.heap.size w2 (w2.alloc (.cells #[.int .i64 n0] 3)) := below_box0 _ _
              have hbF := below_ext hb2 hq
              clear hq
              go_wp2
              go_ret
              exact ⟨rfl, hbF⟩
            · rw [decide_eq_true (show 1 ≤ n0 by omega), Bool.true_and] at hr'
              have d5 : decide ((n0 : Int) < 1) = false := by simp; omega
              by_cases h6 : 12 < n0
              · obtain rfl : r = false := by rw [← hr', decide_eq_false (show ¬ n0 ≤ 12 by omega)]; rfl
                have d6 : decide ((12 : Int) < (n0 : Int)) = true := by simp; omega
                clear hr hr'
                go_enter Tryd.func13, Tryd.ntmps13
                go_wp2_with fail
                rw [HW.out]
                go_wp2_with fail
                refine (valid_any P Q G true HVL hQ _ HV0).mono ?_
                rintro e w1 ⟨rfl, hb0⟩
                have hb1 := below_ext (HBw.out) hb0
                have HV1 := Lib.hid (HV0.out.below hb0)
                have HX1 := Lib.hid (HX0.out.below hb0)
                have HR1 := Lib.hid (HR0.out.below hb0)
                have HY1 := Lib.hid (HY0.out.below hb0)
                have HW_1 := Lib.hid (HW_0.out.below hb0)
                clear hb0
                obtain ⟨c0, c1, c2⟩ := HX1.out
                obtain ⟨d0, d1⟩ := HR1.out
                go_wp2_with fail
                refine (elements_any P Q G Y ys bn yc true HE hyn (Lib.hid (by omega)) hp (by omega) hQ _ HY1).mono ?_
                rintro e w2 ⟨rfl, hb0⟩
                have hb2 := below_ext hb1 hb0
                have HV2 := Lib.hid (HV1.out.below hb0)
                have HX2 := Lib.hid (HX1.out.below hb0)
                have HR2 := Lib.hid (HR1.out.below hb0)
                have HY2 := Lib.hid (HY1.out.below hb0)
                have HW_2 := Lib.hid (HW_1.out.below hb0)
                clear c0 c1 c2 d0 d1 hb0
                obtain ⟨c0, c1, c2⟩ := HX2.out
                obtain ⟨d0, d1⟩ := HR2.out
                have hc0 := HW_2.out.head hpos HR_.out
                have hq : Below w2.heap.size w2 (w2.alloc (.cells #[.int .i64 n0] 3)) := below_box0 _ _
                have hbF := below_ext hb2 hq
                clear hq
                go_wp2
                go_ret
                exact ⟨rfl, hbF⟩
              · rw [decide_eq_true (show n0 ≤ 12 by omega), Bool.true_and] at hr'
                have d6 : decide ((12 : Int) < (n0 : Int)) = false := by simp; omega
                have HP : Hid ((rows.any fun x => !rowB P Q n0 x) = !r) := Lib.hid (by rw [anyR_not_all, hr'])
                clear hr hr'
                go_enter Tryd.func13, Tryd.ntmps13
                go_wp2_with fail
                rw [HW.out]
                go_wp2_with fail
                refine (valid_any P Q G true HVL hQ _ HV0).mono ?_
                rintro e w1 ⟨rfl, hb0⟩
                have hb1 := below_ext (HBw.out) hb0
                have HV1 := Lib.hid (HV0.out.below hb0)
                have HX1 := Lib.hid (HX0.out.below hb0)
                have HR1 := Lib.hid (HR0.out.below hb0)
                have HY1 := Lib.hid (HY0.out.below hb0)
                have HW_1 := Lib.hid (HW_0.out.below hb0)
                clear hb0
                obtain ⟨c0, c1, c2⟩ := HX1.out
                obtain ⟨d0, d1⟩ := HR1.out
                go_wp2_with fail
                refine (elements_any P Q G Y ys bn yc true HE hyn (Lib.hid (by omega)) hp (by omega) hQ _ HY1).mono ?_
                rintro e w2 ⟨rfl, hb0⟩
                have hb2 := below_ext hb1 hb0
                have HV2 := Lib.hid (HV1.out.below hb0)
                have HX2 := Lib.hid (HX1.out.below hb0)
                have HR2 := Lib.hid (HR1.out.below hb0)
                have HY2 := Lib.hid (HY1.out.below hb0)
                have HW_2 := Lib.hid (HW_1.out.below hb0)
                clear c0 c1 c2 d0 d1 hb0
                obtain ⟨c0, c1, c2⟩ := HX2.out
                obtain ⟨d0, d1⟩ := HR2.out
                have hc0 := HW_2.out.head hpos HR_.out
                have hq : Below w2.heap.size w2 (w2.alloc (.cells #[.int .i64 n0] 3)) := below_box0 _ _
                have hcn : (w2.alloc (.cells #[.int .i64 n0] 3)).cell? ⟨w2.heap.size, 0, none⟩ = some (.int .i64 n0) := World.cell?_alloc_at _ _ _ _ rfl
                have HXn := Lib.hid (HX2.out.below hq)
                have HWn := Lib.hid (HW_2.out.below hq)
                have hbn2 := below_ext hb2 hq
                have hRn := HR2.out.below hq
                obtain ⟨d2, d3⟩ := hRn
                have HSy := Lib.hid (says_lv P Q G n0 w2.heap.size w.heap.size hp (by omega) hQ (by omega) _ (Lib.hid hcn) HXn)
                have HCF := Lib.hid (cfr_lv (.pointer (some ⟨w2.heap.size, 0, none⟩)) (.pointer (some ⟨w.heap.size, 0, none⟩)) (fun x => !rowB P Q n0 x) (!r) (some ⟨b0, o0, none⟩) rows bn bc HP hbn (Lib.hid (by omega)) _ HWn HSy)
                clear hq
                go_wp2_with fail
                refine HCF.out.mono ?_
                rintro e w9 ⟨rfl, hb0⟩
                have hbF := below_ext hbn2 hb0
                clear hb0
                go_wp2
                go_ret
                exact ⟨by simp, hbF⟩
end Go.Proofs.YtijedphpcocfnaaDoor
