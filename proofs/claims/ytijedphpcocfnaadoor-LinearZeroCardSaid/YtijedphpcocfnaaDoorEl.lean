/- The contracts of group.element, Contains, check. -/
import Derived.Test.YtijedphpcocfnaaDoorGroup
namespace Go.Proofs.YtijedphpcocfnaaDoor
open Go.RowKit SpM
set_option linter.unusedVariables false

theorem below_ext {w u u' : World} (h : Below w.heap.size w u) (h2 : Below u.heap.size u u') : Below w.heap.size w u' := h.trans (h2.mono h.size)

/-- what membership in a valid group says. -/
def memG (P Q x : Int) : Bool := decide (1 ≤ x ∧ x < P ∧ pw x Q P = 1)

theorem memG_lo {P Q x : Int} (h : memG P Q x = true) : 1 ≤ x := by simp [memG] at h; exact h.1
theorem memG_hi {P Q x : Int} (h : memG P Q x = true) : x < P := by simp [memG] at h; exact h.2.1
theorem memG_pw {P Q x : Int} (h : memG P Q x = true) : pw x Q P = 1 := by simp [memG] at h; exact h.2.2

set_option maxHeartbeats 800000 in
theorem element_any (P Q G x : Int) (b : Bool) (hb : Hid (memG P Q x = b)) (h1 : P < 2305843009213693952) (hQ0 : 0 ≤ Q) (hQ : Q < 9223372036854775808) (w : World) :
    Calls Tryd.prog 104 #[gv P Q G, .int .i64 x] w fun e' w' => e' = .returned (.bool b) ∧ Below w.heap.size w w' := by
  by_cases hx : x < 1
  · obtain rfl : b = false := by rw [← hb.out]; simp [memG]; omega
    go_enter Tryd.func104, Tryd.ntmps104
    go_wp2
    go_ret
    exact ⟨rfl, below_box0 _ _⟩
  · by_cases hx2 : P ≤ x
    · obtain rfl : b = false := by rw [← hb.out]; simp [memG]; omega
      go_enter Tryd.func104, Tryd.ntmps104
      go_wp2
      go_ret
      exact ⟨rfl, below_box0 _ _⟩
    · have d1 : decide (x < 1) = false := by simp; omega
      have d2 : decide (P ≤ x) = false := by simp; omega
      obtain ⟨y, hy⟩ : ∃ y, pw x Q P = y := ⟨_, rfl⟩
      have g9 : ((y : Int) == 1) = b := by
        rw [← hb.out, ← hy, memG, Bool.eq_iff_iff]
        simp only [beq_iff_eq, decide_eq_true_eq]
        exact ⟨fun h => ⟨by omega, by omega, h⟩, fun h => h.2.2⟩
      have HX := Lib.hid hy
      clear hy hb
      go_enter Tryd.func104, Tryd.ntmps104
      go_wp2_with fail
      refine (pow_ok x Q P (by omega) h1 (by omega) (by omega) hQ0 hQ _).mono ?_
      rintro e w' ⟨rfl, n3, rfl⟩
      rw [HX.out]
      go_wp2
      go_ret
      exact ⟨rfl, below_box _ _ _⟩

/-- the box of a group. -/
def GBox (w : World) (a : Nat) (P Q G : Int) : Prop := w.cell? ⟨a, 0, none⟩ = some (.int .i64 P) ∧ w.cell? ⟨a, 1, none⟩ = some (.int .i64 Q) ∧ w.cell? ⟨a, 2, none⟩ = some (.int .i64 G)
theorem gbox_alloc (w : World) (P Q G : Int) : GBox (w.alloc (gObj P Q G)) w.heap.size P Q G :=
  ⟨World.cell?_alloc_at _ _ _ _ rfl, World.cell?_alloc_at _ _ _ _ rfl, World.cell?_alloc_at _ _ _ _ rfl⟩
theorem GBox.below {w w' : World} {a : Nat} {P Q G : Int} (h : GBox w a P Q G) (hb : Below w.heap.size w w') : GBox w' a P Q G :=
  ⟨(hb.cell (World.block_lt_of_cell? _ _ h.1)).trans h.1, (hb.cell (World.block_lt_of_cell? _ _ h.2.1)).trans h.2.1, (hb.cell (World.block_lt_of_cell? _ _ h.2.2)).trans h.2.2⟩

theorem validG_P {P Q G : Int} (h : validG P Q G = true) : 2 ≤ P ∧ P < 2305843009213693952 ∧ 3 ≤ Q ∧ Q < P := by
  simp [validG] at h
  obtain ⟨h1, h2, h3, h4, h5, h6, h7⟩ := h
  have hp := isP_two h4
  have hd : Q ∣ P - 1 := Int.dvd_of_emod_eq_zero h6
  have := Int.le_of_dvd (by omega) hd
  exact ⟨hp, h1, h2, by omega⟩

/-- what Contains says. -/
def conG (P Q G x : Int) : Bool := validG P Q G && memG P Q x

set_option maxHeartbeats 800000 in
theorem contains_any (P Q G x : Int) (b : Bool) (hb : Hid (conG P Q G x = b)) (hQ : Q < 9223372036854775808) (w : World) (hv : Hid (Vars w)) :
    Calls Tryd.prog 97 #[gv P Q G, .int .i64 x] w fun e' w' => e' = .returned (.bool b) ∧ Below w.heap.size w w' := by
  have HB0 := Lib.hid (gbox_alloc w P Q G)
  have HV0 := Lib.hid (hv.out.below (below_box0 w (gObj P Q G)))
  cases hval : validG P Q G with
  | false =>
    obtain rfl : b = false := by rw [← hb.out]; simp [conG, hval]
    have HV : Hid (validG P Q G = false) := hval
    clear hval hb
    go_enter Tryd.func97, Tryd.ntmps97
    go_wp2_with fail
    refine (valid_any P Q G false HV hQ _ HV0).mono ?_
    rintro e w1 ⟨rfl, hb0⟩
    have hb1 := below_ext (below_box0 _ _) hb0
    obtain ⟨c0, c1, c2⟩ := HB0.out.below hb0
    clear hb0
    go_wp2
    go_ret
    exact ⟨rfl, hb1⟩
  | true =>
    obtain ⟨hp2, hp, hq3, hqp⟩ := validG_P hval
    have HM : Hid (memG P Q x = b) := Lib.hid (by rw [← hb.out, conG, hval, Bool.true_and])
    have HV : Hid (validG P Q G = true) := hval
    clear hval hb
    go_enter Tryd.func97, Tryd.ntmps97
    go_wp2_with fail
    refine (valid_any P Q G true HV hQ _ HV0).mono ?_
    rintro e w1 ⟨rfl, hb0⟩
    have hb1 := below_ext (below_box0 _ _) hb0
    obtain ⟨c0, c1, c2⟩ := HB0.out.below hb0
    clear hb0
    go_wp2_with fail
    refine (element_any P Q G x b HM hp (by omega) hQ _).mono ?_
    rintro e w2 ⟨rfl, hb0⟩
    have hb2 := below_ext hb1 hb0
    clear hb0
    go_wp2
    go_ret
    exact ⟨rfl, hb2⟩
end Go.Proofs.YtijedphpcocfnaaDoor
