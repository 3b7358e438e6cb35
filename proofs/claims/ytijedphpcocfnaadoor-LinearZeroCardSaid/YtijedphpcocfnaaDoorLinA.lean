/- Elements and scalars, of package linear and of the reference. -/
import Derived.Test.YtijedphpcocfnaaDoorCf
import Derived.Test.YtijedphpcocfnaaDoorEl
namespace Go.Proofs.YtijedphpcocfnaaDoor
open Go.RowKit SpM
set_option linter.unusedVariables false
set_option linter.unusedSimpArgs false
set_option maxRecDepth 20000

set_option maxHeartbeats 800000 in
theorem lelement_any (P Q G x : Int) (b : Bool) (hb : Hid (memG P Q x = b)) (h1 : P < 2305843009213693952) (hQ0 : 0 ≤ Q) (hQ : Q < 9223372036854775808) (w : World) :
    Calls Tryd.prog 90 #[gv P Q G, .int .i64 x] w fun e' w' => e' = .returned (.bool b) ∧ Below w.heap.size w w' := by
  by_cases hx : x < 1
  · obtain rfl : b = false := by rw [← hb.out]; simp [memG]; omega
    go_enter Tryd.func90, Tryd.ntmps90
    go_wp2
    go_ret
    exact ⟨rfl, below_box0 _ _⟩
  · by_cases hx2 : P ≤ x
    · obtain rfl : b = false := by rw [← hb.out]; simp [memG]; omega
      go_enter Tryd.func90, Tryd.ntmps90
      go_wp2
      go_ret
      exact ⟨rfl, below_box0 _ _⟩
    · have d1 : decide (x < 1) = false := by simp; omega
      have d2 : decide (P ≤ x) = false := by simp; omega
      obtain ⟨y, hy⟩ : ∃ y, pw x Q P = y := ⟨_, rfl⟩
      have g9 : ((y : Int) == 1) = b := by
        rw [← hb.out, ← hy, memG, Bool.eq_iff_iff]
        simp only [beq_iff_eq, decide_eq_true_eq]
        exact ⟨fun h => ⟨by omega, by omega, h⟩, fun h => h.2.2⟩
      have HX := Lib.hid hy
      clear hy hb
      go_enter Tryd.func90, Tryd.ntmps90
      go_wp2_with fail
      refine (pow_ok x Q P (by omega) h1 (by omega) (by omega) hQ0 hQ _).mono ?_
      rintro e w' ⟨rfl, n3, rfl⟩
      rw [HX.out]
      go_wp2
      go_ret
      exact ⟨rfl, below_box _ _ _⟩

/-- a scalar of the group. -/
def scB (Q x : Int) : Bool := decide (0 ≤ x) && decide (x < Q)

theorem says_lel (P Q G : Int) (a : Nat) (h1 : P < 2305843009213693952) (hQ0 : 0 ≤ Q) (hQ : Q < 9223372036854775808) (W : World) (hx : Hid (GBox W a P Q G)) :
    Says 89 #[.pointer (some ⟨a, 0, none⟩)] (fun x => !memG P Q x) W := fun x w1 hb => by
  show Calls Tryd.prog 89 #[.int .i64 x, .pointer (some ⟨a, 0, none⟩)] w1 fun e w' => e = .returned (.bool (!memG P Q x)) ∧ Below w1.heap.size w1 w'
  obtain ⟨c0, c1, c2⟩ := hx.out.below hb
  obtain ⟨r, hr⟩ : ∃ r, memG P Q x = r := ⟨_, rfl⟩
  have HR := Lib.hid hr
  rw [hr]
  clear hr hb
  go_enter Tryd.func89, Tryd.ntmps89
  go_wp2_with fail
  refine (lelement_any P Q G x r HR h1 hQ0 hQ _).mono ?_
  rintro e w2 ⟨rfl, hb0⟩
  go_wp2
  go_ret
  exact ⟨rfl, hb0⟩

theorem says_lsc (P Q G : Int) (a : Nat) (W : World) (hx : Hid (GBox W a P Q G)) :
    Says 91 #[.pointer (some ⟨a, 0, none⟩)] (fun x => !scB Q x) W := fun x w1 hb => by
  show Calls Tryd.prog 91 #[.int .i64 x, .pointer (some ⟨a, 0, none⟩)] w1 fun e w' => e = .returned (.bool (!scB Q x)) ∧ Below w1.heap.size w1 w'
  obtain ⟨c0, c1, c2⟩ := hx.out.below hb
  by_cases h0 : x < 0
  · have e : scB Q x = false := by simp [scB]; omega
    rw [e]
    have d0 : decide (x < 0) = true := by simp; omega
    clear hb e
    go_enter Tryd.func91, Tryd.ntmps91
    go_wp2
    go_ret
    exact ⟨rfl, Below.refl _ _⟩
  · have d0 : decide (x < 0) = false := by simp; omega
    obtain ⟨t, ht⟩ : ∃ t, decide (Q ≤ x) = t := ⟨_, rfl⟩
    have e : scB Q x = !t := by
      rw [← ht, scB, decide_eq_true (show (0 : Int) ≤ x by omega), Bool.true_and, ← decide_not]
      exact decide_eq_decide.2 (by omega)
    rw [e, Bool.not_not]
    clear hb e
    go_enter Tryd.func91, Tryd.ntmps91
    go_wp2
    go_ret
    exact ⟨by first | rfl | rw [ht], Below.refl _ _⟩

theorem any_not_all {f : Int → Bool} {xs : List Int} : (xs.any fun x => !f x) = !(xs.all f) := by
  induction xs with
  | nil => rfl
  | cons x xs ih => rw [List.any_cons, List.all_cons, ih, Bool.not_and]

theorem elements_any (P Q G : Int) (A : Option Addr) (xs : List Int) (n c : Nat) (r : Bool) (hr : Hid (xs.all (memG P Q) = r)) (hn : Hid (xs.length = n)) (hbig : Hid (n < 1000000)) (h1 : P < 2305843009213693952) (hQ0 : 0 ≤ Q) (hQ : Q < 9223372036854775808) (w : World) (hs : Hid (Sl w A xs)) :
    Calls Tryd.prog 51 #[gv P Q G, .slice A n c] w fun e' w' => e' = .returned (.bool r) ∧ Below w.heap.size w w' := by
  have HX0 := Lib.hid (gbox_alloc w P Q G)
  have HS0 := Lib.hid (hs.out.below (below_box0 w (gObj P Q G)))
  have HSy := Lib.hid (says_lel P Q G w.heap.size h1 hQ0 hQ _ HX0)
  have HP : Hid ((xs.any fun x => !memG P Q x) = !r) := Lib.hid (by rw [any_not_all, hr.out])
  clear hs
  go_enter Tryd.func51, Tryd.ntmps51
  go_wp2_with fail
  refine (cf_lel (.pointer (some ⟨w.heap.size, 0, none⟩)) (fun x => !memG P Q x) (!r) A xs n c HP hn hbig _ HS0 HSy).mono ?_
  rintro e w1 ⟨rfl, hb0⟩
  have hb1 := below_ext (below_box0 _ _) hb0
  clear hb0
  go_wp2
  go_ret
  exact ⟨by simp, hb1⟩

theorem scalars_any (P Q G : Int) (A : Option Addr) (xs : List Int) (n c : Nat) (r : Bool) (hr : Hid (xs.all (scB Q) = r)) (hn : Hid (xs.length = n)) (hbig : Hid (n < 1000000)) (w : World) (hs : Hid (Sl w A xs)) :
    Calls Tryd.prog 55 #[gv P Q G, .slice A n c] w fun e' w' => e' = .returned (.bool r) ∧ Below w.heap.size w w' := by
  have HX0 := Lib.hid (gbox_alloc w P Q G)
  have HS0 := Lib.hid (hs.out.below (below_box0 w (gObj P Q G)))
  have HSy := Lib.hid (says_lsc P Q G w.heap.size _ HX0)
  have HP : Hid ((xs.any fun x => !scB Q x) = !r) := Lib.hid (by rw [any_not_all, hr.out])
  clear hs
  go_enter Tryd.func55, Tryd.ntmps55
  go_wp2_with fail
  refine (cf_lsc (.pointer (some ⟨w.heap.size, 0, none⟩)) (fun x => !scB Q x) (!r) A xs n c HP hn hbig _ HS0 HSy).mono ?_
  rintro e w1 ⟨rfl, hb0⟩
  have hb1 := below_ext (below_box0 _ _) hb0
  clear hb0
  go_wp2
  go_ret
  exact ⟨by simp, hb1⟩
end Go.Proofs.YtijedphpcocfnaaDoor
