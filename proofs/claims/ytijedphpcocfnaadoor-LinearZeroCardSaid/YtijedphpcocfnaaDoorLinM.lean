/- few, and fault, of the statements of layer 17. -/
import Derived.Test.YtijedphpcocfnaaDoorLinL
import Derived.Test.YtijedphpcocfnaaDoorLinK
namespace Go.Proofs.YtijedphpcocfnaaDoor
open Go.RowKit SpM
set_option linter.unusedVariables false
set_option linter.unusedSimpArgs false
set_option maxRecDepth 20000

/-- at most 12 equations, and rows of at most 20. -/
def fewB (yn bn : Nat) (rows : List Row) : Bool := decide (yn ≤ 12) && (decide (bn ≤ 12) && rows.all (fun r => decide (r.n ≤ 20)))

theorem says_few (W : World) : SaysR 47 #[] (fun r => !decide (r.n ≤ 20)) W := fun r w1 hb hok => by
  obtain ⟨p, m, c, xs⟩ := r
  show Calls Tryd.prog 47 #[.slice p m c] w1 fun e w' => e = .returned (.bool (!decide (m ≤ 20))) ∧ Below w1.heap.size w1 w'
  by_cases hm : m ≤ 20
  · have d : decide ((20 : Int) < (m : Int)) = false := by simp; omega
    rw [decide_eq_true hm]
    clear hb hok
    go_enter Tryd.func47, Tryd.ntmps47
    go_wp2
    go_ret
    exact ⟨rfl, Below.refl _ _⟩
  · have d : decide ((20 : Int) < (m : Int)) = true := by simp; omega
    rw [decide_eq_false hm]
    clear hb hok
    go_enter Tryd.func47, Tryd.ntmps47
    go_wp2
    go_ret
    exact ⟨rfl, Below.refl _ _⟩

theorem few_any (Y : Option Addr) (yn yc : Nat) (B : Option Addr) (rows : List Row) (bn bc : Nat) (r : Bool) (hr : Hid (fewB yn bn rows = r)) (hbn : Hid (rows.length = bn)) (w : World) (hB : Hid (Rw w B rows)) :
    Calls Tryd.prog 11 #[relV Y yn yc B bn bc] w fun e' w' => e' = .returned (.bool r) ∧ Below w.heap.size w w' := by
  have hr' := hr.out
  unfold fewB at hr'
  by_cases h1 : yn ≤ 12
  · have d1 : decide ((yn : Int) ≤ 12) = true := by simp; omega
    rw [decide_eq_true h1, Bool.true_and] at hr'
    by_cases h2 : bn ≤ 12
    · have d2 : decide ((bn : Int) ≤ 12) = true := by simp; omega
      rw [decide_eq_true h2, Bool.true_and] at hr'
      have HB0 := Lib.hid (hB.out.below (below_box0 w (relO Y yn yc B bn bc)))
      have HP : Hid ((rows.any fun x => !decide (x.n ≤ 20)) = !r) := Lib.hid (by rw [anyR_not_all, hr'])
      have HSy := Lib.hid (says_few (w.alloc (relO Y yn yc B bn bc)))
      clear hr hr' hB
      go_enter Tryd.func11, Tryd.ntmps11
      go_wp2_with fail
      refine (cfr_few (fun x => !decide (x.n ≤ 20)) (!r) B rows bn bc HP hbn (Lib.hid (by omega)) _ HB0 HSy).mono ?_
      rintro e w1 ⟨rfl, hb0⟩
      have hbF := below_ext (below_box0 _ _) hb0
      clear hb0
      go_wp2
      go_ret
      exact ⟨by simp, hbF⟩
    · have d2 : decide ((bn : Int) ≤ 12) = false := by simp; omega
      rw [decide_eq_false h2, Bool.false_and] at hr'
      subst hr'
      clear hr hB
      go_enter Tryd.func11, Tryd.ntmps11
      go_wp2
      go_ret
      exact ⟨rfl, below_box0 _ _⟩
  · have d1 : decide ((yn : Int) ≤ 12) = false := by simp; omega
    rw [decide_eq_false h1, Bool.false_and] at hr'
    subst hr'
    clear hr hB
    go_enter Tryd.func11, Tryd.ntmps11
    go_wp2
    go_ret
    exact ⟨rfl, below_box0 _ _⟩
end Go.Proofs.YtijedphpcocfnaaDoor
