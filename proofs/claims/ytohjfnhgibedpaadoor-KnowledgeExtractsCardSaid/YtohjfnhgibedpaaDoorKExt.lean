/- The contracts of Extract, of package knowledge and of the reference. -/
import Derived.Test.YtohjfnhgibedpaaDoorKnH
import Derived.Test.YtohjfnhgibedpaaDoorRInv
namespace Go.Proofs.YtohjfnhgibedpaaDoor
open Go.RowKit SpM
set_option linter.unusedVariables false
set_option linter.unusedSimpArgs false

theorem pbox_alloc2 (w : World) (o1 o2 : Obj) (T : TypeId) (x y z : Value) : PBox (((w.alloc o1).alloc o2).alloc (.cells #[x, y, z] T)) (w.heap.size + 2) x y z := by
  have e : ((w.alloc o1).alloc o2).heap.size = w.heap.size + 2 := by simp
  rw [← e]
  exact pbox_alloc0 _ _ _ _ _
theorem below_three {w : World} {o1 o2 o3 : Obj} : Below w.heap.size w (((w.alloc o1).alloc o2).alloc o3) :=
  (((Below.refl _ _).alloc (Nat.le_refl _) _).alloc (by simp) _).alloc (by simp; omega) _

/-- the error of an extraction, and the witness. -/
noncomputable def extE (P Q G b y : Int) (kp kq : Bool) (a0 a1 C0 C1 : Int) : Int := if validG P Q G = true then (if okB P Q b = true then (if memG P Q y = true then (if kp = true then (if kq = true then (if a0 = a1 then (if C0 = C1 then 20 else 0) else 11) else 11) else 11) else 2) else 2) else 1
noncomputable def extV (Q C0 C1 z0 z1 : Int) : Int := (z0 - z1) % Q * invOf ((C0 - C1) % Q) Q % Q

theorem chkB_formB {P Q G b y : Int} {na : Nat} {a0 C : Int} {nz : Nat} {z0 : Int} (h : chkB P Q G b y na a0 C nz z0 = true) : formB P Q na a0 C nz z0 = true := by
  simp [chkB] at h
  exact h.2.2.2.1

theorem sub_eq (a b m v : Int) (hv : Hid ((a - b + m) % m = v)) (h2 : m < 2305843009213693952) (ha0 : 0 ≤ a) (ha : a < m) (hb0 : 0 ≤ b) (hb : b < m) (w : World) :
    Calls Tryd.prog 70 #[.int .i64 a, .int .i64 b, .int .i64 m] w fun e w' => e = .returned (.tuple #[.int .i64 v, .int .i64 0]) ∧ w = w' := by
  rw [← hv.out]; exact sub_ok a b m h2 ha0 ha hb0 hb w

theorem isInv_ex (a m : Int) (hm : 0 < m) (ha0 : 0 ≤ a) (ha : a < m) : ∃ x, IsInv a m x := by
  by_cases h : ∃ y, y * a % m = 1
  · obtain ⟨y, hy⟩ := h
    refine ⟨y % m, Int.emod_nonneg _ (by omega), Int.emod_lt_of_pos _ hm, .inl ?_⟩
    rw [Int.mul_emod, Int.emod_emod_of_dvd _ (Int.dvd_refl m), ← Int.mul_emod]; exact hy
  · exact ⟨0, by omega, hm, .inr ⟨rfl, fun y hy => h ⟨y, hy⟩⟩⟩

theorem eq_one (ba oa ca bb ob cb : Nat) (a0 a1 : Int) (r : Bool) (w : World) (h0 : w.cell? ⟨ba, oa, none⟩ = some (.int .i64 a0)) (h1 : w.cell? ⟨bb, ob, none⟩ = some (.int .i64 a1)) (hr : ((a0 : Int) == a1) = r) :
    Calls Tryd.prog 10 #[.slice (some ⟨ba, oa, none⟩) 1 ca, .slice (some ⟨bb, ob, none⟩) 1 cb] w fun e w' => e = .returned (.bool r) ∧ Below w.heap.size w w' := by
  refine (Tryd.slices_Equal_int ba oa 1 ca bb ob 1 cb [a0] [a1] w (by simp) (by simp) (by decide) (by decide) (fun j hj => ?_) (fun j hj => ?_)).mono ?_
  · obtain rfl : j = 0 := by simp at hj; exact hj
    exact h0
  · obtain rfl : j = 0 := by simp at hj; exact hj
    exact h1
  · rintro e w' ⟨rfl, q, rfl⟩
    refine ⟨?_, below_drawN (Below.refl _ _) _⟩
    rw [← hr]
    have e : ([a0].take 1 == [a1].take 1) = (a0 == a1) := by simp
    rw [e]
end Go.Proofs.YtohjfnhgibedpaaDoor
