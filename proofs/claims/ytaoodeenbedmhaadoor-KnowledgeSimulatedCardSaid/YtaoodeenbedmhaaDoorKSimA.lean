/- Plain facts for the law KnowledgeSimulated: powers of a base are different below a small prime order; the simulated commitments are the prover's. And the map that the law fills. -/
import Derived.Test.YtaoodeenbedmhaaDoorKnH
import Derived.Maps.OwnSet
namespace Go.Proofs.YtaoodeenbedmhaaDoor
open Go.RowKit SpM Go.Maps
set_option linter.unusedVariables false

theorem inv_table : ((List.range 61).all fun Q : Nat => !isP (Q : Int) || (List.range Q).all fun d => d == 0 || (List.range Q).any fun u => d * u % Q == 1) = true := by kernel_rfl

theorem inv_small {Q d : Nat} (hQ : Q ≤ 60) (hp : isP (Q : Int) = true) (h1 : 1 ≤ d) (h2 : d < Q) : ∃ u : Nat, d * u % Q = 1 := by
  have h := List.all_eq_true.1 inv_table Q (List.mem_range.2 (by omega))
  rw [hp, Bool.not_true, Bool.false_or] at h
  have h3 := List.all_eq_true.1 h d (List.mem_range.2 h2)
  have h4 : (d == 0) = false := by simp; omega
  rw [h4, Bool.false_or] at h3
  obtain ⟨u, _, hu⟩ := List.any_eq_true.1 h3
  exact ⟨u, by simpa using hu⟩

theorem okB_ne {P Q b : Int} (h : okB P Q b = true) : b ≠ 1 := by simp [okB] at h; exact h.1

theorem pw_ne_one {P Q b : Int} {d : Nat} (hP : 2 ≤ P) (hQ : Q ≤ 60) (hq : 3 ≤ Q) (hp : isP Q = true) (hb : okB P Q b = true) (h1 : 1 ≤ d) (h2 : (d : Int) < Q) : pw b d P ≠ 1 := by
  intro h
  obtain ⟨q, rfl⟩ := Int.eq_ofNat_of_zero_le (show 0 ≤ Q by omega)
  obtain ⟨u, hu⟩ := inv_small (Q := q) (d := d) (by omega) hp h1 (by omega)
  have hm := okB_mem hb
  have e1 : pw b ((d : Int) * u) P = 1 := by rw [← pw_pw _ _ _ _ (by omega) (by omega), h, pw_one _ _ hP]
  have e2 : pw b ((d : Int) * u) P = pw b (((d : Int) * u) % q) P := pw_mod hP (by omega) (Int.mul_nonneg (by omega) (by omega)) (memG_pw hm)
  have e3 : ((d : Int) * u) % q = 1 := by rw [← Int.natCast_mul, ← Int.natCast_emod, hu]; rfl
  rw [e3, pw_one_exp, Int.emod_eq_of_lt (by have := memG_lo hm; omega) (memG_hi hm)] at e2
  exact okB_ne hb (e2.symm.trans e1)

theorem pw_lt_ne {P Q b : Int} {i j : Nat} (hP : 2 ≤ P) (hQ : Q ≤ 60) (hq : 3 ≤ Q) (hp : isP Q = true) (hb : okB P Q b = true) (hij : i < j) (hj : (j : Int) < Q) : pw b i P ≠ pw b j P := by
  intro h
  have hm := okB_mem hb
  have e1 : pw b (Q - i + j) P = 1 := by
    rw [pw_add _ _ _ _ (by omega) (by omega), ← h, ← pw_add _ _ _ _ (by omega) (by omega), show Q - (i : Int) + i = Q by omega, memG_pw hm]
  rw [pw_mod hP (by omega) (by omega) (memG_pw hm), show (Q - (i : Int) + j) % Q = ((j - i : Nat) : Int) by
    rw [show Q - (i : Int) + j = ((j - i : Nat) : Int) + Q by omega, Int.add_emod_right, Int.emod_eq_of_lt (by omega) (by omega)]] at e1
  exact pw_ne_one hP hQ hq hp hb (by omega) (by omega) e1

theorem pw_inj {P Q b : Int} {i j : Nat} (hP : 2 ≤ P) (hQ : Q ≤ 60) (hq : 3 ≤ Q) (hp : isP Q = true) (hb : okB P Q b = true) (hi : (i : Int) < Q) (hj : (j : Int) < Q) (h : pw b i P = pw b j P) : i = j := by
  rcases Nat.lt_trichotomy i j with hl | he | hl
  · exact absurd h (pw_lt_ne hP hQ hq hp hb hl hj)
  · exact he
  · exact absurd h.symm (pw_lt_ne hP hQ hq hp hb hl hi)

/-- the response that belongs to a simulated commitment. -/
theorem sim_index {P Q b x c z : Int} (hP : 2 ≤ P) (hq : 3 ≤ Q) (hb : okB P Q b = true) (hx0 : 0 ≤ x) (hz0 : 0 ≤ z) (hz : z < Q) :
    ∃ k : Nat, (k : Int) < Q ∧ simA P Q b (pw b x P) c z = pw b k P ∧ (c * x % Q + k) % Q = z := by
  have hm := okB_mem hb
  have e0 : 0 ≤ (-c) % Q := Int.emod_nonneg _ (by omega)
  have h0 : 0 ≤ x * ((-c) % Q) := Int.mul_nonneg hx0 e0
  obtain ⟨k, hk⟩ := Int.eq_ofNat_of_zero_le (Int.emod_nonneg (z + x * ((-c) % Q)) (show Q ≠ 0 by omega))
  refine ⟨k, by rw [← hk]; exact Int.emod_lt_of_pos _ (by omega), ?_, ?_⟩
  · rw [simA, pw_pw _ _ _ _ hx0 e0, Int.emod_eq_of_lt hz0 hz, ← pw_add _ _ _ _ hz0 h0, pw_mod hP (by omega) (by omega) (memG_pw hm), hk]
  · have e1 : (c * x % Q + (k : Int)) % Q = (c * x + (z + x * ((-c) % Q))) % Q := by
      rw [show (k : Int) = (z + x * ((-c) % Q)) % Q from hk.symm, ← Int.add_emod]
    have e2 : x * ((-c) % Q) = x * (-c) - Q * (x * ((-c) / Q)) := by
      have := Int.emod_add_mul_ediv (-c) Q
      rw [show (-c) % Q = -c - Q * ((-c) / Q) by omega, Int.mul_sub, ← Int.mul_assoc, Int.mul_comm x Q, Int.mul_assoc]
    rw [e1, e2, show c * x + (z + (x * (-c) - Q * (x * ((-c) / Q)))) = z + Q * (-(x * ((-c) / Q))) by
      rw [Int.mul_neg, Int.mul_neg, Int.mul_comm x c]; omega, Int.add_mul_emod_self_left, Int.emod_eq_of_lt hz0 hz]

/-- a simulated proof is right. -/
theorem sim_right {P Q G b y c z : Int} (hv : validG P Q G = true) (hb : okB P Q b = true) (hy : memG P Q y = true) (hc0 : 0 ≤ c) (hc : c < Q) (hz0 : 0 ≤ z) (hz : z < Q) :
    chkB P Q G b y 1 (simA P Q b y c z) c 1 z = true := by
  obtain ⟨hP, hp, hq, hqp⟩ := validG_P hv
  have hm := okB_mem hb
  have e0 : 0 ≤ (-c) % Q := Int.emod_nonneg _ (by omega)
  have m1 : memG P Q (pw b (z % Q) P) = true := mem_pw hP (by omega) (Int.emod_nonneg _ (by omega)) hm
  have m2 : memG P Q (pw y ((-c) % Q) P) = true := mem_pw hP (by omega) e0 hy
  have m3 : memG P Q (simA P Q b y c z) = true := mem_mul hP (by omega) m1 m2
  have e1 : pw y ((-c) % Q) P * pw y (c % Q) P % P = 1 := by
    rw [← pw_add _ _ _ _ e0 (Int.emod_nonneg _ (by omega)), pw_mod hP (by omega) (by have := Int.emod_nonneg c (show Q ≠ 0 by omega); omega) (memG_pw hy), ← Int.add_emod, show -c + c = (0 : Int) by omega, Int.zero_emod, pw_zero _ _ hP]
  have e2 : simA P Q b y c z * pw y (c % Q) P % P = pw b (z % Q) P := by
    rw [simA, Int.mul_emod, Int.emod_emod_of_dvd _ (Int.dvd_refl P), ← Int.mul_emod, Int.mul_assoc, Int.mul_emod, e1, Int.mul_one, Int.emod_emod_of_dvd _ (Int.dvd_refl P), pw_def, Int.emod_emod_of_dvd _ (Int.dvd_refl P)]
  have f1 : expB Q c = true := by simp [expB]; omega
  have f2 : expB Q z = true := by simp [expB]; omega
  rw [chkB, hv, hb, hy, formB, m3, f1, f2, e2]
  simp

/-- the law's map: of each power its response. -/
def MapRel (f g : Nat → Int) (wr : World) (B k : Nat) : Prop :=
  ∃ D : DataW Unit, wr.ownsMap Tryd.prog 3 (plainElem Tryd.prog 3) B k D ∧ Maps.size D = k ∧ (∀ a, Maps.has D (.int .i64 a) = true → ∃ j, j < k ∧ a = f j) ∧
    (∀ j, j < k → Maps.has D (.int .i64 (f j)) = true ∧ D.atKey (.int .i64 (f j)) (.lit (.int .i64 0)) = .lit (.int .i64 (g j)))

theorem law3 : Keyed Tryd.prog 3 := int_keyed Tryd.underlying3
theorem zero3 (w : World) : (zeroValue 3).run Tryd.prog w = .ok (.int .i64 0) w := by kernel_rfl

theorem MapRel.lt {f g : Nat → Int} {w : World} {B k : Nat} (h : MapRel f g w B k) : B < w.heap.size := by
  obtain ⟨D, h1, _⟩ := h
  exact h1.lt
/-- the law's powers and responses. -/
def fS (b P : Int) (j : Nat) : Int := pw b j P
def gS (c x Q : Int) (j : Nat) : Int := (c * x % Q + (j : Int)) % Q
theorem fS_eq (b P : Int) (j : Nat) : fS b P j = pw b j P := rfl
theorem gS_eq (c x Q : Int) (j : Nat) : gS c x Q j = (c * x % Q + (j : Int)) % Q := rfl

theorem mapRel_made (f g : Nat → Int) (w : World) : MapRel f g (w.alloc (.map #[] 0)) w.heap.size 0 :=
  ⟨.map [], World.ownsMap_made _ _ _ _, rfl, fun a h => by simp [Maps.has] at h, fun j h => absurd h (by omega)⟩

theorem grown_of_below {a w : World} (h : Below a.heap.size a w) : a.grownBy w none := ⟨h.os, h.tape, h.output, h.size, fun i hi _ => h.block i hi⟩
theorem MapRel.below {f g : Nat → Int} {w w' : World} {B k : Nat} (h : MapRel f g w B k) (hb : Below w.heap.size w w') : MapRel f g w' B k := by
  obtain ⟨D, h1, h2⟩ := h
  exact ⟨D, h1.kept (grown_of_below hb) (by simp), h2⟩

theorem int_ne {a b : Int} (h : a ≠ b) : (Lit.int .i64 a) ≠ Lit.int .i64 b := fun e => h (by injection e)

/-- a round's step. -/
theorem mapRel_put {f g : Nat → Int} {w' : World} {B k : Nat} {D : DataW Unit} (ht : Tidy D)
    (h1 : w'.ownsMap Tryd.prog 3 (plainElem Tryd.prog 3) B (k + 1) (D.put (.int .i64 (f k)) (.lit (.int .i64 (g k))))) (hs : Maps.size D = k) (hh : ∀ a, Maps.has D (.int .i64 a) = true → ∃ j, j < k ∧ a = f j)
    (hg : ∀ j, j < k → Maps.has D (.int .i64 (f j)) = true ∧ D.atKey (.int .i64 (f j)) (.lit (.int .i64 0)) = .lit (.int .i64 (g j))) (hinj : ∀ j, j < k → f k ≠ f j) : MapRel f g w' B (k + 1) := by
  have hno : Maps.has D (.int .i64 (f k)) = false := by
    cases h : Maps.has D (.int .i64 (f k)) with
    | false => rfl
    | true =>
      obtain ⟨j, hj, he⟩ := hh _ h
      exact absurd he (hinj j hj)
  refine ⟨_, h1, by rw [size_put ht, hno]; simp [hs], fun a ha => ?_, fun j hj => ?_⟩
  · by_cases hak : a = f k
    · exact ⟨k, by omega, hak⟩
    · rw [has_put_other (int_ne hak)] at ha
      obtain ⟨j, hj, he⟩ := hh a ha
      exact ⟨j, by omega, he⟩
  · by_cases hjk : j = k
    · subst hjk
      exact ⟨has_put_same ht.isMap (by simp [WideAt.IsKeyLit]) _, atKey_put_same ht.isMap (by simp [WideAt.IsKeyLit]) _ _⟩
    · have hlt : j < k := by omega
      have hne : f j ≠ f k := fun e => hinj j hlt e.symm
      rw [has_put_other (int_ne hne), atKey_put_other (int_ne hne)]
      exact hg j hlt
end Go.Proofs.YtaoodeenbedmhaaDoor
