/- The algebra of LinearZero: what is simulated for the responses is what was committed to. -/
import Derived.Test.YtijedphpcocfnaaDoorLinO
import Derived.Test.YtijedphpcocfnaaDoorAlg
namespace Go.Proofs.YtijedphpcocfnaaDoor
open Go.RowKit SpM
set_option linter.unusedVariables false

theorem modL (x y P : Int) : (x % P) * y % P = x * y % P := by rw [Int.mul_emod, Int.emod_emod, ← Int.mul_emod]
theorem modR (x y P : Int) : x * (y % P) % P = x * y % P := by rw [Int.mul_emod, Int.emod_emod, ← Int.mul_emod]
theorem rspL_get {Q c : Int} {ks xs : List Int} {n k : Nat} (h : k < n) : (rspL Q c ks xs n).getD k 0 = (ks.getD k 0 + c * xs.getD k 0 % Q) % Q := by
  rw [List.getD_eq_getElem?_getD, List.getElem?_eq_getElem (by rw [rspL_length]; exact h)]
  simp [rspL]
/-- one factor. -/
theorem zero_step {P Q n m k x a b : Int} (hP : 2 ≤ P) (hQ : 1 ≤ Q) (hn : 0 ≤ n) (hk : 0 ≤ k) (hx : 0 ≤ x) (hm : memG P Q m = true) :
    (a * pw b n P % P) * pw m ((k + n * x % Q) % Q) P % P = (a * pw m k P % P) * pw (b * pw m x P % P) n P % P := by
  have hmQ : pw m Q P = 1 := memG_pw hm
  have hnx : 0 ≤ n * x := Int.mul_nonneg hn hx
  have hr : 0 ≤ n * x % Q := Int.emod_nonneg _ (by omega)
  rw [← pw_mod hP hQ (by omega) hmQ, pw_add _ _ _ _ hk hr, ← pw_mod hP hQ hnx hmQ, pw_mulb, pw_pw _ _ _ _ hx hn, Int.mul_comm x n]
  rw [modL, modL, modR, modR]
  congr 1
  ac_rfl
theorem zero_prod {P Q n : Int} {row ks xs : List Int} {m : Nat} (hP : 2 ≤ P) (hQ : 1 ≤ Q) (hn : 0 ≤ n) (hl : row.length = m) (lk : ks.length = m) (lx : xs.length = m)
    (hm : row.all (memG P Q) = true) (hk : ks.all (scB Q) = true) (hx : xs.all (scB Q) = true) :
    ∀ (d k : Nat) (a b : Int), m - k = d → k ≤ m → prodF P (a * pw b n P % P) (row.drop k) ((rspL Q n ks xs m).drop k) = prodF P a (row.drop k) (ks.drop k) * pw (prodF P b (row.drop k) (xs.drop k)) n P % P := by
  intro d
  induction d with
  | zero =>
    intro k a b hd hkm
    have e : row.drop k = [] := List.drop_eq_nil_of_le (by omega)
    rw [e, prodF, prodF, prodF] <;> simp
  | succ d ih =>
    intro k a b hd hkm
    have h1 : k < row.length := by omega
    rw [prodF_step h1 (by rw [rspL_length]; omega), prodF_step (acc := a) h1 (by omega), prodF_step (acc := b) h1 (by omega), rspL_get (by omega),
      zero_step hP hQ hn (scB_lo (all_get hk (by omega))) (scB_lo (all_get hx (by omega))) (all_get hm h1)]
    exact ih (k + 1) _ _ (by omega) (by omega)
theorem pw_undo {P Q y n : Int} (hP : 2 ≤ P) (hQ : 1 ≤ Q) (hn0 : 0 ≤ n) (hn1 : n < Q) (hy : memG P Q y = true) : pw y n P * pw y ((Q - n) % Q) P % P = 1 := by
  have hyQ : pw y Q P = 1 := memG_pw hy
  rw [← pw_mod hP hQ (by omega) hyQ, ← pw_add _ _ _ _ hn0 (by omega)]
  have e : n + (Q - n) = Q := by omega
  rw [e, hyQ]
/-- what is simulated for the responses is what was committed to. -/
theorem zero_sim {P Q G n : Int} {ys : List Int} {rows : List Row} {ks xs : List Int} {m : Nat} (hv : validR P Q G ys rows = true) (hrm : rowN rows = m) (hn0 : 0 ≤ n) (hn1 : n < Q) (lk : ks.length = m) (lx : xs.length = m)
    (hk : ks.all (scB Q) = true) (hx : xs.all (scB Q) = true) (hh : ((rows.map fun r => prodF P 1 r.xs xs) == ys) = true) (hok : ∀ i, i < rows.length → (rows.getD i noRow).xs.length = (rows.getD i noRow).n) :
    simR P Q n ys rows (rspL Q n ks xs m) = rows.map fun r => prodF P 1 r.xs ks := by
  obtain ⟨v1, v2, v3, v4, v5, v6, v7, v8⟩ := validR_parts hv
  obtain ⟨hp2, hp, hq3, hqp⟩ := validG_P v1
  have hys : (rows.map fun r => prodF P 1 r.xs xs) = ys := by simpa using hh
  apply List.ext_getElem (by rw [simR_length, List.length_map])
  intro i h1 h2
  rw [simR_length] at h1
  have e1 := simR_get (P := P) (Q := Q) (c := n) (ys := ys) (rows := rows) (zs := rspL Q n ks xs m) h1
  rw [List.getD_eq_getElem?_getD, List.getElem?_eq_getElem (by rw [simR_length]; exact h1)] at e1
  have e2 := map_getD (f := fun r => prodF P 1 r.xs ks) h1
  rw [List.getD_eq_getElem?_getD, List.getElem?_eq_getElem h2] at e2
  simp only [Option.getD_some] at e1 e2
  rw [e1, e2]
  have hy := map_getD (f := fun r => prodF P 1 r.xs xs) h1
  rw [hys] at hy
  have hrb := rowAll_get v8 h1
  have hlen := hok i h1
  simp only [rowB, Bool.and_eq_true, decide_eq_true_eq] at hrb
  have hmy := all_get v5 (show i < ys.length by omega)
  unfold simF
  rw [hy] at hmy ⊢
  have hz := zero_prod (row := (rows.getD i noRow).xs) (n := n) hp2 (by omega) hn0 (by omega) lk lx hrb.2 hk hx m 0 1 1 (by omega) (by omega)
  rw [List.drop_zero, List.drop_zero, List.drop_zero, List.drop_zero, pw_one _ _ hp2] at hz
  have e3 : (1 * 1 % P : Int) = 1 := Int.emod_eq_of_lt (by omega) (by omega)
  rw [e3] at hz
  rw [hz, modL, Int.mul_assoc, ← modR, pw_undo hp2 (by omega) hn0 hn1 hmy, Int.mul_one]
  obtain ⟨q0, q1⟩ := prodF_in hp2 (rows.getD i noRow).xs ks 1 (by omega) (by omega)
  exact Int.emod_eq_of_lt q0 q1
end Go.Proofs.YtijedphpcocfnaaDoor
