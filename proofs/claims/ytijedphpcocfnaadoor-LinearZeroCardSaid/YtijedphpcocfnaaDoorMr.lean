/- What the program's test of primes computes (no program). -/
import Derived.Test.YtijedphpcocfnaaDoorMod
import Derived.Lib.TrailingZeros
namespace Go.Proofs.YtijedphpcocfnaaDoor
namespace SpM

/-- the bases of the test. -/
def mrb : List Int := [2, 3, 5, 7, 11, 13, 17, 19, 23, 29, 31, 37]
def bs (k : Nat) : Int := mrb.getD k 0

def divLoop (n : Int) : List Int → Option Bool
  | [] => none
  | p :: ps => if n % p = 0 then some (decide (n = p)) else divLoop n ps

/-- the squarings: true if none of them gives n - 1. -/
def sq (n : Int) : Nat → Int → Bool
  | 0, _ => true
  | k + 1, x => if x * x % n = n - 1 then false else sq n k (x * x % n)

/-- the base a shows that n = 2^s d + 1 is composite. -/
def comp (a n d : Int) (s : Nat) : Bool :=
  if pw a d n = 1 ∨ pw a d n = n - 1 then false else sq n (s - 1) (pw a d n)

def allLoop (n d : Int) (s : Nat) : List Int → Bool
  | [] => true
  | a :: l => if comp a n d s = true then false else allLoop n d s l

def twos (n : Int) : Nat := Lib.ctz 64 (n - 1).toNat
def odd1 (n : Int) : Int := (n - 1) / 2 ^ twos n

/-- what prime.Is says. -/
def isP (n : Int) : Bool :=
  if n < 2 then false else match divLoop n mrb with
    | some b => b
    | none => allLoop n (odd1 n) (twos n) mrb

theorem bs_pos : ∀ k, k < 12 → 2 ≤ bs k ∧ bs k ≤ 37 := by decide

theorem drop_bs : ∀ k, k < 12 → mrb.drop k = bs k :: mrb.drop (k + 1) := by decide

theorem divLoop_step (n : Int) (k : Nat) (hk : k < 12) (h : n % bs k ≠ 0) : divLoop n (mrb.drop k) = divLoop n (mrb.drop (k + 1)) := by
  rw [drop_bs k hk, divLoop, if_neg h]
theorem divLoop_hit (n : Int) (k : Nat) (hk : k < 12) (h : n % bs k = 0) : divLoop n (mrb.drop k) = some (decide (n = bs k)) := by
  rw [drop_bs k hk, divLoop, if_pos h]
theorem divLoop_end (n : Int) : divLoop n (mrb.drop 12) = none := rfl

theorem allLoop_step (n d : Int) (s k : Nat) (hk : k < 12) (h : comp (bs k) n d s = false) : allLoop n d s (mrb.drop k) = allLoop n d s (mrb.drop (k + 1)) := by
  rw [drop_bs k hk, allLoop, if_neg (by simp [h])]
theorem allLoop_hit (n d : Int) (s k : Nat) (hk : k < 12) (h : comp (bs k) n d s = true) : allLoop n d s (mrb.drop k) = false := by
  rw [drop_bs k hk, allLoop, if_pos h]
theorem allLoop_end (n d : Int) (s : Nat) : allLoop n d s (mrb.drop 12) = true := rfl

theorem small_div : ∀ n : Nat, n < 41 → 2 ≤ n → divLoop (n : Int) mrb ≠ none := by decide

theorem none_big {n : Int} (h2 : 2 ≤ n) (h : divLoop n mrb = none) : 41 ≤ n := by
  by_cases hn : n < 41
  · obtain ⟨m, rfl⟩ := Int.eq_ofNat_of_zero_le (show 0 ≤ n by omega)
    exact absurd h (small_div m (by omega) (by omega))
  · omega

theorem none_odd {n : Int} (h : divLoop n mrb = none) : n % 2 = 1 := by
  by_cases h0 : n % 2 = 0
  · have : divLoop n mrb = some (decide (n = 2)) := by
      show divLoop n (mrb.drop 0) = _
      rw [divLoop_hit n 0 (by decide) (by show n % 2 = 0; exact h0)]
      rfl
    rw [this] at h; exact absurd h (by simp)
  · omega

theorem isP_two {n : Int} (h : isP n = true) : 2 ≤ n := by
  unfold isP at h
  by_cases h2 : n < 2
  · rw [if_pos h2] at h; exact absurd h (by decide)
  · omega

/-- n - 1 is 2^twos times an odd number. -/
theorem twos_spec {n : Int} (h2 : 2 ≤ n) (hn : n < 9223372036854775808) : twos n < 64 ∧ ∃ m : Int, 0 ≤ m ∧ n - 1 = 2 ^ twos n * (2 * m + 1) ∧ odd1 n = 2 * m + 1 := by
  obtain ⟨x, hx⟩ : ∃ x : Nat, (n - 1).toNat = x := ⟨_, rfl⟩
  have hn1 : n - 1 = (x : Int) := by omega
  obtain ⟨m, hm, hk⟩ := Lib.ctzFrom_spec 64 x (by omega) (by omega)
  have e : Lib.ctz 64 x = Lib.ctzFrom 64 x := by unfold Lib.ctz; rw [if_neg (by omega)]
  unfold odd1 twos
  rw [hx, e, hn1]
  obtain ⟨c, hc⟩ : ∃ c, Lib.ctzFrom 64 x = c := ⟨_, rfl⟩
  rw [hc] at hm hk ⊢
  have hm2 : (x : Int) = 2 ^ c * (2 * (m : Int) + 1) := by rw [hm]; simp
  refine ⟨hk, (m : Int), by omega, hm2, ?_⟩
  have hp : (0 : Int) < 2 ^ c := Int.pow_pos (by decide)
  rw [hm2, Int.mul_ediv_cancel_left _ (Int.ne_of_gt hp)]
end SpM
end Go.Proofs.YtijedphpcocfnaaDoor
