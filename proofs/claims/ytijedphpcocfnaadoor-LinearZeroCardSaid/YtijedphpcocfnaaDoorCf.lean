/- The contracts of slices.IndexFunc and ContainsFunc over integers, at a closure that may make memory. -/
import Derived.Test.YtijedphpcocfnaaDoorChk
namespace Go.Proofs.YtijedphpcocfnaaDoor
open Go.RowKit SpM
set_option linter.unusedVariables false
set_option maxRecDepth 20000

/-- a slice that reads as a list of integers: a nil one, an empty one, and any other. -/
def Sl (w : World) (A : Option Addr) (xs : List Int) : Prop := ∀ k, k < xs.length → ∃ b o, A = some ⟨b, o, none⟩ ∧ w.cell? ⟨b, o + k, none⟩ = some (.int .i64 (xs.getD k 0))
theorem Sl.below {w w' : World} {A : Option Addr} {xs : List Int} (h : Sl w A xs) (hb : Below w.heap.size w w') : Sl w' A xs := fun k hk => by
  obtain ⟨b, o, h1, h2⟩ := h k hk
  exact ⟨b, o, h1, (hb.cell (World.block_lt_of_cell? _ _ h2)).trans h2⟩

/-- a closure's promise: in every later world it says p, and turns nothing old. -/
def Says (g : FuncId) (caps : Array Value) (p : Int → Bool) (W : World) : Prop :=
  ∀ (x : Int) (w1 : World), Below W.heap.size W w1 → Calls Tryd.prog g (#[.int .i64 x] ++ caps) w1 fun e w' => e = .returned (.bool (p x)) ∧ Below w1.heap.size w1 w'

theorem any_drop_step {f : Int → Bool} {xs : List Int} {k : Nat} (hk : k < xs.length) (h : f (xs.getD k 0) = false) : (xs.drop k).any f = (xs.drop (k + 1)).any f := by
  rw [List.drop_eq_getElem_cons hk, List.any_cons]
  rw [List.getD_eq_getElem?_getD, List.getElem?_eq_getElem hk] at h
  simp at h
  rw [h, Bool.false_or]
theorem any_drop_hit {f : Int → Bool} {xs : List Int} {k : Nat} (hk : k < xs.length) (h : f (xs.getD k 0) = true) : (xs.drop k).any f = true := by
  rw [List.drop_eq_getElem_cons hk, List.any_cons]
  rw [List.getD_eq_getElem?_getD, List.getElem?_eq_getElem hk] at h
  simp at h
  rw [h, Bool.true_or]

/-- what IndexFunc answers. -/
def IdxOut (p : Int → Bool) (xs : List Int) (w : World) (e : Ending) (w' : World) : Prop := ∃ i : Int, e = .returned (.int .i64 i) ∧ decide (0 ≤ i) = xs.any p ∧ Below w.heap.size w w'

set_option maxHeartbeats 1600000 in
theorem idx_lel (c0 : Value) (p : Int → Bool) (A : Option Addr) (xs : List Int) (n c : Nat) (hn : Hid (xs.length = n)) (hbig : Hid (n < 1000000)) (w : World) (hs : Hid (Sl w A xs)) (hp : Hid (Says 89 #[c0] p w)) :
    Calls Tryd.prog 95 #[.slice A n c, .func (.func 89) #[] #[c0]] w (IdxOut p xs w) := by
  have hn0 : n < 1000000 := hbig.out
  go_enter Tryd.func95, Tryd.ntmps95
  go_wp2
  go_loopw [8] (fun i wr => ∃ k : Nat, k ≤ n ∧ i = .int .i64 k ∧ Hid (xs.any p = (xs.drop k).any p) ∧ Hid (Below w.heap.size w wr)) (fun i _ => n - (intOf i).toNat)
  case atStart => exact ⟨0, by omega, rfl, Lib.hid rfl, Lib.hid (Below.refl _ _)⟩
  case round =>
    obtain ⟨k, hk, rfl, HR, HBr⟩ := hrel
    by_cases hlt : k < n
    · have hkl : k < xs.length := by rw [hn.out]; exact hlt
      obtain ⟨b, o, hA, hi0⟩ := hs.out k hkl
      subst hA
      have hi := (HBr.out.cell (World.block_lt_of_cell? _ _ hi0)).trans hi0
      cases hpx : p (xs.getD k 0) with
      | false =>
        have HN : Hid (xs.any p = (xs.drop (k + 1)).any p) := Lib.hid (HR.out.trans (any_drop_step hkl hpx))
        obtain ⟨x, hx⟩ : ∃ x, xs.getD k 0 = x := ⟨_, rfl⟩
        rw [hx] at hi hpx
        have HC := Lib.hid (hp.out x wr HBr.out)
        have HPX := Lib.hid hpx
        clear hi0 hx hkl hpx HR
        go_wp2_with fail
        refine HC.out.mono ?_
        rintro e w2 ⟨rfl, hb0⟩
        rw [HPX.out]
        have HB2 := Lib.hid (below_ext HBr.out hb0)
        clear hb0
        go_wp2
        go_roundw
        case rel => exact ⟨k + 1, by omega, by go_num, HN, HB2⟩
        case measure => simp [intOf]; omega
      | true =>
        have HN : Hid (decide ((0 : Int) ≤ (k : Int)) = xs.any p) := Lib.hid (by rw [HR.out, any_drop_hit hkl hpx]; simp)
        obtain ⟨x, hx⟩ : ∃ x, xs.getD k 0 = x := ⟨_, rfl⟩
        rw [hx] at hi hpx
        have HC := Lib.hid (hp.out x wr HBr.out)
        have HPX := Lib.hid hpx
        clear hi0 hx hkl hpx HR
        go_wp2_with fail
        refine HC.out.mono ?_
        rintro e w2 ⟨rfl, hb0⟩
        rw [HPX.out]
        have HB2 := Lib.hid (below_ext HBr.out hb0)
        clear hb0
        go_wp2
        go_ret
        exact ⟨k, rfl, HN.out, HB2.out⟩
    · obtain rfl : k = n := by omega
      have HN : Hid (decide ((0 : Int) ≤ (-1 : Int)) = xs.any p) := Lib.hid (by rw [HR.out, ← hn.out]; simp)
      clear HR hlt
      go_wp2
      go_ret
      exact ⟨-1, rfl, HN.out, HBr.out⟩

set_option maxHeartbeats 800000 in
theorem cf_lel (c0 : Value) (p : Int → Bool) (r : Bool) (A : Option Addr) (xs : List Int) (n c : Nat) (hr : Hid (xs.any p = r)) (hn : Hid (xs.length = n)) (hbig : Hid (n < 1000000)) (w : World) (hs : Hid (Sl w A xs)) (hp : Hid (Says 89 #[c0] p w)) :
    Calls Tryd.prog 65 #[.slice A n c, .func (.func 89) #[] #[c0]] w fun e w' => e = .returned (.bool r) ∧ Below w.heap.size w w' := by
  go_enter Tryd.func65, Tryd.ntmps65
  go_wp2_with fail
  refine (idx_lel c0 p A xs n c hn hbig _ hs hp).mono ?_
  rintro e w1 ⟨i, rfl, hi, hb1⟩
  have hd : decide ((0 : Int) ≤ i) = r := hi.trans hr.out
  clear hi
  go_wp2
  go_ret
  exact ⟨by first | rfl | (rw [← hd]) | simp [hd], hb1⟩

set_option maxHeartbeats 1600000 in
theorem idx_lsc (c0 : Value) (p : Int → Bool) (A : Option Addr) (xs : List Int) (n c : Nat) (hn : Hid (xs.length = n)) (hbig : Hid (n < 1000000)) (w : World) (hs : Hid (Sl w A xs)) (hp : Hid (Says 91 #[c0] p w)) :
    Calls Tryd.prog 95 #[.slice A n c, .func (.func 91) #[] #[c0]] w (IdxOut p xs w) := by
  have hn0 : n < 1000000 := hbig.out
  go_enter Tryd.func95, Tryd.ntmps95
  go_wp2
  go_loopw [8] (fun i wr => ∃ k : Nat, k ≤ n ∧ i = .int .i64 k ∧ Hid (xs.any p = (xs.drop k).any p) ∧ Hid (Below w.heap.size w wr)) (fun i _ => n - (intOf i).toNat)
  case atStart => exact ⟨0, by omega, rfl, Lib.hid rfl, Lib.hid (Below.refl _ _)⟩
  case round =>
    obtain ⟨k, hk, rfl, HR, HBr⟩ := hrel
    by_cases hlt : k < n
    · have hkl : k < xs.length := by rw [hn.out]; exact hlt
      obtain ⟨b, o, hA, hi0⟩ := hs.out k hkl
      subst hA
      have hi := (HBr.out.cell (World.block_lt_of_cell? _ _ hi0)).trans hi0
      cases hpx : p (xs.getD k 0) with
      | false =>
        have HN : Hid (xs.any p = (xs.drop (k + 1)).any p) := Lib.hid (HR.out.trans (any_drop_step hkl hpx))
        obtain ⟨x, hx⟩ : ∃ x, xs.getD k 0 = x := ⟨_, rfl⟩
        rw [hx] at hi hpx
        have HC := Lib.hid (hp.out x wr HBr.out)
        have HPX := Lib.hid hpx
        clear hi0 hx hkl hpx HR
        go_wp2_with fail
        refine HC.out.mono ?_
        rintro e w2 ⟨rfl, hb0⟩
        rw [HPX.out]
        have HB2 := Lib.hid (below_ext HBr.out hb0)
        clear hb0
        go_wp2
        go_roundw
        case rel => exact ⟨k + 1, by omega, by go_num, HN, HB2⟩
        case measure => simp [intOf]; omega
      | true =>
        have HN : Hid (decide ((0 : Int) ≤ (k : Int)) = xs.any p) := Lib.hid (by rw [HR.out, any_drop_hit hkl hpx]; simp)
        obtain ⟨x, hx⟩ : ∃ x, xs.getD k 0 = x := ⟨_, rfl⟩
        rw [hx] at hi hpx
        have HC := Lib.hid (hp.out x wr HBr.out)
        have HPX := Lib.hid hpx
        clear hi0 hx hkl hpx HR
        go_wp2_with fail
        refine HC.out.mono ?_
        rintro e w2 ⟨rfl, hb0⟩
        rw [HPX.out]
        have HB2 := Lib.hid (below_ext HBr.out hb0)
        clear hb0
        go_wp2
        go_ret
        exact ⟨k, rfl, HN.out, HB2.out⟩
    · obtain rfl : k = n := by omega
      have HN : Hid (decide ((0 : Int) ≤ (-1 : Int)) = xs.any p) := Lib.hid (by rw [HR.out, ← hn.out]; simp)
      clear HR hlt
      go_wp2
      go_ret
      exact ⟨-1, rfl, HN.out, HBr.out⟩

set_option maxHeartbeats 800000 in
theorem cf_lsc (c0 : Value) (p : Int → Bool) (r : Bool) (A : Option Addr) (xs : List Int) (n c : Nat) (hr : Hid (xs.any p = r)) (hn : Hid (xs.length = n)) (hbig : Hid (n < 1000000)) (w : World) (hs : Hid (Sl w A xs)) (hp : Hid (Says 91 #[c0] p w)) :
    Calls Tryd.prog 65 #[.slice A n c, .func (.func 91) #[] #[c0]] w fun e w' => e = .returned (.bool r) ∧ Below w.heap.size w w' := by
  go_enter Tryd.func65, Tryd.ntmps65
  go_wp2_with fail
  refine (idx_lsc c0 p A xs n c hn hbig _ hs hp).mono ?_
  rintro e w1 ⟨i, rfl, hi, hb1⟩
  have hd : decide ((0 : Int) ≤ i) = r := hi.trans hr.out
  clear hi
  go_wp2
  go_ret
  exact ⟨by first | rfl | (rw [← hd]) | simp [hd], hb1⟩


end Go.Proofs.YtijedphpcocfnaaDoor
