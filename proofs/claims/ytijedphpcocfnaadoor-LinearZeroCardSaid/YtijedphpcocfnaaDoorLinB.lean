/- Slices of slices of integers: rows, and ContainsFunc over them. -/
import Derived.Test.YtijedphpcocfnaaDoorLinA
namespace Go.Proofs.YtijedphpcocfnaaDoor
open Go.RowKit SpM
set_option linter.unusedVariables false
set_option linter.unusedSimpArgs false
set_option maxRecDepth 20000

/-- a row: its slice, and what it reads as. -/
structure Row where
  p : Option Addr
  n : Nat
  c : Nat
  xs : List Int
abbrev Row.val (r : Row) : Value := .slice r.p r.n r.c
abbrev noRow : Row := ⟨none, 0, 0, []⟩
/-- a row reads. -/
def RowOk (w : World) (r : Row) : Prop := r.xs.length = r.n ∧ Sl w r.p r.xs
theorem RowOk.below {w w' : World} {r : Row} (h : RowOk w r) (hb : Below w.heap.size w w') : RowOk w' r := ⟨h.1, h.2.below hb⟩
/-- a slice of rows. -/
def Rw (w : World) (A : Option Addr) (rs : List Row) : Prop := ∀ k, k < rs.length → (∃ b o, A = some ⟨b, o, none⟩ ∧ w.cell? ⟨b, o + k, none⟩ = some (rs.getD k noRow).val) ∧ RowOk w (rs.getD k noRow)
theorem Rw.below {w w' : World} {A : Option Addr} {rs : List Row} (h : Rw w A rs) (hb : Below w.heap.size w w') : Rw w' A rs := fun k hk => by
  obtain ⟨⟨b, o, h1, h2⟩, h3⟩ := h k hk
  exact ⟨⟨b, o, h1, (hb.cell (World.block_lt_of_cell? _ _ h2)).trans h2⟩, h3.below hb⟩

/-- a closure's promise at rows. -/
def SaysR (g : FuncId) (caps : Array Value) (p : Row → Bool) (W : World) : Prop :=
  ∀ (r : Row) (w1 : World), Below W.heap.size W w1 → RowOk w1 r → Calls Tryd.prog g (#[r.val] ++ caps) w1 fun e w' => e = .returned (.bool (p r)) ∧ Below w1.heap.size w1 w'
theorem anyR_step {f : Row → Bool} {xs : List Row} {k : Nat} (hk : k < xs.length) (h : f (xs.getD k noRow) = false) : (xs.drop k).any f = (xs.drop (k + 1)).any f := by
  rw [List.drop_eq_getElem_cons hk, List.any_cons]
  rw [List.getD_eq_getElem?_getD, List.getElem?_eq_getElem hk] at h
  simp at h
  rw [h, Bool.false_or]
theorem anyR_hit {f : Row → Bool} {xs : List Row} {k : Nat} (hk : k < xs.length) (h : f (xs.getD k noRow) = true) : (xs.drop k).any f = true := by
  rw [List.drop_eq_getElem_cons hk, List.any_cons]
  rw [List.getD_eq_getElem?_getD, List.getElem?_eq_getElem hk] at h
  simp at h
  rw [h, Bool.true_or]
/-- what IndexFunc answers. -/
def IdxOutR (p : Row → Bool) (xs : List Row) (w : World) (e : Ending) (w' : World) : Prop := ∃ i : Int, e = .returned (.int .i64 i) ∧ decide (0 ≤ i) = xs.any p ∧ Below w.heap.size w w'

set_option maxHeartbeats 1600000 in
theorem idxr_few (p : Row → Bool) (A : Option Addr) (xs : List Row) (n c : Nat) (hn : Hid (xs.length = n)) (hbig : Hid (n < 1000000)) (w : World) (hs : Hid (Rw w A xs)) (hp : Hid (SaysR 47 #[] p w)) :
    Calls Tryd.prog 86 #[.slice A n c, .func (.func 47) #[] #[]] w (IdxOutR p xs w) := by
  have hn0 : n < 1000000 := hbig.out
  go_enter Tryd.func86, Tryd.ntmps86
  go_wp2
  go_loopw [8] (fun i wr => ∃ k : Nat, k ≤ n ∧ i = .int .i64 k ∧ Hid (xs.any p = (xs.drop k).any p) ∧ Hid (Below w.heap.size w wr)) (fun i _ => n - (intOf i).toNat)
  case atStart => exact ⟨0, by omega, rfl, Lib.hid rfl, Lib.hid (Below.refl _ _)⟩
  case round =>
    obtain ⟨k, hk, rfl, HR, HBr⟩ := hrel
    by_cases hlt : k < n
    · have hkl : k < xs.length := by rw [hn.out]; exact hlt
      obtain ⟨⟨b, o, hA, hi⟩, hok⟩ := hs.out.below HBr.out k hkl
      subst hA
      cases hpx : p (xs.getD k noRow) with
      | false =>
        have HN : Hid (xs.any p = (xs.drop (k + 1)).any p) := Lib.hid (HR.out.trans (anyR_step hkl hpx))
        obtain ⟨x, hx⟩ : ∃ x, xs.getD k noRow = x := ⟨_, rfl⟩
        rw [hx] at hi hpx hok
        have HC := Lib.hid (hp.out x wr HBr.out hok)
        have HPX := Lib.hid hpx
        obtain ⟨xp, xn, xc, xl⟩ := x
        dsimp only [Row.val] at hi
        clear hx hkl hpx HR hok
        go_wp2_with fail
        refine HC.out.mono ?_
        rintro e w2 ⟨rfl, hb0⟩
        rw [HPX.out]
        have HB2 := Lib.hid (below_ext HBr.out hb0)
        clear hb0
        go_wp2
        go_roundw
        case rel => exact ⟨k + 1, by omega, by go_num, HN, HB2⟩
        case measure => simp [intOf]; omega
      | true =>
        have HN : Hid (decide ((0 : Int) ≤ (k : Int)) = xs.any p) := Lib.hid (by rw [HR.out, anyR_hit hkl hpx]; simp)
        obtain ⟨x, hx⟩ : ∃ x, xs.getD k noRow = x := ⟨_, rfl⟩
        rw [hx] at hi hpx hok
        have HC := Lib.hid (hp.out x wr HBr.out hok)
        have HPX := Lib.hid hpx
        obtain ⟨xp, xn, xc, xl⟩ := x
        dsimp only [Row.val] at hi
        clear hx hkl hpx HR hok
        go_wp2_with fail
        refine HC.out.mono ?_
        rintro e w2 ⟨rfl, hb0⟩
        rw [HPX.out]
        have HB2 := Lib.hid (below_ext HBr.out hb0)
        clear hb0
        go_wp2
        go_ret
        exact ⟨k, rfl, HN.out, HB2.out⟩
    · obtain rfl : k = n := by omega
      have HN : Hid (decide ((0 : Int) ≤ (-1 : Int)) = xs.any p) := Lib.hid (by rw [HR.out, ← hn.out]; simp)
      clear HR hlt
      go_wp2
      go_ret
      exact ⟨-1, rfl, HN.out, HBr.out⟩

set_option maxHeartbeats 800000 in
theorem cfr_few (p : Row → Bool) (r : Bool) (A : Option Addr) (xs : List Row) (n c : Nat) (hr : Hid (xs.any p = r)) (hn : Hid (xs.length = n)) (hbig : Hid (n < 1000000)) (w : World) (hs : Hid (Rw w A xs)) (hp : Hid (SaysR 47 #[] p w)) :
    Calls Tryd.prog 46 #[.slice A n c, .func (.func 47) #[] #[]] w fun e w' => e = .returned (.bool r) ∧ Below w.heap.size w w' := by
  go_enter Tryd.func46, Tryd.ntmps46
  go_wp2_with fail
  refine (idxr_few  p A xs n c hn hbig _ hs hp).mono ?_
  rintro e w1 ⟨i, rfl, hi, hb1⟩
  have hd : decide ((0 : Int) ≤ i) = r := hi.trans hr.out
  clear hi
  go_wp2
  go_ret
  exact ⟨by first | rfl | (rw [← hd]) | simp [hd], hb1⟩

set_option maxHeartbeats 1600000 in
theorem idxr_lv (c0 : Value) (c1 : Value) (p : Row → Bool) (A : Option Addr) (xs : List Row) (n c : Nat) (hn : Hid (xs.length = n)) (hbig : Hid (n < 1000000)) (w : World) (hs : Hid (Rw w A xs)) (hp : Hid (SaysR 52 #[c0, c1] p w)) :
    Calls Tryd.prog 86 #[.slice A n c, .func (.func 52) #[] #[c0, c1]] w (IdxOutR p xs w) := by
  have hn0 : n < 1000000 := hbig.out
  go_enter Tryd.func86, Tryd.ntmps86
  go_wp2
  go_loopw [8] (fun i wr => ∃ k : Nat, k ≤ n ∧ i = .int .i64 k ∧ Hid (xs.any p = (xs.drop k).any p) ∧ Hid (Below w.heap.size w wr)) (fun i _ => n - (intOf i).toNat)
  case atStart => exact ⟨0, by omega, rfl, Lib.hid rfl, Lib.hid (Below.refl _ _)⟩
  case round =>
    obtain ⟨k, hk, rfl, HR, HBr⟩ := hrel
    by_cases hlt : k < n
    · have hkl : k < xs.length := by rw [hn.out]; exact hlt
      obtain ⟨⟨b, o, hA, hi⟩, hok⟩ := hs.out.below HBr.out k hkl
      subst hA
      cases hpx : p (xs.getD k noRow) with
      | false =>
        have HN : Hid (xs.any p = (xs.drop (k + 1)).any p) := Lib.hid (HR.out.trans (anyR_step hkl hpx))
        obtain ⟨x, hx⟩ : ∃ x, xs.getD k noRow = x := ⟨_, rfl⟩
        rw [hx] at hi hpx hok
        have HC := Lib.hid (hp.out x wr HBr.out hok)
        have HPX := Lib.hid hpx
        obtain ⟨xp, xn, xc, xl⟩ := x
        dsimp only [Row.val] at hi
        clear hx hkl hpx HR hok
        go_wp2_with fail
        refine HC.out.mono ?_
        rintro e w2 ⟨rfl, hb0⟩
        rw [HPX.out]
        have HB2 := Lib.hid (below_ext HBr.out hb0)
        clear hb0
        go_wp2
        go_roundw
        case rel => exact ⟨k + 1, by omega, by go_num, HN, HB2⟩
        case measure => simp [intOf]; omega
      | true =>
        have HN : Hid (decide ((0 : Int) ≤ (k : Int)) = xs.any p) := Lib.hid (by rw [HR.out, anyR_hit hkl hpx]; simp)
        obtain ⟨x, hx⟩ : ∃ x, xs.getD k noRow = x := ⟨_, rfl⟩
        rw [hx] at hi hpx hok
        have HC := Lib.hid (hp.out x wr HBr.out hok)
        have HPX := Lib.hid hpx
        obtain ⟨xp, xn, xc, xl⟩ := x
        dsimp only [Row.val] at hi
        clear hx hkl hpx HR hok
        go_wp2_with fail
        refine HC.out.mono ?_
        rintro e w2 ⟨rfl, hb0⟩
        rw [HPX.out]
        have HB2 := Lib.hid (below_ext HBr.out hb0)
        clear hb0
        go_wp2
        go_ret
        exact ⟨k, rfl, HN.out, HB2.out⟩
    · obtain rfl : k = n := by omega
      have HN : Hid (decide ((0 : Int) ≤ (-1 : Int)) = xs.any p) := Lib.hid (by rw [HR.out, ← hn.out]; simp)
      clear HR hlt
      go_wp2
      go_ret
      exact ⟨-1, rfl, HN.out, HBr.out⟩

set_option maxHeartbeats 800000 in
theorem cfr_lv (c0 : Value) (c1 : Value) (p : Row → Bool) (r : Bool) (A : Option Addr) (xs : List Row) (n c : Nat) (hr : Hid (xs.any p = r)) (hn : Hid (xs.length = n)) (hbig : Hid (n < 1000000)) (w : World) (hs : Hid (Rw w A xs)) (hp : Hid (SaysR 52 #[c0, c1] p w)) :
    Calls Tryd.prog 46 #[.slice A n c, .func (.func 52) #[] #[c0, c1]] w fun e w' => e = .returned (.bool r) ∧ Below w.heap.size w w' := by
  go_enter Tryd.func46, Tryd.ntmps46
  go_wp2_with fail
  refine (idxr_lv c0 c1 p A xs n c hn hbig _ hs hp).mono ?_
  rintro e w1 ⟨i, rfl, hi, hb1⟩
  have hd : decide ((0 : Int) ≤ i) = r := hi.trans hr.out
  clear hi
  go_wp2
  go_ret
  exact ⟨by first | rfl | (rw [← hd]) | simp [hd], hb1⟩

end Go.Proofs.YtijedphpcocfnaaDoor
