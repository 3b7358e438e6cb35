/- Slices of integers: what shelf contracts say of them, in one form each; cells that a call owns. -/
import Derived.Test.YtijedphpcocfnaaDoorSml
namespace Go.Proofs.YtijedphpcocfnaaDoor
open Go.RowKit SpM
set_option linter.unusedVariables false
set_option linter.unusedSimpArgs false
set_option maxRecDepth 100000

/-- a cell that the call owns. -/
def Own (w : World) (p : Addr) (v : Value) : Prop := w.cell? p = some v ∧ w.frozen? p = false
theorem Own.below {w w' : World} {p : Addr} {v : Value} (h : Own w p v) (hb : Below w.heap.size w w') : Own w' p v :=
  ⟨cell_below h.1 hb, (hb.frozen (World.block_lt_of_cell? _ _ h.1)).trans h.2⟩
theorem allocs_cell {w : World} {cs : Array Value} {T : TypeId} {n j : Nat} {v : Value} (hn : w.heap.size = n) (hj : cs[j]? = some v) : (w.alloc (.cells cs T)).cell? ⟨n, j, none⟩ = some v := by
  subst hn
  exact (World.cell?_alloc_at _ _ _ _ rfl).trans hj
theorem allocs_own {w : World} {cs : Array Value} {T : TypeId} {n j : Nat} {v : Value} (hn : w.heap.size = n) (hj : cs[j]? = some v) : Own (w.alloc (.cells cs T)) ⟨n, j, none⟩ v := by
  refine ⟨allocs_cell hn hj, ?_⟩
  subst hn
  exact frozen_blk (heap_alloc_new w _) _

/-- a slice that reads as xs is returned. -/
def SlOut (xs : List Int) (n : Nat) (w : World) (e : Ending) (w' : World) : Prop := ∃ A c, e = .returned (.slice A n c) ∧ Sl w' A xs ∧ (0 < xs.length → ∃ g, A = some ⟨g, 0, none⟩ ∧ w.heap.size ≤ g) ∧ Below w.heap.size w w'
theorem sl0 (w : World) (A : Option Addr) : Sl w A [] := fun k hk => absurd hk (by simp)
theorem OwnL.sl {w : World} {B : Nat} {v : Value} {xs : List Int} (h : OwnL w B v xs) : ∃ A c, v = .slice A xs.length c ∧ Sl w A xs ∧ (0 < xs.length → ∃ g, A = some ⟨g, 0, none⟩ ∧ B ≤ g) := by
  by_cases h0 : 0 < xs.length
  · obtain ⟨g, cap, rfl, hg, hc⟩ := OwnL.cells h h0
    exact ⟨some ⟨g, 0, none⟩, cap, rfl, fun k hk => ⟨g, 0, rfl, by rw [Nat.zero_add]; exact hc k hk⟩, fun _ => ⟨g, rfl, hg⟩⟩
  · have e : xs = [] := List.eq_nil_of_length_eq_zero (by omega)
    subst e
    obtain ⟨_, h2⟩ := h
    rcases h2 with ⟨hv, _⟩ | ⟨g, cap, cur, hv, _⟩
    · exact ⟨none, 0, hv, sl0 _ _, fun h => absurd h (by simp)⟩
    · exact ⟨_, cap, hv, sl0 _ _, fun h => absurd h (by simp)⟩
theorem Sl.ofCells {w : World} {b : Nat} {xs : List Int} (h : Cells w b xs) : Sl w (some ⟨b, 0, none⟩) xs := fun k hk => ⟨b, 0, rfl, by rw [Nat.zero_add]; exact h k hk⟩
theorem Sl.at0 {w : World} {A : Option Addr} {xs : List Int} (h : Sl w A xs) (h0 : 0 < xs.length) : ∃ b o, A = some ⟨b, o, none⟩ ∧ ∀ j, j < xs.length → w.cell? ⟨b, o + j, none⟩ = some (.int .i64 (xs.getD j 0)) := by
  obtain ⟨b, o, rfl, _⟩ := h 0 h0
  exact ⟨b, o, rfl, fun j hj => by
    obtain ⟨b', o', e, hc⟩ := h j hj
    cases e
    exact hc⟩

theorem eqs_any (A : Option Addr) (xs : List Int) (n c : Nat) (B : Option Addr) (ys : List Int) (m d : Nat) (r : Bool) (hr : Hid ((xs == ys) = r)) (hn : Hid (xs.length = n)) (hm : Hid (ys.length = m)) (hbig : n < 1000000) (hbig2 : m < 1000000)
    (w : World) (hA : Hid (Sl w A xs)) (hB : Hid (Sl w B ys)) :
    Calls Tryd.prog 18 #[.slice A n c, .slice B m d] w fun e w' => e = .returned (.bool r) ∧ Below w.heap.size w w' := by
  have hn' := hn.out
  have hm' := hm.out
  by_cases hnm : n = m
  · by_cases h0 : n = 0
    · subst hnm
      subst h0
      refine (Tryd.slices_Equal_int_empty A B c 0 d w (by omega)).mono ?_
      rintro e w' ⟨rfl, rfl⟩
      have e1 := List.eq_nil_of_length_eq_zero hn'
      have e2 := List.eq_nil_of_length_eq_zero hm'
      refine ⟨?_, Below.refl _ _⟩
      rw [← hr.out, e1, e2]
      rfl
    · obtain ⟨b1, o1, rfl, hc1⟩ := hA.out.at0 (by omega)
      obtain ⟨b2, o2, rfl, hc2⟩ := hB.out.at0 (by omega)
      refine (Tryd.slices_Equal_int b1 o1 n c b2 o2 m d xs ys w (by omega) (by omega) (by omega) (by omega) hc1 hc2).mono ?_
      rintro e w' ⟨rfl, q, rfl⟩
      refine ⟨?_, below_drawN (Below.refl _ _) _⟩
      rw [List.take_of_length_le (by omega), List.take_of_length_le (by omega), hr.out]
  · refine (Tryd.slices_Equal_int_lens A B n c m d w hnm).mono ?_
    rintro e w' ⟨rfl, rfl⟩
    refine ⟨?_, Below.refl _ _⟩
    have : (xs == ys) = false := by
      rw [beq_eq_false_iff_ne]
      intro e
      rw [e] at hn'
      omega
    rw [← hr.out, this]

theorem clones_any (A : Option Addr) (xs : List Int) (n c : Nat) (hn : Hid (xs.length = n)) (hbig : n < 1000000) (w : World) (hA : Hid (Sl w A xs)) :
    Calls Tryd.prog 59 #[.slice A n c] w (SlOut xs n w) := by
  have hn' := hn.out
  by_cases h0 : n = 0
  · have e1 := List.eq_nil_of_length_eq_zero (hn'.trans h0)
    subst e1
    subst h0
    cases A with
    | none =>
      refine (Tryd.slices_Clone_int_nil 0 c w).mono ?_
      rintro e w' ⟨rfl, rfl⟩
      exact ⟨none, 0, rfl, sl0 _ _, fun h => absurd h (by simp), Below.refl _ _⟩
    | some a =>
      refine (Tryd.slices_Clone_int_zero a c w).mono ?_
      rintro e w' ⟨v', rfl, ho, _, hb⟩
      obtain ⟨B, cc, hv, hs, hg⟩ := OwnL.sl (xs := []) ho
      exact ⟨B, cc, by rw [hv]; rfl, hs, hg, hb⟩
  · obtain ⟨b1, o1, rfl, hc1⟩ := hA.out.at0 (by omega)
    refine (Tryd.slices_Clone_int b1 o1 n c xs w (by omega) (by omega) hc1).mono ?_
    rintro e w' ⟨v', rfl, ho, _, hb⟩
    rw [List.take_of_length_le (by omega), ← hn'] at ho
    obtain ⟨B, cc, hv, hs, hg⟩ := OwnL.sl (xs := xs) ho
    exact ⟨B, cc, by rw [hv, hn'], hs, hg, hb⟩
end Go.Proofs.YtijedphpcocfnaaDoor
