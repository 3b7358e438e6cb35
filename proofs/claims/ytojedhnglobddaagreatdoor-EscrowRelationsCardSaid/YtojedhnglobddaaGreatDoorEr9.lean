/- Contracts and lemmas: EscA, EscB. -/
import Derived.Test.YtojedhnglobddaaGreatDoorEr8
namespace Go.Proofs.YtojedhnglobddaaGreatDoor
open Go.RowKit SpM
set_option linter.unusedVariables false
set_option linter.unusedSimpArgs false
set_option maxRecDepth 100000
abbrev esV (E1 E2 : Int) (A : Option Addr) (na ca : Nat) (C : Int) (Z : Option Addr) (nz cz : Nat) : Value := .agg #[.int .i64 E1, .int .i64 E2, .slice A na ca, .int .i64 C, .slice Z nz cz]
abbrev esO (E1 E2 : Int) (A : Option Addr) (na ca : Nat) (C : Int) (Z : Option Addr) (nz cz : Nat) : Obj := .cells #[.int .i64 E1, .int .i64 E2, .slice A na ca, .int .i64 C, .slice Z nz cz] 45
/-- a block of two integers. -/
def IB2 (w : World) (g : Nat) (a b : Int) : Prop := w.heap[g]? = some (.cells #[.int .i64 a, .int .i64 b] 3)
theorem blk_below {w w' : World} {g : Nat} {o : Obj} (h : w.heap[g]? = some o) (hb : Below w.heap.size w w') : w'.heap[g]? = some o := by
  have hl : g < w.heap.size := (Array.getElem?_eq_some_iff.1 h).1
  exact (hb.block g hl).trans h
theorem IB2.below {w w' : World} {g : Nat} {a b : Int} (h : IB2 w g a b) (hb : Below w.heap.size w w') : IB2 w' g a b := blk_below h hb
theorem IB2.new (w : World) (a b : Int) : IB2 (w.alloc (.cells #[.int .i64 a, .int .i64 b] 3)) w.heap.size a b := heap_alloc_new _ _
theorem IB2.sl {w : World} {g : Nat} {a b : Int} (h : IB2 w g a b) : Sl w (some ⟨g, 0, none⟩) [a, b] := sl_blk h (fun k hk => by match k, hk with | 0, _ => rfl | 1, _ => rfl)
/-- a block of two rows. -/
def RB2 (w : World) (g gA gB : Nat) : Prop := w.heap[g]? = some (.cells #[.slice (some ⟨gA, 0, none⟩) 2 2, .slice (some ⟨gB, 0, none⟩) 2 2] 24)
theorem RB2.below {w w' : World} {g gA gB : Nat} (h : RB2 w g gA gB) (hb : Below w.heap.size w w') : RB2 w' g gA gB := blk_below h hb
theorem RB2.new (w : World) (gA gB : Nat) : RB2 (w.alloc (.cells #[.slice (some ⟨gA, 0, none⟩) 2 2, .slice (some ⟨gB, 0, none⟩) 2 2] 24)) w.heap.size gA gB := heap_alloc_new _ _
/-- the rows of an escrow's relation. -/
def esRows (A1 B1 : Option Addr) (a b c d : Int) : List Row := [⟨A1, 2, 2, [a, b]⟩, ⟨B1, 2, 2, [c, d]⟩]
/-- the blocks of an escrow's relation. -/
def EsBlk (ps a b c d : Int) (gY gA gB gR : Nat) (w : World) : Prop := IB2 w gY ps 1 ∧ IB2 w gA a b ∧ IB2 w gB c d ∧ RB2 w gR gA gB
abbrev esRV (gY gR : Nat) : Value := relV (some ⟨gY, 0, none⟩) 2 2 (some ⟨gR, 0, none⟩) 2 2
theorem EsBlk.below {ps a b c d : Int} {gY gA gB gR : Nat} {w w' : World} (h : EsBlk ps a b c d gY gA gB gR w) (hb : Below w.heap.size w w') : EsBlk ps a b c d gY gA gB gR w' :=
  ⟨h.1.below hb, h.2.1.below hb, h.2.2.1.below hb, h.2.2.2.below hb⟩
theorem EsBlk.sl {ps a b c d : Int} {gY gA gB gR : Nat} {w : World} (h : EsBlk ps a b c d gY gA gB gR w) : Sl w (some ⟨gY, 0, none⟩) [ps, 1] ∧ Rw w (some ⟨gR, 0, none⟩) (esRows (some ⟨gA, 0, none⟩) (some ⟨gB, 0, none⟩) a b c d) := by
  obtain ⟨h1, h2, h3, h4⟩ := h
  refine ⟨h1.sl, fun k hk => ?_⟩
  match k, hk with
  | 0, _ => exact ⟨⟨gR, 0, rfl, by rw [cell_blk h4]; rfl⟩, rfl, h2.sl⟩
  | 1, _ => exact ⟨⟨gR, 0, rfl, by rw [cell_blk h4]; rfl⟩, rfl, h3.sl⟩
theorem EsBlk.set {ps a b c d : Int} {gY gA gB gR : Nat} {w : World} (h : EsBlk ps a b c d gY gA gB gR w) {k : Nat} (hY : k < gY) (hA : k < gA) (hB : k < gB) (hR : k < gR) (j : Nat) (v : Value) : EsBlk ps a b c d gY gA gB gR (w.setCell ⟨k, j, none⟩ v) := by
  obtain ⟨h1, h2, h3, h4⟩ := h
  refine ⟨?_, ?_, ?_, ?_⟩
  · exact (Go.Deep.blk_setCell_other _ _ _ _ (show gY ≠ k by omega)).trans h1
  · exact (Go.Deep.blk_setCell_other _ _ _ _ (show gA ≠ k by omega)).trans h2
  · exact (Go.Deep.blk_setCell_other _ _ _ _ (show gB ≠ k by omega)).trans h3
  · exact (Go.Deep.blk_setCell_other _ _ _ _ (show gR ≠ k by omega)).trans h4
theorem EsBlk.setRow {ps a b c d : Int} {gY gA gB gR : Nat} {w : World} (h : EsBlk ps a b c d gY gA gB gR w) {k : Nat} (hY : k < gY) (hA : k < gA) (hB : k < gB) (hR : k < gR) (cs : Array Value) : EsBlk ps a b c d gY gA gB gR (w.setRow k cs) := by
  obtain ⟨h1, h2, h3, h4⟩ := h
  exact ⟨(setRow_other _ _ _ _ (by omega)).trans h1, (setRow_other _ _ _ _ (by omega)).trans h2, (setRow_other _ _ _ _ (by omega)).trans h3, (setRow_other _ _ _ _ (by omega)).trans h4⟩
theorem pw_neg1 {P Q x : Int} (hQ : 1 ≤ Q) : pw x ((-1) % Q) P = pw x ((Q - 1) % Q) P := by rw [Int.sub_eq_add_neg, Int.add_comm Q, Int.add_emod_right]
theorem heap_alloc3_new (w : World) (A B C : Obj) : (((w.alloc A).alloc B).alloc C).heap[w.heap.size + 2]? = some C := by
  have e : w.heap.size + 2 = ((w.alloc A).alloc B).heap.size := by simp
  rw [e]; exact heap_alloc_new _ _
/-- an empty relation's box. -/
def RNil (w : World) (g : Nat) : Prop := w.heap[g]? = some (.cells #[.slice none 0 0, .slice none 0 0] 49)
theorem RNil.below {w w' : World} {g : Nat} (h : RNil w g) (hb : Below w.heap.size w w') : RNil w' g := blk_below h hb
theorem relInfo : (Tryz.prog.info? 49).map (·.size) = some 2 := by kernel_rfl
theorem stB (P Q G X1 X2 X3 : Int) (w : World) : ∃ w0, Hid ((w.alloc (bObj P Q G X1 X2 X3)) = w0) ∧ Hid (Below w.heap.size w w0) ∧ Hid (∀ u : World, Hid (Below w0.heap.size w0 u) → u.cell? ⟨w.heap.size, 0, none⟩ = some (.int .i64 P) ∧ u.cell? ⟨w.heap.size, 1, none⟩ = some (.int .i64 Q) ∧ u.cell? ⟨w.heap.size, 2, none⟩ = some (.int .i64 G) ∧ u.cell? ⟨w.heap.size, 3, none⟩ = some (.int .i64 X1) ∧ u.cell? ⟨w.heap.size, 4, none⟩ = some (.int .i64 X2) ∧ u.cell? ⟨w.heap.size, 5, none⟩ = some (.int .i64 X3)) := by
  obtain ⟨w0, hW⟩ : ∃ W, (w.alloc (bObj P Q G X1 X2 X3)) = W := ⟨_, rfl⟩
  have HBw : Hid (Below w.heap.size w w0) := Lib.hid (by rw [← hW]; exact below_box0 _ _)
  have hc : w0.cell? ⟨w.heap.size, 0, none⟩ = some (.int .i64 P) ∧ w0.cell? ⟨w.heap.size, 1, none⟩ = some (.int .i64 Q) ∧ w0.cell? ⟨w.heap.size, 2, none⟩ = some (.int .i64 G) ∧ w0.cell? ⟨w.heap.size, 3, none⟩ = some (.int .i64 X1) ∧ w0.cell? ⟨w.heap.size, 4, none⟩ = some (.int .i64 X2) ∧ w0.cell? ⟨w.heap.size, 5, none⟩ = some (.int .i64 X3) := by rw [← hW]; exact ⟨allocs_cell (by simp) (by rfl), allocs_cell (by simp) (by rfl), allocs_cell (by simp) (by rfl), allocs_cell (by simp) (by rfl), allocs_cell (by simp) (by rfl), allocs_cell (by simp) (by rfl)⟩
  have kC := Lib.hid (show ∀ u : World, Hid (Below w0.heap.size w0 u) → u.cell? ⟨w.heap.size, 0, none⟩ = some (.int .i64 P) ∧ u.cell? ⟨w.heap.size, 1, none⟩ = some (.int .i64 Q) ∧ u.cell? ⟨w.heap.size, 2, none⟩ = some (.int .i64 G) ∧ u.cell? ⟨w.heap.size, 3, none⟩ = some (.int .i64 X1) ∧ u.cell? ⟨w.heap.size, 4, none⟩ = some (.int .i64 X2) ∧ u.cell? ⟨w.heap.size, 5, none⟩ = some (.int .i64 X3) from fun u h => ⟨cell_below hc.1 h.out, cell_below hc.2.1 h.out, cell_below hc.2.2.1 h.out, cell_below hc.2.2.2.1 h.out, cell_below hc.2.2.2.2.1 h.out, cell_below hc.2.2.2.2.2 h.out⟩)
  exact ⟨w0, Lib.hid hW, HBw, kC⟩
theorem stBE (P Q G X1 X2 X3 : Int) (E1 E2 : Int) (A : Option Addr) (na ca : Nat) (C : Int) (Z : Option Addr) (nz cz : Nat) (w : World) : ∃ w0, Hid (((w.alloc (bObj P Q G X1 X2 X3)).alloc (esO E1 E2 A na ca C Z nz cz)) = w0) ∧ Hid (Below w.heap.size w w0) ∧ Hid (∀ u : World, Hid (Below w0.heap.size w0 u) → u.cell? ⟨w.heap.size, 0, none⟩ = some (.int .i64 P) ∧ u.cell? ⟨w.heap.size, 1, none⟩ = some (.int .i64 Q) ∧ u.cell? ⟨w.heap.size, 2, none⟩ = some (.int .i64 G) ∧ u.cell? ⟨w.heap.size, 3, none⟩ = some (.int .i64 X1) ∧ u.cell? ⟨w.heap.size, 4, none⟩ = some (.int .i64 X2) ∧ u.cell? ⟨w.heap.size, 5, none⟩ = some (.int .i64 X3) ∧ u.cell? ⟨w.heap.size + 1, 0, none⟩ = some (.int .i64 E1) ∧ u.cell? ⟨w.heap.size + 1, 1, none⟩ = some (.int .i64 E2) ∧ u.cell? ⟨w.heap.size + 1, 2, none⟩ = some (.slice A na ca) ∧ u.cell? ⟨w.heap.size + 1, 3, none⟩ = some (.int .i64 C) ∧ u.cell? ⟨w.heap.size + 1, 4, none⟩ = some (.slice Z nz cz)) := by
  obtain ⟨w0, hW⟩ : ∃ W, ((w.alloc (bObj P Q G X1 X2 X3)).alloc (esO E1 E2 A na ca C Z nz cz)) = W := ⟨_, rfl⟩
  have HBw : Hid (Below w.heap.size w w0) := Lib.hid (by rw [← hW]; exact below_two (Below.refl _ _))
  have hc : w0.cell? ⟨w.heap.size, 0, none⟩ = some (.int .i64 P) ∧ w0.cell? ⟨w.heap.size, 1, none⟩ = some (.int .i64 Q) ∧ w0.cell? ⟨w.heap.size, 2, none⟩ = some (.int .i64 G) ∧ w0.cell? ⟨w.heap.size, 3, none⟩ = some (.int .i64 X1) ∧ w0.cell? ⟨w.heap.size, 4, none⟩ = some (.int .i64 X2) ∧ w0.cell? ⟨w.heap.size, 5, none⟩ = some (.int .i64 X3) ∧ w0.cell? ⟨w.heap.size + 1, 0, none⟩ = some (.int .i64 E1) ∧ w0.cell? ⟨w.heap.size + 1, 1, none⟩ = some (.int .i64 E2) ∧ w0.cell? ⟨w.heap.size + 1, 2, none⟩ = some (.slice A na ca) ∧ w0.cell? ⟨w.heap.size + 1, 3, none⟩ = some (.int .i64 C) ∧ w0.cell? ⟨w.heap.size + 1, 4, none⟩ = some (.slice Z nz cz) := by rw [← hW]; exact ⟨cell_below (allocs_cell (by simp) (by rfl)) (below_box0 _ _), cell_below (allocs_cell (by simp) (by rfl)) (below_box0 _ _), cell_below (allocs_cell (by simp) (by rfl)) (below_box0 _ _), cell_below (allocs_cell (by simp) (by rfl)) (below_box0 _ _), cell_below (allocs_cell (by simp) (by rfl)) (below_box0 _ _), cell_below (allocs_cell (by simp) (by rfl)) (below_box0 _ _), allocs_cell (by simp) (by rfl), allocs_cell (by simp) (by rfl), allocs_cell (by simp) (by rfl), allocs_cell (by simp) (by rfl), allocs_cell (by simp) (by rfl)⟩
  have kC := Lib.hid (show ∀ u : World, Hid (Below w0.heap.size w0 u) → u.cell? ⟨w.heap.size, 0, none⟩ = some (.int .i64 P) ∧ u.cell? ⟨w.heap.size, 1, none⟩ = some (.int .i64 Q) ∧ u.cell? ⟨w.heap.size, 2, none⟩ = some (.int .i64 G) ∧ u.cell? ⟨w.heap.size, 3, none⟩ = some (.int .i64 X1) ∧ u.cell? ⟨w.heap.size, 4, none⟩ = some (.int .i64 X2) ∧ u.cell? ⟨w.heap.size, 5, none⟩ = some (.int .i64 X3) ∧ u.cell? ⟨w.heap.size + 1, 0, none⟩ = some (.int .i64 E1) ∧ u.cell? ⟨w.heap.size + 1, 1, none⟩ = some (.int .i64 E2) ∧ u.cell? ⟨w.heap.size + 1, 2, none⟩ = some (.slice A na ca) ∧ u.cell? ⟨w.heap.size + 1, 3, none⟩ = some (.int .i64 C) ∧ u.cell? ⟨w.heap.size + 1, 4, none⟩ = some (.slice Z nz cz) from fun u h => ⟨cell_below hc.1 h.out, cell_below hc.2.1 h.out, cell_below hc.2.2.1 h.out, cell_below hc.2.2.2.1 h.out, cell_below hc.2.2.2.2.1 h.out, cell_below hc.2.2.2.2.2.1 h.out, cell_below hc.2.2.2.2.2.2.1 h.out, cell_below hc.2.2.2.2.2.2.2.1 h.out, cell_below hc.2.2.2.2.2.2.2.2.1 h.out, cell_below hc.2.2.2.2.2.2.2.2.2.1 h.out, cell_below hc.2.2.2.2.2.2.2.2.2.2 h.out⟩)
  exact ⟨w0, Lib.hid hW, HBw, kC⟩
theorem stBER (P Q G X1 X2 X3 : Int) (E1 E2 : Int) (A : Option Addr) (na ca : Nat) (C : Int) (Z : Option Addr) (nz cz : Nat) (w : World) : ∃ w0, Hid ((((w.alloc (bObj P Q G X1 X2 X3)).alloc (esO E1 E2 A na ca C Z nz cz)).alloc (relO none 0 0 none 0 0)) = w0) ∧ Hid (Below w.heap.size w w0) ∧ Hid (∀ u : World, Hid (Below w0.heap.size w0 u) → u.cell? ⟨w.heap.size, 0, none⟩ = some (.int .i64 P) ∧ u.cell? ⟨w.heap.size, 1, none⟩ = some (.int .i64 Q) ∧ u.cell? ⟨w.heap.size, 2, none⟩ = some (.int .i64 G) ∧ u.cell? ⟨w.heap.size, 3, none⟩ = some (.int .i64 X1) ∧ u.cell? ⟨w.heap.size, 4, none⟩ = some (.int .i64 X2) ∧ u.cell? ⟨w.heap.size, 5, none⟩ = some (.int .i64 X3) ∧ u.cell? ⟨w.heap.size + 1, 0, none⟩ = some (.int .i64 E1) ∧ u.cell? ⟨w.heap.size + 1, 1, none⟩ = some (.int .i64 E2) ∧ u.cell? ⟨w.heap.size + 1, 2, none⟩ = some (.slice A na ca) ∧ u.cell? ⟨w.heap.size + 1, 3, none⟩ = some (.int .i64 C) ∧ u.cell? ⟨w.heap.size + 1, 4, none⟩ = some (.slice Z nz cz) ∧ Own u ⟨w.heap.size + 2, 0, none⟩ (.slice none 0 0) ∧ Own u ⟨w.heap.size + 2, 1, none⟩ (.slice none 0 0)) := by
  obtain ⟨w0, hW⟩ : ∃ W, (((w.alloc (bObj P Q G X1 X2 X3)).alloc (esO E1 E2 A na ca C Z nz cz)).alloc (relO none 0 0 none 0 0)) = W := ⟨_, rfl⟩
  have HBw : Hid (Below w.heap.size w w0) := Lib.hid (by rw [← hW]; exact (((Below.refl _ _).alloc (Nat.le_refl _) _).alloc (by simp) _).alloc (by simp; omega) _)
  have hc : w0.cell? ⟨w.heap.size, 0, none⟩ = some (.int .i64 P) ∧ w0.cell? ⟨w.heap.size, 1, none⟩ = some (.int .i64 Q) ∧ w0.cell? ⟨w.heap.size, 2, none⟩ = some (.int .i64 G) ∧ w0.cell? ⟨w.heap.size, 3, none⟩ = some (.int .i64 X1) ∧ w0.cell? ⟨w.heap.size, 4, none⟩ = some (.int .i64 X2) ∧ w0.cell? ⟨w.heap.size, 5, none⟩ = some (.int .i64 X3) ∧ w0.cell? ⟨w.heap.size + 1, 0, none⟩ = some (.int .i64 E1) ∧ w0.cell? ⟨w.heap.size + 1, 1, none⟩ = some (.int .i64 E2) ∧ w0.cell? ⟨w.heap.size + 1, 2, none⟩ = some (.slice A na ca) ∧ w0.cell? ⟨w.heap.size + 1, 3, none⟩ = some (.int .i64 C) ∧ w0.cell? ⟨w.heap.size + 1, 4, none⟩ = some (.slice Z nz cz) ∧ Own w0 ⟨w.heap.size + 2, 0, none⟩ (.slice none 0 0) ∧ Own w0 ⟨w.heap.size + 2, 1, none⟩ (.slice none 0 0) := by rw [← hW]; exact ⟨cell_below (cell_below (allocs_cell (by simp) (by rfl)) (below_box0 _ _)) (below_box0 _ _), cell_below (cell_below (allocs_cell (by simp) (by rfl)) (below_box0 _ _)) (below_box0 _ _), cell_below (cell_below (allocs_cell (by simp) (by rfl)) (below_box0 _ _)) (below_box0 _ _), cell_below (cell_below (allocs_cell (by simp) (by rfl)) (below_box0 _ _)) (below_box0 _ _), cell_below (cell_below (allocs_cell (by simp) (by rfl)) (below_box0 _ _)) (below_box0 _ _), cell_below (cell_below (allocs_cell (by simp) (by rfl)) (below_box0 _ _)) (below_box0 _ _), cell_below (allocs_cell (by simp) (by rfl)) (below_box0 _ _), cell_below (allocs_cell (by simp) (by rfl)) (below_box0 _ _), cell_below (allocs_cell (by simp) (by rfl)) (below_box0 _ _), cell_below (allocs_cell (by simp) (by rfl)) (below_box0 _ _), cell_below (allocs_cell (by simp) (by rfl)) (below_box0 _ _), allocs_own (by simp) (by rfl), allocs_own (by simp) (by rfl)⟩
  have kC := Lib.hid (show ∀ u : World, Hid (Below w0.heap.size w0 u) → u.cell? ⟨w.heap.size, 0, none⟩ = some (.int .i64 P) ∧ u.cell? ⟨w.heap.size, 1, none⟩ = some (.int .i64 Q) ∧ u.cell? ⟨w.heap.size, 2, none⟩ = some (.int .i64 G) ∧ u.cell? ⟨w.heap.size, 3, none⟩ = some (.int .i64 X1) ∧ u.cell? ⟨w.heap.size, 4, none⟩ = some (.int .i64 X2) ∧ u.cell? ⟨w.heap.size, 5, none⟩ = some (.int .i64 X3) ∧ u.cell? ⟨w.heap.size + 1, 0, none⟩ = some (.int .i64 E1) ∧ u.cell? ⟨w.heap.size + 1, 1, none⟩ = some (.int .i64 E2) ∧ u.cell? ⟨w.heap.size + 1, 2, none⟩ = some (.slice A na ca) ∧ u.cell? ⟨w.heap.size + 1, 3, none⟩ = some (.int .i64 C) ∧ u.cell? ⟨w.heap.size + 1, 4, none⟩ = some (.slice Z nz cz) ∧ Own u ⟨w.heap.size + 2, 0, none⟩ (.slice none 0 0) ∧ Own u ⟨w.heap.size + 2, 1, none⟩ (.slice none 0 0) from fun u h => ⟨cell_below hc.1 h.out, cell_below hc.2.1 h.out, cell_below hc.2.2.1 h.out, cell_below hc.2.2.2.1 h.out, cell_below hc.2.2.2.2.1 h.out, cell_below hc.2.2.2.2.2.1 h.out, cell_below hc.2.2.2.2.2.2.1 h.out, cell_below hc.2.2.2.2.2.2.2.1 h.out, cell_below hc.2.2.2.2.2.2.2.2.1 h.out, cell_below hc.2.2.2.2.2.2.2.2.2.1 h.out, cell_below hc.2.2.2.2.2.2.2.2.2.2.1 h.out, (hc.2.2.2.2.2.2.2.2.2.2.2.1).below h.out, (hc.2.2.2.2.2.2.2.2.2.2.2.2).below h.out⟩)
  exact ⟨w0, Lib.hid hW, HBw, kC⟩
set_option maxHeartbeats 3200000 in
theorem proper_1 (P Q G X1 X2 X3 : Int) (x : Int) (h1 : (x != 1) = false) (w : World) (hv : Hid (Vars w)) :
    Calls Tryz.prog 62 #[bv P Q G X1 X2 X3, .int .i64 x] w fun e' w' => e' = .returned (.bool false) ∧ Below w.heap.size w w' := by
  obtain ⟨w0, HW, HBw, kC⟩ := stB P Q G X1 X2 X3 w
  have kV := Lib.hid (show ∀ u : World, Hid (Below w0.heap.size w0 u) → Hid (Vars u) from fun u h => Lib.hid ((hv.out.below) (below_ext HBw.out h.out)))
  have HB_0 : Hid (Below w0.heap.size w0 w0) := Lib.hid (Below.refl _ _)
  clear hv
  go_enter Tryz.func62, Tryz.ntmps62
  go_wp2_with fail
  rw [HW.out]
  obtain ⟨zc0, zc1, zc2, zc3, zc4, zc5⟩ := kC.out _ HB_0
  have hbF := below_ext HBw.out HB_0.out
  go_wp2
  go_ret
  exact ⟨rfl, hbF⟩
set_option maxHeartbeats 3200000 in
theorem proper_2 (P Q G X1 X2 X3 : Int) (x : Int) (h1 : (x != 1) = true) (b : Bool) (hb : Hid (conG P Q G x = b)) (hQ : Q < 9223372036854775808) (w : World) (hv : Hid (Vars w)) :
    Calls Tryz.prog 62 #[bv P Q G X1 X2 X3, .int .i64 x] w fun e' w' => e' = .returned (.bool b) ∧ Below w.heap.size w w' := by
  obtain ⟨w0, HW, HBw, kC⟩ := stB P Q G X1 X2 X3 w
  have kV := Lib.hid (show ∀ u : World, Hid (Below w0.heap.size w0 u) → Hid (Vars u) from fun u h => Lib.hid ((hv.out.below) (below_ext HBw.out h.out)))
  have HB_0 : Hid (Below w0.heap.size w0 w0) := Lib.hid (Below.refl _ _)
  clear hv
  go_enter Tryz.func62, Tryz.ntmps62
  go_wp2_with fail
  rw [HW.out]
  obtain ⟨zc0, zc1, zc2, zc3, zc4, zc5⟩ := kC.out _ HB_0
  go_wp2_with fail
  refine (contains_any P Q G x b hb hQ _ (kV.out _ HB_0)).mono ?_
  rintro e w1 ⟨rfl, hb0⟩
  have HB_1 := Lib.hid (below_ext HB_0.out hb0)
  clear zc0 zc1 zc2 zc3 zc4 zc5
  clear hb0
  obtain ⟨zc0, zc1, zc2, zc3, zc4, zc5⟩ := kC.out _ HB_1
  have hbF := below_ext HBw.out HB_1.out
  go_wp2
  go_ret
  exact ⟨rfl, hbF⟩
/-- escrow.proper, for a valid group. -/
theorem proper_any (P Q G X1 X2 X3 : Int) (x : Int) (r : Bool) (hr : Hid (okB P Q x = r)) (HVG : Hid (validG P Q G = true)) (hQ : Q < 9223372036854775808) (w : World) (hv : Hid (Vars w)) :
    Calls Tryz.prog 62 #[bv P Q G X1 X2 X3, .int .i64 x] w fun e' w' => e' = .returned (.bool r) ∧ Below w.heap.size w w' := by
  have hr1 := hr.out
  unfold okB at hr1
  cases h1 : (x != 1) with
  | false =>
    obtain rfl : r = false := by rw [← hr1, h1]; rfl
    exact proper_1 P Q G X1 X2 X3 x h1 w hv
  | true => exact proper_2 P Q G X1 X2 X3 x h1 r (Lib.hid (by rw [← hr1, h1, conG, HVG.out])) hQ w hv
set_option maxHeartbeats 3200000 in
theorem epower_ok (P Q G X1 X2 X3 : Int) (x k v : Int) (hck : Hid (chkG P Q G [x] = 0)) (hvv : Hid (pw x (k % Q) P = v)) (k0 : -9223372036854775808 ≤ k) (k1 : k < 9223372036854775808) (w : World) (hv : Hid (Vars w)) :
    Calls Tryz.prog 67 #[bv P Q G X1 X2 X3, .int .i64 x, .int .i64 k] w fun e' w' => e' = .returned (.int .i64 v) ∧ Below w.heap.size w w' := by
  obtain ⟨w0, HW, HBw, kC⟩ := stB P Q G X1 X2 X3 w
  have kV := Lib.hid (show ∀ u : World, Hid (Below w0.heap.size w0 u) → Hid (Vars u) from fun u h => Lib.hid ((hv.out.below) (below_ext HBw.out h.out)))
  have HB_0 : Hid (Below w0.heap.size w0 w0) := Lib.hid (Below.refl _ _)
  clear hv
  go_enter Tryz.func67, Tryz.ntmps67
  go_wp2_with fail
  rw [HW.out]
  obtain ⟨zc0, zc1, zc2, zc3, zc4, zc5⟩ := kC.out _ HB_0
  go_wp2_with fail
  refine (gpow_ok P Q G x k v hck hvv k0 k1 _ (kV.out _ HB_0)).mono ?_
  rintro e w1 ⟨rfl, hb0⟩
  have HB_1 := Lib.hid (below_ext HB_0.out hb0)
  clear zc0 zc1 zc2 zc3 zc4 zc5
  clear hb0
  obtain ⟨zc0, zc1, zc2, zc3, zc4, zc5⟩ := kC.out _ HB_1
  have hbF := below_ext HBw.out HB_1.out
  go_wp2
  go_ret
  exact ⟨rfl, hbF⟩
set_option maxHeartbeats 3200000 in
theorem etimes_ok (P Q G X1 X2 X3 : Int) (x y v : Int) (hck : Hid (chkG P Q G [x, y] = 0)) (hvv : Hid (x * y % P = v)) (hQ : Q < 9223372036854775808) (w : World) (hv : Hid (Vars w)) :
    Calls Tryz.prog 66 #[bv P Q G X1 X2 X3, .int .i64 x, .int .i64 y] w fun e' w' => e' = .returned (.int .i64 v) ∧ Below w.heap.size w w' := by
  obtain ⟨w0, HW, HBw, kC⟩ := stB P Q G X1 X2 X3 w
  have kV := Lib.hid (show ∀ u : World, Hid (Below w0.heap.size w0 u) → Hid (Vars u) from fun u h => Lib.hid ((hv.out.below) (below_ext HBw.out h.out)))
  have HB_0 : Hid (Below w0.heap.size w0 w0) := Lib.hid (Below.refl _ _)
  clear hv
  go_enter Tryz.func66, Tryz.ntmps66
  go_wp2_with fail
  rw [HW.out]
  obtain ⟨zc0, zc1, zc2, zc3, zc4, zc5⟩ := kC.out _ HB_0
  go_wp2_with fail
  refine (gmul_ok P Q G x y v hck hvv hQ _ (kV.out _ HB_0)).mono ?_
  rintro e w1 ⟨rfl, hb0⟩
  have HB_1 := Lib.hid (below_ext HB_0.out hb0)
  clear zc0 zc1 zc2 zc3 zc4 zc5
  clear hb0
  obtain ⟨zc0, zc1, zc2, zc3, zc4, zc5⟩ := kC.out _ HB_1
  have hbF := below_ext HBw.out HB_1.out
  go_wp2
  go_ret
  exact ⟨rfl, hbF⟩
theorem RNil.setRow {w : World} {g : Nat} (h : RNil w g) (cs : Array Value) : (w.setRow g cs).heap[g]? = some (.cells cs 49) := setRow_heap w g _ _ _ _ h
/-- what escrow.relation answers. -/
def EsRel (ps a b c d : Int) (w : World) (e : Ending) (w' : World) : Prop := ∃ gY gA gB gR, e = .returned (esRV gY gR) ∧ EsBlk ps a b c d gY gA gB gR w' ∧ w.heap.size + 2 < gY ∧ w.heap.size + 2 < gA ∧ w.heap.size + 2 < gB ∧ w.heap.size + 2 < gR ∧ Below w.heap.size w w'
set_option maxHeartbeats 25600000 in
theorem esrel_any (P Q G X1 X2 X3 : Int) (y ps : Int) (E1 E2 : Int) (A : Option Addr) (na ca : Nat) (C : Int) (Z : Option Addr) (nz cz : Nat) (va vb vd : Int) (ck1 : Hid (chkG P Q G [E2, X2] = 0)) (ck2 : Hid (chkG P Q G [y] = 0)) (ck3 : Hid (chkG P Q G [G] = 0)) (ha : Hid (E2 * X2 % P = va)) (hb : Hid (pw y ((-1) % Q) P = vb)) (hd : Hid (pw G ((-1) % Q) P = vd)) (hQ : Q < 9223372036854775808) (w : World) (hv : Hid (Vars w)) :
    Calls Tryz.prog 63 #[bv P Q G X1 X2 X3, .int .i64 y, .int .i64 ps, esV E1 E2 A na ca C Z nz cz] w (EsRel ps va vb E1 vd w) := by
  obtain ⟨w0, HW, HBw, kC⟩ := stBER P Q G X1 X2 X3 E1 E2 A na ca C Z nz cz w
  have kV := Lib.hid (show ∀ u : World, Hid (Below w0.heap.size w0 u) → Hid (Vars u) from fun u h => Lib.hid ((hv.out.below) (below_ext HBw.out h.out)))
  have HB_0 : Hid (Below w0.heap.size w0 w0) := Lib.hid (Below.refl _ _)
  clear hv
  have kRB := Lib.hid (show ∀ u : World, Hid (Below w0.heap.size w0 u) → Hid (RNil u (w.heap.size + 2)) from fun u h => Lib.hid ((show RNil w0 (w.heap.size + 2) from by rw [← HW.out]; exact heap_alloc3_new _ _ _ _).below h.out))
  go_enter Tryz.func63, Tryz.ntmps63
  go_wp2_with fail
  rw [HW.out]
  obtain ⟨zc0, zc1, zc2, zc3, zc4, zc5, zc6, zc7, zc8, zc9, zc10, ⟨zc11, zf11⟩, ⟨zc12, zf12⟩⟩ := kC.out _ HB_0
  go_upto_region 1 with (fail)
  have HSZ0 : Hid (w.heap.size + 3 ≤ w0.heap.size) := Lib.hid (by rw [← HW.out]; simp)
  clear zc0 zc1 zc2 zc3 zc4 zc5 zc6 zc7 zc8 zc9 zc10 zc11 zf11 zc12 zf12
  have hBx := Lib.hid (show ∀ u u2 : World, Hid (Below w0.heap.size w0 u) → Below u.heap.size u u2 → Hid (Below w0.heap.size w0 u2) from fun u u2 h1 h2 => Lib.hid (below_ext h1.out h2))
  have hS := Lib.hid (show ∀ u : World, Hid (Below w0.heap.size w0 u) → (u.cell? ⟨w.heap.size, 0, none⟩ = some (.int .i64 P) ∧ u.cell? ⟨w.heap.size, 1, none⟩ = some (.int .i64 Q) ∧ u.cell? ⟨w.heap.size, 2, none⟩ = some (.int .i64 G) ∧ u.cell? ⟨w.heap.size, 3, none⟩ = some (.int .i64 X1) ∧ u.cell? ⟨w.heap.size, 4, none⟩ = some (.int .i64 X2) ∧ u.cell? ⟨w.heap.size, 5, none⟩ = some (.int .i64 X3) ∧ u.cell? ⟨w.heap.size + 1, 0, none⟩ = some (.int .i64 E1) ∧ u.cell? ⟨w.heap.size + 1, 1, none⟩ = some (.int .i64 E2) ∧ u.cell? ⟨w.heap.size + 1, 2, none⟩ = some (.slice A na ca) ∧ u.cell? ⟨w.heap.size + 1, 3, none⟩ = some (.int .i64 C) ∧ u.cell? ⟨w.heap.size + 1, 4, none⟩ = some (.slice Z nz cz) ∧ Own u ⟨w.heap.size + 2, 0, none⟩ (.slice none 0 0) ∧ Own u ⟨w.heap.size + 2, 1, none⟩ (.slice none 0 0)) from fun u h1 => by
    obtain ⟨y0, y1, y2, y3, y4, y5, y6, y7, y8, y9, y10, y11, y12⟩ := kC.out _ (Lib.hid h1.out)
    exact ⟨y0, y1, y2, y3, y4, y5, y6, y7, y8, y9, y10, y11, y12⟩)
  have HBA : Hid (Below w0.heap.size w0 w0) := Lib.hid HB_0.out
  have HBD := hBx.out _ _ HBA (Below.refl _ _).drew
  refine wp_region_T (S := fun w' => w'.cell? ⟨w.heap.size, 0, none⟩ = some (.int .i64 P) ∧ w'.cell? ⟨w.heap.size, 1, none⟩ = some (.int .i64 Q) ∧ w'.cell? ⟨w.heap.size, 2, none⟩ = some (.int .i64 G) ∧ w'.cell? ⟨w.heap.size, 3, none⟩ = some (.int .i64 X1) ∧ w'.cell? ⟨w.heap.size, 4, none⟩ = some (.int .i64 X2) ∧ w'.cell? ⟨w.heap.size, 5, none⟩ = some (.int .i64 X3) ∧ w'.cell? ⟨w.heap.size + 1, 0, none⟩ = some (.int .i64 E1) ∧ w'.cell? ⟨w.heap.size + 1, 1, none⟩ = some (.int .i64 E2) ∧ w'.cell? ⟨w.heap.size + 1, 2, none⟩ = some (.slice A na ca) ∧ w'.cell? ⟨w.heap.size + 1, 3, none⟩ = some (.int .i64 C) ∧ w'.cell? ⟨w.heap.size + 1, 4, none⟩ = some (.slice Z nz cz) ∧ Own w' ⟨w.heap.size + 2, 0, none⟩ (.slice none 0 0) ∧ Own w' ⟨w.heap.size + 2, 1, none⟩ (.slice none 0 0)) (E := [22]) (by kernel_rfl) (hS.out _ HBD) (fun hHeld => ?_)
  obtain ⟨wD, hwD⟩ : ∃ u, w0.drew = u := ⟨_, rfl⟩
  rw [hwD] at HBD hHeld ⊢
  have HSZD : Hid (w0.heap.size ≤ wD.heap.size) := Lib.hid (by rw [← hwD]; exact Nat.le_refl _)
  clear hwD
  refine wpT_take (i := 0) (oi := _) (v := ?_) rfl (by kernel_rfl) (by kernel_rfl) (by kernel_rfl) (by kernel_rfl) (fun _ _ _ h => h) (Or.inl ⟨by rfl, ?_⟩) (by assumption) ?_
  rotate_left; (intro wS hSw; (try dsimp only at hSw); go_simp <;> with_reducible rfl)
  try simp only [List.getElem_toArray, List.getElem_cons_zero, List.getElem_cons_succ, Act.put, List.setIfInBounds_toArray, List.set_cons_zero, List.set_cons_succ]
  refine wpT_take (i := 2) (oi := _) (v := ?_) rfl (by kernel_rfl) (by kernel_rfl) (by kernel_rfl) (by kernel_rfl) (fun _ _ _ h => h) (Or.inl ⟨by rfl, ?_⟩) (by assumption) ?_
  rotate_left; (intro wS hSw; (try dsimp only at hSw); go_simp <;> with_reducible rfl)
  try simp only [List.getElem_toArray, List.getElem_cons_zero, List.getElem_cons_succ, Act.put, List.setIfInBounds_toArray, List.set_cons_zero, List.set_cons_succ]
  refine wpT_take (i := 3) (oi := _) (v := ?_) rfl (by kernel_rfl) (by kernel_rfl) (by kernel_rfl) (by kernel_rfl) (fun _ _ _ h => h) (Or.inl ⟨by rfl, ?_⟩) (by assumption) ?_
  rotate_left; (intro wS hSw; (try dsimp only at hSw); go_simp <;> with_reducible rfl)
  try simp only [List.getElem_toArray, List.getElem_cons_zero, List.getElem_cons_succ, Act.put, List.setIfInBounds_toArray, List.set_cons_zero, List.set_cons_succ]
  refine wpT_take (i := 4) (oi := _) (v := ?_) rfl (by kernel_rfl) (by kernel_rfl) (by kernel_rfl) (by kernel_rfl) (fun _ _ _ h => h) (Or.inl ⟨by rfl, ?_⟩) (by assumption) ?_
  rotate_left; (intro wS hSw; (try dsimp only at hSw); go_simp <;> with_reducible rfl)
  try simp only [List.getElem_toArray, List.getElem_cons_zero, List.getElem_cons_succ, Act.put, List.setIfInBounds_toArray, List.set_cons_zero, List.set_cons_succ]
  refine wpT_take (i := 5) (oi := _) (v := ?_) rfl (by kernel_rfl) (by kernel_rfl) (by kernel_rfl) (by kernel_rfl) (fun _ _ _ h => h) (Or.inl ⟨by rfl, ?_⟩) (by assumption) ?_
  rotate_left; (intro wS hSw; (try dsimp only at hSw); go_simp <;> with_reducible rfl)
  try simp only [List.getElem_toArray, List.getElem_cons_zero, List.getElem_cons_succ, Act.put, List.setIfInBounds_toArray, List.set_cons_zero, List.set_cons_succ]
  refine wpT_take (i := 6) (oi := _) (v := ?_) rfl (by kernel_rfl) (by kernel_rfl) (by kernel_rfl) (by kernel_rfl) (fun _ _ _ h => h) (Or.inl ⟨by rfl, ?_⟩) (by assumption) ?_
  rotate_left; (intro wS hSw; (try dsimp only at hSw); go_simp <;> with_reducible rfl)
  try simp only [List.getElem_toArray, List.getElem_cons_zero, List.getElem_cons_succ, Act.put, List.setIfInBounds_toArray, List.set_cons_zero, List.set_cons_succ]
  refine wpT_take (i := 8) (oi := _) (v := ?_) rfl (by kernel_rfl) (by kernel_rfl) (by kernel_rfl) (by kernel_rfl) (fun _ _ _ h => h) (Or.inl ⟨by rfl, ?_⟩) (by assumption) ?_
  rotate_left; (intro wS hSw; (try dsimp only at hSw); go_simp <;> with_reducible rfl)
  try simp only [List.getElem_toArray, List.getElem_cons_zero, List.getElem_cons_succ, Act.put, List.setIfInBounds_toArray, List.set_cons_zero, List.set_cons_succ]
  refine wpT_take (i := 9) (oi := _) (v := ?_) rfl (by kernel_rfl) (by kernel_rfl) (by kernel_rfl) (by kernel_rfl) (fun _ _ _ h => h) (Or.inl ⟨by rfl, ?_⟩) (by assumption) ?_
  rotate_left; (intro wS hSw; (try dsimp only at hSw); go_simp <;> with_reducible rfl)
  try simp only [List.getElem_toArray, List.getElem_cons_zero, List.getElem_cons_succ, Act.put, List.setIfInBounds_toArray, List.set_cons_zero, List.set_cons_succ]
  refine wpT_take (i := 12) (oi := _) (v := ?_) rfl (by kernel_rfl) (by kernel_rfl) (by kernel_rfl) (by kernel_rfl) (fun _ _ _ h => h) (Or.inl ⟨by rfl, ?_⟩) (by assumption) ?_
  rotate_left; (intro wS hSw; (try dsimp only at hSw); go_simp <;> with_reducible rfl)
  try simp only [List.getElem_toArray, List.getElem_cons_zero, List.getElem_cons_succ, Act.put, List.setIfInBounds_toArray, List.set_cons_zero, List.set_cons_succ]
  refine wpT_take (i := 13) (oi := _) (v := ?_) rfl (by kernel_rfl) (by kernel_rfl) (by kernel_rfl) (by kernel_rfl) (fun _ _ _ h => h) (Or.inl ⟨by rfl, ?_⟩) (by assumption) ?_
  rotate_left; (intro wS hSw; (try dsimp only at hSw); go_simp <;> with_reducible rfl)
  try simp only [List.getElem_toArray, List.getElem_cons_zero, List.getElem_cons_succ, Act.put, List.setIfInBounds_toArray, List.set_cons_zero, List.set_cons_succ]
  refine wpT_take (i := 14) (oi := _) (v := ?_) rfl (by kernel_rfl) (by kernel_rfl) (by kernel_rfl) (by kernel_rfl) (fun _ _ _ h => h) (Or.inl ⟨by rfl, ?_⟩) (by assumption) ?_
  rotate_left; (intro wS hSw; (try dsimp only at hSw); go_simp <;> with_reducible rfl)
  try simp only [List.getElem_toArray, List.getElem_cons_zero, List.getElem_cons_succ, Act.put, List.setIfInBounds_toArray, List.set_cons_zero, List.set_cons_succ]
  refine wpT_take (i := 15) (oi := _) (v := ?_) rfl (by kernel_rfl) (by kernel_rfl) (by kernel_rfl) (by kernel_rfl) (fun _ _ _ h => h) (Or.inl ⟨by rfl, ?_⟩) (by assumption) ?_
  rotate_left; (intro wS hSw; (try dsimp only at hSw); go_simp <;> with_reducible rfl)
  try simp only [List.getElem_toArray, List.getElem_cons_zero, List.getElem_cons_succ, Act.put, List.setIfInBounds_toArray, List.set_cons_zero, List.set_cons_succ]
  refine wpT_take (i := 16) (oi := _) (v := ?_) rfl (by kernel_rfl) (by kernel_rfl) (by kernel_rfl) (by kernel_rfl) (fun _ _ _ h => h) (Or.inl ⟨by rfl, ?_⟩) (by assumption) ?_
  rotate_left; (intro wS hSw; (try dsimp only at hSw); go_simp <;> with_reducible rfl)
  try simp only [List.getElem_toArray, List.getElem_cons_zero, List.getElem_cons_succ, Act.put, List.setIfInBounds_toArray, List.set_cons_zero, List.set_cons_succ]
  refine wpT_take (i := 17) (oi := _) (v := ?_) rfl (by kernel_rfl) (by kernel_rfl) (by kernel_rfl) (by kernel_rfl) (fun _ _ _ h => h) (Or.inl ⟨by rfl, ?_⟩) (by assumption) ?_
  rotate_left; (intro wS hSw; (try dsimp only at hSw); go_simp <;> with_reducible rfl)
  try simp only [List.getElem_toArray, List.getElem_cons_zero, List.getElem_cons_succ, Act.put, List.setIfInBounds_toArray, List.set_cons_zero, List.set_cons_succ]
  refine wpT_frame (fun T a0 hT ha0 => ?_)
  clear hHeld
  have G1_7_10_11_18_19_20 : ∀ (gY : Nat) (gA : Nat) (gB : Nat) (gR : Nat) (u : World), (Hid (Below w0.heap.size w0 u)) → (Hid (IB2 u gY ps 1)) → (Hid (w.heap.size + 2 < gY)) → (Hid (IB2 u gA va vb)) → (Hid (w.heap.size + 2 < gA)) → (Hid (IB2 u gB E1 vd)) → (Hid (w.heap.size + 2 < gB)) → (Hid (RB2 u gR gA gB)) → (Hid (w.heap.size + 2 < gR)) → T 2 #[true, true, true, true, true, true, true, true, true, true, true, true, true, true, true, true, true, true, true, true, true, false, false] (((((((a0.put (some 10) (.slice (some ⟨gY, 0, none⟩) 2 2)).put (some 16) (.int .i64 va)).put (some 19) (.int .i64 vb)).put (some 20) (.slice (some ⟨gA, 0, none⟩) 2 2)).put (some 27) (.int .i64 vd)).put (some 28) (.slice (some ⟨gB, 0, none⟩) 2 2)).put (some 29) (.slice (some ⟨gR, 0, none⟩) 2 2)) u := by
    intro gY gA gB gR u FB FY FYl FA FAl FC FCl FR FRl
    have hHeld := hS.out _ FB
    rw [hT, ha0]
    try simp only [List.getElem_toArray, List.getElem_cons_zero, List.getElem_cons_succ, Act.put, List.setIfInBounds_toArray, List.set_cons_zero, List.set_cons_succ]
    have HE_w0 := Lib.hid FB.out
    refine wpT_take (i := 21) (oi := _) (v := ?_) rfl (by kernel_rfl) (by kernel_rfl) (by kernel_rfl) (by kernel_rfl) (fun _ _ _ h => h) (Or.inl ⟨by rfl, ?_⟩) (by assumption) ?_
    rotate_left; (intro wS hSw; (try dsimp only at hSw); go_simp <;> with_reducible rfl)
    try simp only [List.getElem_toArray, List.getElem_cons_zero, List.getElem_cons_succ, Act.put, List.setIfInBounds_toArray, List.set_cons_zero, List.set_cons_succ]
    have FNIL := kRB.out _ (Lib.hid FB.out)
    refine wpT_pass (i := 22) (by kernel_rfl) (by simp) rfl (fun K hK => ?_)
    rw [show (if Region.wanted _ _ = true then _ else _ : Prop) = _ from if_pos rfl]
    refine wp_store_row 49 _ _ rfl (w.heap.size + 2) #[.slice (some ⟨gY, 0, none⟩) 2 2, .slice (some ⟨gR, 0, none⟩) 2 2] rfl rfl 49 _ FNIL.out relInfo rfl (by simp [Value.oneCell']) ?_
    refine hK.out _ _ ?_
    clear hK K
    try simp only [List.getElem_toArray, List.getElem_cons_zero, List.getElem_cons_succ, Act.put, List.setIfInBounds_toArray, List.set_cons_zero, List.set_cons_succ]
    refine wpT_done (by kernel_rfl) ?_ _
    have hbF := below_setRow' (below_ext HBw.out FB.out) (cs := #[.slice (some ⟨gY, 0, none⟩) 2 2, .slice (some ⟨gR, 0, none⟩) 2 2]) (Nat.le_add_right w.heap.size 2)
    have hE : EsBlk ps va vb E1 vd gY gA gB gR (u.setRow (w.heap.size + 2) #[.slice (some ⟨gY, 0, none⟩) 2 2, .slice (some ⟨gR, 0, none⟩) 2 2]) := EsBlk.setRow ⟨FY.out, FA.out, FC.out, FR.out⟩ FYl.out FAl.out FCl.out FRl.out _
    have hcell : (u.setRow (w.heap.size + 2) #[.slice (some ⟨gY, 0, none⟩) 2 2, .slice (some ⟨gR, 0, none⟩) 2 2]).heap[w.heap.size + 2]? = some (.cells #[.slice (some ⟨gY, 0, none⟩) 2 2, .slice (some ⟨gR, 0, none⟩) 2 2] 49) := RNil.setRow FNIL.out _
    go_wp2
    exact bodyPost_ret (v := esRV gY gR) (results_cell1 (p := 8) (ty := 49) rfl _ _ ⟨w.heap.size + 2, 0, none⟩ _ rfl (run_loadVar_row _ _ _ _ _ _ _ hcell Tryz.underlying49 rfl (by kernel_rfl))) rfl ⟨gY, gA, gB, gR, rfl, hE, FYl.out, FAl.out, FCl.out, FRl.out, hbF⟩
  have G1_7_10_11_18_19 : ∀ (gY : Nat) (gA : Nat) (gB : Nat) (u : World), (Hid (Below w0.heap.size w0 u)) → (Hid (IB2 u gY ps 1)) → (Hid (w.heap.size + 2 < gY)) → (Hid (IB2 u gA va vb)) → (Hid (w.heap.size + 2 < gA)) → (Hid (IB2 u gB E1 vd)) → (Hid (w.heap.size + 2 < gB)) → T 3 #[true, true, true, true, true, true, true, true, true, true, true, true, true, true, true, true, true, true, true, true, false, false, false] ((((((a0.put (some 10) (.slice (some ⟨gY, 0, none⟩) 2 2)).put (some 16) (.int .i64 va)).put (some 19) (.int .i64 vb)).put (some 20) (.slice (some ⟨gA, 0, none⟩) 2 2)).put (some 27) (.int .i64 vd)).put (some 28) (.slice (some ⟨gB, 0, none⟩) 2 2)) u := by
    intro gY gA gB u FB FY FYl FA FAl FC FCl
    have hHeld := hS.out _ FB
    rw [hT, ha0]
    try simp only [List.getElem_toArray, List.getElem_cons_zero, List.getElem_cons_succ, Act.put, List.setIfInBounds_toArray, List.set_cons_zero, List.set_cons_succ]
    refine wpT_one (i := 20) (by kernel_rfl) rfl (fun K hK => ?_)
    go_simp
    have FB2 := hBx.out _ _ FB (below_box0 u (.cells #[.slice (some ⟨gA, 0, none⟩) 2 2, .slice (some ⟨gB, 0, none⟩) 2 2] 24))
    refine hK.out _ _ ?_ (fun hHeld => ?_)
    · exact hS.out _ FB2
    clear hK K hHeld
    try simp only [List.getElem_toArray, List.getElem_cons_zero, List.getElem_cons_succ, Act.put, List.setIfInBounds_toArray, List.set_cons_zero, List.set_cons_succ]
    have hG := G1_7_10_11_18_19_20 gY gA gB u.heap.size (u.alloc (.cells #[.slice (some ⟨gA, 0, none⟩) 2 2, .slice (some ⟨gB, 0, none⟩) 2 2] 24)) FB2 (Lib.hid (FY.out.below (below_box0 u (.cells #[.slice (some ⟨gA, 0, none⟩) 2 2, .slice (some ⟨gB, 0, none⟩) 2 2] 24)))) (FYl) (Lib.hid (FA.out.below (below_box0 u (.cells #[.slice (some ⟨gA, 0, none⟩) 2 2, .slice (some ⟨gB, 0, none⟩) 2 2] 24)))) (FAl) (Lib.hid (FC.out.below (below_box0 u (.cells #[.slice (some ⟨gA, 0, none⟩) 2 2, .slice (some ⟨gB, 0, none⟩) 2 2] 24)))) (FCl) (Lib.hid (RB2.new u gA gB)) (Lib.hid (by have := FB.out.size; have := HSZ0.out; omega))
    rw [hT, ha0] at hG
    (try simp only [List.getElem_toArray, List.getElem_cons_zero, List.getElem_cons_succ, Act.put, List.setIfInBounds_toArray, List.set_cons_zero, List.set_cons_succ] at hG)
    exact hG
  have G7_10_11_18_19_20 : ∀ (gA : Nat) (gB : Nat) (gR : Nat) (u : World), (Hid (Below w0.heap.size w0 u)) → (Hid (IB2 u gA va vb)) → (Hid (w.heap.size + 2 < gA)) → (Hid (IB2 u gB E1 vd)) → (Hid (w.heap.size + 2 < gB)) → (Hid (RB2 u gR gA gB)) → (Hid (w.heap.size + 2 < gR)) → T 3 #[true, false, true, true, true, true, true, true, true, true, true, true, true, true, true, true, true, true, true, true, true, false, false] ((((((a0.put (some 16) (.int .i64 va)).put (some 19) (.int .i64 vb)).put (some 20) (.slice (some ⟨gA, 0, none⟩) 2 2)).put (some 27) (.int .i64 vd)).put (some 28) (.slice (some ⟨gB, 0, none⟩) 2 2)).put (some 29) (.slice (some ⟨gR, 0, none⟩) 2 2)) u := by
    intro gA gB gR u FB FA FAl FC FCl FR FRl
    have hHeld := hS.out _ FB
    rw [hT, ha0]
    try simp only [List.getElem_toArray, List.getElem_cons_zero, List.getElem_cons_succ, Act.put, List.setIfInBounds_toArray, List.set_cons_zero, List.set_cons_succ]
    refine wpT_one (i := 1) (by kernel_rfl) rfl (fun K hK => ?_)
    go_simp
    have FB2 := hBx.out _ _ FB (below_box0 u (.cells #[.int .i64 ps, .int .i64 1] 3))
    refine hK.out _ _ ?_ (fun hHeld => ?_)
    · exact hS.out _ FB2
    clear hK K hHeld
    try simp only [List.getElem_toArray, List.getElem_cons_zero, List.getElem_cons_succ, Act.put, List.setIfInBounds_toArray, List.set_cons_zero, List.set_cons_succ]
    have hG := G1_7_10_11_18_19_20 u.heap.size gA gB gR (u.alloc (.cells #[.int .i64 ps, .int .i64 1] 3)) FB2 (Lib.hid (IB2.new u ps 1)) (Lib.hid (by have := FB.out.size; have := HSZ0.out; omega)) (Lib.hid (FA.out.below (below_box0 u (.cells #[.int .i64 ps, .int .i64 1] 3)))) (FAl) (Lib.hid (FC.out.below (below_box0 u (.cells #[.int .i64 ps, .int .i64 1] 3)))) (FCl) (Lib.hid (FR.out.below (below_box0 u (.cells #[.int .i64 ps, .int .i64 1] 3)))) (FRl)
    rw [hT, ha0] at hG
    (try simp only [List.getElem_toArray, List.getElem_cons_zero, List.getElem_cons_succ, Act.put, List.setIfInBounds_toArray, List.set_cons_zero, List.set_cons_succ] at hG)
    exact hG
  have G1_7_10_11_18 : ∀ (gY : Nat) (gA : Nat) (u : World), (Hid (Below w0.heap.size w0 u)) → (Hid (IB2 u gY ps 1)) → (Hid (w.heap.size + 2 < gY)) → (Hid (IB2 u gA va vb)) → (Hid (w.heap.size + 2 < gA)) → T 4 #[true, true, true, true, true, true, true, true, true, true, true, true, true, true, true, true, true, true, true, false, false, false, false] (((((a0.put (some 10) (.slice (some ⟨gY, 0, none⟩) 2 2)).put (some 16) (.int .i64 va)).put (some 19) (.int .i64 vb)).put (some 20) (.slice (some ⟨gA, 0, none⟩) 2 2)).put (some 27) (.int .i64 vd)) u := by
    intro gY gA u FB FY FYl FA FAl
    have hHeld := hS.out _ FB
    rw [hT, ha0]
    try simp only [List.getElem_toArray, List.getElem_cons_zero, List.getElem_cons_succ, Act.put, List.setIfInBounds_toArray, List.set_cons_zero, List.set_cons_succ]
    refine wpT_one (i := 19) (by kernel_rfl) rfl (fun K hK => ?_)
    go_simp
    have FB2 := hBx.out _ _ FB (below_box0 u (.cells #[.int .i64 E1, .int .i64 vd] 3))
    refine hK.out _ _ ?_ (fun hHeld => ?_)
    · exact hS.out _ FB2
    clear hK K hHeld
    try simp only [List.getElem_toArray, List.getElem_cons_zero, List.getElem_cons_succ, Act.put, List.setIfInBounds_toArray, List.set_cons_zero, List.set_cons_succ]
    have hG := G1_7_10_11_18_19 gY gA u.heap.size (u.alloc (.cells #[.int .i64 E1, .int .i64 vd] 3)) FB2 (Lib.hid (FY.out.below (below_box0 u (.cells #[.int .i64 E1, .int .i64 vd] 3)))) (FYl) (Lib.hid (FA.out.below (below_box0 u (.cells #[.int .i64 E1, .int .i64 vd] 3)))) (FAl) (Lib.hid (IB2.new u E1 vd)) (Lib.hid (by have := FB.out.size; have := HSZ0.out; omega))
    rw [hT, ha0] at hG
    (try simp only [List.getElem_toArray, List.getElem_cons_zero, List.getElem_cons_succ, Act.put, List.setIfInBounds_toArray, List.set_cons_zero, List.set_cons_succ] at hG)
    exact hG
  have G1_7_10_18_19 : ∀ (gY : Nat) (gB : Nat) (u : World), (Hid (Below w0.heap.size w0 u)) → (Hid (IB2 u gY ps 1)) → (Hid (w.heap.size + 2 < gY)) → (Hid (IB2 u gB E1 vd)) → (Hid (w.heap.size + 2 < gB)) → T 4 #[true, true, true, true, true, true, true, true, true, true, true, false, true, true, true, true, true, true, true, true, false, false, false] (((((a0.put (some 10) (.slice (some ⟨gY, 0, none⟩) 2 2)).put (some 16) (.int .i64 va)).put (some 19) (.int .i64 vb)).put (some 27) (.int .i64 vd)).put (some 28) (.slice (some ⟨gB, 0, none⟩) 2 2)) u := by
    intro gY gB u FB FY FYl FC FCl
    have hHeld := hS.out _ FB
    rw [hT, ha0]
    try simp only [List.getElem_toArray, List.getElem_cons_zero, List.getElem_cons_succ, Act.put, List.setIfInBounds_toArray, List.set_cons_zero, List.set_cons_succ]
    refine wpT_one (i := 11) (by kernel_rfl) rfl (fun K hK => ?_)
    go_simp
    have FB2 := hBx.out _ _ FB (below_box0 u (.cells #[.int .i64 va, .int .i64 vb] 3))
    refine hK.out _ _ ?_ (fun hHeld => ?_)
    · exact hS.out _ FB2
    clear hK K hHeld
    try simp only [List.getElem_toArray, List.getElem_cons_zero, List.getElem_cons_succ, Act.put, List.setIfInBounds_toArray, List.set_cons_zero, List.set_cons_succ]
    have hG := G1_7_10_11_18_19 gY u.heap.size gB (u.alloc (.cells #[.int .i64 va, .int .i64 vb] 3)) FB2 (Lib.hid (FY.out.below (below_box0 u (.cells #[.int .i64 va, .int .i64 vb] 3)))) (FYl) (Lib.hid (IB2.new u va vb)) (Lib.hid (by have := FB.out.size; have := HSZ0.out; omega)) (Lib.hid (FC.out.below (below_box0 u (.cells #[.int .i64 va, .int .i64 vb] 3)))) (FCl)
    rw [hT, ha0] at hG
    (try simp only [List.getElem_toArray, List.getElem_cons_zero, List.getElem_cons_succ, Act.put, List.setIfInBounds_toArray, List.set_cons_zero, List.set_cons_succ] at hG)
    exact hG
  have G7_10_11_18_19 : ∀ (gA : Nat) (gB : Nat) (u : World), (Hid (Below w0.heap.size w0 u)) → (Hid (IB2 u gA va vb)) → (Hid (w.heap.size + 2 < gA)) → (Hid (IB2 u gB E1 vd)) → (Hid (w.heap.size + 2 < gB)) → T 4 #[true, false, true, true, true, true, true, true, true, true, true, true, true, true, true, true, true, true, true, true, false, false, false] (((((a0.put (some 16) (.int .i64 va)).put (some 19) (.int .i64 vb)).put (some 20) (.slice (some ⟨gA, 0, none⟩) 2 2)).put (some 27) (.int .i64 vd)).put (some 28) (.slice (some ⟨gB, 0, none⟩) 2 2)) u := by
    intro gA gB u FB FA FAl FC FCl
    have hHeld := hS.out _ FB
    rw [hT, ha0]
    try simp only [List.getElem_toArray, List.getElem_cons_zero, List.getElem_cons_succ, Act.put, List.setIfInBounds_toArray, List.set_cons_zero, List.set_cons_succ]
    refine wpT_two (i1 := 1) (i2 := 20) (by kernel_rfl) rfl rfl (fun K hK => ?_) (fun K hK => ?_)
    · skip
      go_simp
      have FB2 := hBx.out _ _ FB (below_box0 u (.cells #[.int .i64 ps, .int .i64 1] 3))
      refine hK.out _ _ ?_ (fun hHeld => ?_)
      · exact hS.out _ FB2
      clear hK K hHeld
      try simp only [List.getElem_toArray, List.getElem_cons_zero, List.getElem_cons_succ, Act.put, List.setIfInBounds_toArray, List.set_cons_zero, List.set_cons_succ]
      have hG := G1_7_10_11_18_19 u.heap.size gA gB (u.alloc (.cells #[.int .i64 ps, .int .i64 1] 3)) FB2 (Lib.hid (IB2.new u ps 1)) (Lib.hid (by have := FB.out.size; have := HSZ0.out; omega)) (Lib.hid (FA.out.below (below_box0 u (.cells #[.int .i64 ps, .int .i64 1] 3)))) (FAl) (Lib.hid (FC.out.below (below_box0 u (.cells #[.int .i64 ps, .int .i64 1] 3)))) (FCl)
      rw [hT, ha0] at hG
      (try simp only [List.getElem_toArray, List.getElem_cons_zero, List.getElem_cons_succ, Act.put, List.setIfInBounds_toArray, List.set_cons_zero, List.set_cons_succ] at hG)
      exact hG
    · skip
      go_simp
      have FB2 := hBx.out _ _ FB (below_box0 u (.cells #[.slice (some ⟨gA, 0, none⟩) 2 2, .slice (some ⟨gB, 0, none⟩) 2 2] 24))
      refine hK.out _ _ ?_ (fun hHeld => ?_)
      · exact hS.out _ FB2
      clear hK K hHeld
      try simp only [List.getElem_toArray, List.getElem_cons_zero, List.getElem_cons_succ, Act.put, List.setIfInBounds_toArray, List.set_cons_zero, List.set_cons_succ]
      have hG := G7_10_11_18_19_20 gA gB u.heap.size (u.alloc (.cells #[.slice (some ⟨gA, 0, none⟩) 2 2, .slice (some ⟨gB, 0, none⟩) 2 2] 24)) FB2 (Lib.hid (FA.out.below (below_box0 u (.cells #[.slice (some ⟨gA, 0, none⟩) 2 2, .slice (some ⟨gB, 0, none⟩) 2 2] 24)))) (FAl) (Lib.hid (FC.out.below (below_box0 u (.cells #[.slice (some ⟨gA, 0, none⟩) 2 2, .slice (some ⟨gB, 0, none⟩) 2 2] 24)))) (FCl) (Lib.hid (RB2.new u gA gB)) (Lib.hid (by have := FB.out.size; have := HSZ0.out; omega))
      rw [hT, ha0] at hG
      (try simp only [List.getElem_toArray, List.getElem_cons_zero, List.getElem_cons_succ, Act.put, List.setIfInBounds_toArray, List.set_cons_zero, List.set_cons_succ] at hG)
      exact hG
  have G1_7_10_11 : ∀ (gY : Nat) (gA : Nat) (u : World), (Hid (Below w0.heap.size w0 u)) → (Hid (IB2 u gY ps 1)) → (Hid (w.heap.size + 2 < gY)) → (Hid (IB2 u gA va vb)) → (Hid (w.heap.size + 2 < gA)) → T 5 #[true, true, true, true, true, true, true, true, true, true, true, true, true, true, true, true, true, true, false, false, false, false, false] ((((a0.put (some 10) (.slice (some ⟨gY, 0, none⟩) 2 2)).put (some 16) (.int .i64 va)).put (some 19) (.int .i64 vb)).put (some 20) (.slice (some ⟨gA, 0, none⟩) 2 2)) u := by
    intro gY gA u FB FY FYl FA FAl
    have hHeld := hS.out _ FB
    rw [hT, ha0]
    try simp only [List.getElem_toArray, List.getElem_cons_zero, List.getElem_cons_succ, Act.put, List.setIfInBounds_toArray, List.set_cons_zero, List.set_cons_succ]
    refine wpT_one (i := 18) (by kernel_rfl) rfl (fun K hK => ?_)
    go_simp
    refine (epower_ok P Q G X1 X2 X3 G (-1) vd ck3 hd (by omega) (by omega) _ (kV.out _ (Lib.hid FB.out))).mono ?_
    rintro e wB ⟨rfl, hq⟩
    have FB2 := hBx.out _ _ FB hq
    refine hK.out _ _ ?_ (fun hHeld => ?_)
    · exact hS.out _ FB2
    clear hK K hHeld
    try simp only [List.getElem_toArray, List.getElem_cons_zero, List.getElem_cons_succ, Act.put, List.setIfInBounds_toArray, List.set_cons_zero, List.set_cons_succ]
    have hG := G1_7_10_11_18 gY gA wB FB2 (Lib.hid (FY.out.below hq)) (FYl) (Lib.hid (FA.out.below hq)) (FAl)
    rw [hT, ha0] at hG
    (try simp only [List.getElem_toArray, List.getElem_cons_zero, List.getElem_cons_succ, Act.put, List.setIfInBounds_toArray, List.set_cons_zero, List.set_cons_succ] at hG)
    exact hG
  have G1_7_10_18 : ∀ (gY : Nat) (u : World), (Hid (Below w0.heap.size w0 u)) → (Hid (IB2 u gY ps 1)) → (Hid (w.heap.size + 2 < gY)) → T 5 #[true, true, true, true, true, true, true, true, true, true, true, false, true, true, true, true, true, true, true, false, false, false, false] ((((a0.put (some 10) (.slice (some ⟨gY, 0, none⟩) 2 2)).put (some 16) (.int .i64 va)).put (some 19) (.int .i64 vb)).put (some 27) (.int .i64 vd)) u := by
    intro gY u FB FY FYl
    have hHeld := hS.out _ FB
    rw [hT, ha0]
    try simp only [List.getElem_toArray, List.getElem_cons_zero, List.getElem_cons_succ, Act.put, List.setIfInBounds_toArray, List.set_cons_zero, List.set_cons_succ]
    refine wpT_two (i1 := 11) (i2 := 19) (by kernel_rfl) rfl rfl (fun K hK => ?_) (fun K hK => ?_)
    · skip
      go_simp
      have FB2 := hBx.out _ _ FB (below_box0 u (.cells #[.int .i64 va, .int .i64 vb] 3))
      refine hK.out _ _ ?_ (fun hHeld => ?_)
      · exact hS.out _ FB2
      clear hK K hHeld
      try simp only [List.getElem_toArray, List.getElem_cons_zero, List.getElem_cons_succ, Act.put, List.setIfInBounds_toArray, List.set_cons_zero, List.set_cons_succ]
      have hG := G1_7_10_11_18 gY u.heap.size (u.alloc (.cells #[.int .i64 va, .int .i64 vb] 3)) FB2 (Lib.hid (FY.out.below (below_box0 u (.cells #[.int .i64 va, .int .i64 vb] 3)))) (FYl) (Lib.hid (IB2.new u va vb)) (Lib.hid (by have := FB.out.size; have := HSZ0.out; omega))
      rw [hT, ha0] at hG
      (try simp only [List.getElem_toArray, List.getElem_cons_zero, List.getElem_cons_succ, Act.put, List.setIfInBounds_toArray, List.set_cons_zero, List.set_cons_succ] at hG)
      exact hG
    · skip
      go_simp
      have FB2 := hBx.out _ _ FB (below_box0 u (.cells #[.int .i64 E1, .int .i64 vd] 3))
      refine hK.out _ _ ?_ (fun hHeld => ?_)
      · exact hS.out _ FB2
      clear hK K hHeld
      try simp only [List.getElem_toArray, List.getElem_cons_zero, List.getElem_cons_succ, Act.put, List.setIfInBounds_toArray, List.set_cons_zero, List.set_cons_succ]
      have hG := G1_7_10_18_19 gY u.heap.size (u.alloc (.cells #[.int .i64 E1, .int .i64 vd] 3)) FB2 (Lib.hid (FY.out.below (below_box0 u (.cells #[.int .i64 E1, .int .i64 vd] 3)))) (FYl) (Lib.hid (IB2.new u E1 vd)) (Lib.hid (by have := FB.out.size; have := HSZ0.out; omega))
      rw [hT, ha0] at hG
      (try simp only [List.getElem_toArray, List.getElem_cons_zero, List.getElem_cons_succ, Act.put, List.setIfInBounds_toArray, List.set_cons_zero, List.set_cons_succ] at hG)
      exact hG
  have G7_10_11_18 : ∀ (gA : Nat) (u : World), (Hid (Below w0.heap.size w0 u)) → (Hid (IB2 u gA va vb)) → (Hid (w.heap.size + 2 < gA)) → T 5 #[true, false, true, true, true, true, true, true, true, true, true, true, true, true, true, true, true, true, true, false, false, false, false] ((((a0.put (some 16) (.int .i64 va)).put (some 19) (.int .i64 vb)).put (some 20) (.slice (some ⟨gA, 0, none⟩) 2 2)).put (some 27) (.int .i64 vd)) u := by
    intro gA u FB FA FAl
    have hHeld := hS.out _ FB
    rw [hT, ha0]
    try simp only [List.getElem_toArray, List.getElem_cons_zero, List.getElem_cons_succ, Act.put, List.setIfInBounds_toArray, List.set_cons_zero, List.set_cons_succ]
    refine wpT_two (i1 := 1) (i2 := 19) (by kernel_rfl) rfl rfl (fun K hK => ?_) (fun K hK => ?_)
    · skip
      go_simp
      have FB2 := hBx.out _ _ FB (below_box0 u (.cells #[.int .i64 ps, .int .i64 1] 3))
      refine hK.out _ _ ?_ (fun hHeld => ?_)
      · exact hS.out _ FB2
      clear hK K hHeld
      try simp only [List.getElem_toArray, List.getElem_cons_zero, List.getElem_cons_succ, Act.put, List.setIfInBounds_toArray, List.set_cons_zero, List.set_cons_succ]
      have hG := G1_7_10_11_18 u.heap.size gA (u.alloc (.cells #[.int .i64 ps, .int .i64 1] 3)) FB2 (Lib.hid (IB2.new u ps 1)) (Lib.hid (by have := FB.out.size; have := HSZ0.out; omega)) (Lib.hid (FA.out.below (below_box0 u (.cells #[.int .i64 ps, .int .i64 1] 3)))) (FAl)
      rw [hT, ha0] at hG
      (try simp only [List.getElem_toArray, List.getElem_cons_zero, List.getElem_cons_succ, Act.put, List.setIfInBounds_toArray, List.set_cons_zero, List.set_cons_succ] at hG)
      exact hG
    · skip
      go_simp
      have FB2 := hBx.out _ _ FB (below_box0 u (.cells #[.int .i64 E1, .int .i64 vd] 3))
      refine hK.out _ _ ?_ (fun hHeld => ?_)
      · exact hS.out _ FB2
      clear hK K hHeld
      try simp only [List.getElem_toArray, List.getElem_cons_zero, List.getElem_cons_succ, Act.put, List.setIfInBounds_toArray, List.set_cons_zero, List.set_cons_succ]
      have hG := G7_10_11_18_19 gA u.heap.size (u.alloc (.cells #[.int .i64 E1, .int .i64 vd] 3)) FB2 (Lib.hid (FA.out.below (below_box0 u (.cells #[.int .i64 E1, .int .i64 vd] 3)))) (FAl) (Lib.hid (IB2.new u E1 vd)) (Lib.hid (by have := FB.out.size; have := HSZ0.out; omega))
      rw [hT, ha0] at hG
      (try simp only [List.getElem_toArray, List.getElem_cons_zero, List.getElem_cons_succ, Act.put, List.setIfInBounds_toArray, List.set_cons_zero, List.set_cons_succ] at hG)
      exact hG
  have G7_10_18_19 : ∀ (gB : Nat) (u : World), (Hid (Below w0.heap.size w0 u)) → (Hid (IB2 u gB E1 vd)) → (Hid (w.heap.size + 2 < gB)) → T 5 #[true, false, true, true, true, true, true, true, true, true, true, false, true, true, true, true, true, true, true, true, false, false, false] ((((a0.put (some 16) (.int .i64 va)).put (some 19) (.int .i64 vb)).put (some 27) (.int .i64 vd)).put (some 28) (.slice (some ⟨gB, 0, none⟩) 2 2)) u := by
    intro gB u FB FC FCl
    have hHeld := hS.out _ FB
    rw [hT, ha0]
    try simp only [List.getElem_toArray, List.getElem_cons_zero, List.getElem_cons_succ, Act.put, List.setIfInBounds_toArray, List.set_cons_zero, List.set_cons_succ]
    refine wpT_two (i1 := 1) (i2 := 11) (by kernel_rfl) rfl rfl (fun K hK => ?_) (fun K hK => ?_)
    · skip
      go_simp
      have FB2 := hBx.out _ _ FB (below_box0 u (.cells #[.int .i64 ps, .int .i64 1] 3))
      refine hK.out _ _ ?_ (fun hHeld => ?_)
      · exact hS.out _ FB2
      clear hK K hHeld
      try simp only [List.getElem_toArray, List.getElem_cons_zero, List.getElem_cons_succ, Act.put, List.setIfInBounds_toArray, List.set_cons_zero, List.set_cons_succ]
      have hG := G1_7_10_18_19 u.heap.size gB (u.alloc (.cells #[.int .i64 ps, .int .i64 1] 3)) FB2 (Lib.hid (IB2.new u ps 1)) (Lib.hid (by have := FB.out.size; have := HSZ0.out; omega)) (Lib.hid (FC.out.below (below_box0 u (.cells #[.int .i64 ps, .int .i64 1] 3)))) (FCl)
      rw [hT, ha0] at hG
      (try simp only [List.getElem_toArray, List.getElem_cons_zero, List.getElem_cons_succ, Act.put, List.setIfInBounds_toArray, List.set_cons_zero, List.set_cons_succ] at hG)
      exact hG
    · skip
      go_simp
      have FB2 := hBx.out _ _ FB (below_box0 u (.cells #[.int .i64 va, .int .i64 vb] 3))
      refine hK.out _ _ ?_ (fun hHeld => ?_)
      · exact hS.out _ FB2
      clear hK K hHeld
      try simp only [List.getElem_toArray, List.getElem_cons_zero, List.getElem_cons_succ, Act.put, List.setIfInBounds_toArray, List.set_cons_zero, List.set_cons_succ]
      have hG := G7_10_11_18_19 u.heap.size gB (u.alloc (.cells #[.int .i64 va, .int .i64 vb] 3)) FB2 (Lib.hid (IB2.new u va vb)) (Lib.hid (by have := FB.out.size; have := HSZ0.out; omega)) (Lib.hid (FC.out.below (below_box0 u (.cells #[.int .i64 va, .int .i64 vb] 3)))) (FCl)
      rw [hT, ha0] at hG
      (try simp only [List.getElem_toArray, List.getElem_cons_zero, List.getElem_cons_succ, Act.put, List.setIfInBounds_toArray, List.set_cons_zero, List.set_cons_succ] at hG)
      exact hG
  have G1_7_10 : ∀ (gY : Nat) (u : World), (Hid (Below w0.heap.size w0 u)) → (Hid (IB2 u gY ps 1)) → (Hid (w.heap.size + 2 < gY)) → T 6 #[true, true, true, true, true, true, true, true, true, true, true, false, true, true, true, true, true, true, false, false, false, false, false] (((a0.put (some 10) (.slice (some ⟨gY, 0, none⟩) 2 2)).put (some 16) (.int .i64 va)).put (some 19) (.int .i64 vb)) u := by
    intro gY u FB FY FYl
    have hHeld := hS.out _ FB
    rw [hT, ha0]
    try simp only [List.getElem_toArray, List.getElem_cons_zero, List.getElem_cons_succ, Act.put, List.setIfInBounds_toArray, List.set_cons_zero, List.set_cons_succ]
    refine wpT_two (i1 := 11) (i2 := 18) (by kernel_rfl) rfl rfl (fun K hK => ?_) (fun K hK => ?_)
    · skip
      go_simp
      have FB2 := hBx.out _ _ FB (below_box0 u (.cells #[.int .i64 va, .int .i64 vb] 3))
      refine hK.out _ _ ?_ (fun hHeld => ?_)
      · exact hS.out _ FB2
      clear hK K hHeld
      try simp only [List.getElem_toArray, List.getElem_cons_zero, List.getElem_cons_succ, Act.put, List.setIfInBounds_toArray, List.set_cons_zero, List.set_cons_succ]
      have hG := G1_7_10_11 gY u.heap.size (u.alloc (.cells #[.int .i64 va, .int .i64 vb] 3)) FB2 (Lib.hid (FY.out.below (below_box0 u (.cells #[.int .i64 va, .int .i64 vb] 3)))) (FYl) (Lib.hid (IB2.new u va vb)) (Lib.hid (by have := FB.out.size; have := HSZ0.out; omega))
      rw [hT, ha0] at hG
      (try simp only [List.getElem_toArray, List.getElem_cons_zero, List.getElem_cons_succ, Act.put, List.setIfInBounds_toArray, List.set_cons_zero, List.set_cons_succ] at hG)
      exact hG
    · skip
      go_simp
      refine (epower_ok P Q G X1 X2 X3 G (-1) vd ck3 hd (by omega) (by omega) _ (kV.out _ (Lib.hid FB.out))).mono ?_
      rintro e wB ⟨rfl, hq⟩
      have FB2 := hBx.out _ _ FB hq
      refine hK.out _ _ ?_ (fun hHeld => ?_)
      · exact hS.out _ FB2
      clear hK K hHeld
      try simp only [List.getElem_toArray, List.getElem_cons_zero, List.getElem_cons_succ, Act.put, List.setIfInBounds_toArray, List.set_cons_zero, List.set_cons_succ]
      have hG := G1_7_10_18 gY wB FB2 (Lib.hid (FY.out.below hq)) (FYl)
      rw [hT, ha0] at hG
      (try simp only [List.getElem_toArray, List.getElem_cons_zero, List.getElem_cons_succ, Act.put, List.setIfInBounds_toArray, List.set_cons_zero, List.set_cons_succ] at hG)
      exact hG
  have G7_10_11 : ∀ (gA : Nat) (u : World), (Hid (Below w0.heap.size w0 u)) → (Hid (IB2 u gA va vb)) → (Hid (w.heap.size + 2 < gA)) → T 6 #[true, false, true, true, true, true, true, true, true, true, true, true, true, true, true, true, true, true, false, false, false, false, false] (((a0.put (some 16) (.int .i64 va)).put (some 19) (.int .i64 vb)).put (some 20) (.slice (some ⟨gA, 0, none⟩) 2 2)) u := by
    intro gA u FB FA FAl
    have hHeld := hS.out _ FB
    rw [hT, ha0]
    try simp only [List.getElem_toArray, List.getElem_cons_zero, List.getElem_cons_succ, Act.put, List.setIfInBounds_toArray, List.set_cons_zero, List.set_cons_succ]
    refine wpT_two (i1 := 1) (i2 := 18) (by kernel_rfl) rfl rfl (fun K hK => ?_) (fun K hK => ?_)
    · skip
      go_simp
      have FB2 := hBx.out _ _ FB (below_box0 u (.cells #[.int .i64 ps, .int .i64 1] 3))
      refine hK.out _ _ ?_ (fun hHeld => ?_)
      · exact hS.out _ FB2
      clear hK K hHeld
      try simp only [List.getElem_toArray, List.getElem_cons_zero, List.getElem_cons_succ, Act.put, List.setIfInBounds_toArray, List.set_cons_zero, List.set_cons_succ]
      have hG := G1_7_10_11 u.heap.size gA (u.alloc (.cells #[.int .i64 ps, .int .i64 1] 3)) FB2 (Lib.hid (IB2.new u ps 1)) (Lib.hid (by have := FB.out.size; have := HSZ0.out; omega)) (Lib.hid (FA.out.below (below_box0 u (.cells #[.int .i64 ps, .int .i64 1] 3)))) (FAl)
      rw [hT, ha0] at hG
      (try simp only [List.getElem_toArray, List.getElem_cons_zero, List.getElem_cons_succ, Act.put, List.setIfInBounds_toArray, List.set_cons_zero, List.set_cons_succ] at hG)
      exact hG
    · skip
      go_simp
      refine (epower_ok P Q G X1 X2 X3 G (-1) vd ck3 hd (by omega) (by omega) _ (kV.out _ (Lib.hid FB.out))).mono ?_
      rintro e wB ⟨rfl, hq⟩
      have FB2 := hBx.out _ _ FB hq
      refine hK.out _ _ ?_ (fun hHeld => ?_)
      · exact hS.out _ FB2
      clear hK K hHeld
      try simp only [List.getElem_toArray, List.getElem_cons_zero, List.getElem_cons_succ, Act.put, List.setIfInBounds_toArray, List.set_cons_zero, List.set_cons_succ]
      have hG := G7_10_11_18 gA wB FB2 (Lib.hid (FA.out.below hq)) (FAl)
      rw [hT, ha0] at hG
      (try simp only [List.getElem_toArray, List.getElem_cons_zero, List.getElem_cons_succ, Act.put, List.setIfInBounds_toArray, List.set_cons_zero, List.set_cons_succ] at hG)
      exact hG
  have G7_10_18 : ∀  (u : World), (Hid (Below w0.heap.size w0 u)) → T 6 #[true, false, true, true, true, true, true, true, true, true, true, false, true, true, true, true, true, true, true, false, false, false, false] (((a0.put (some 16) (.int .i64 va)).put (some 19) (.int .i64 vb)).put (some 27) (.int .i64 vd)) u := by
    intro  u FB
    have hHeld := hS.out _ FB
    rw [hT, ha0]
    try simp only [List.getElem_toArray, List.getElem_cons_zero, List.getElem_cons_succ, Act.put, List.setIfInBounds_toArray, List.set_cons_zero, List.set_cons_succ]
    refine wpT_three (i1 := 1) (i2 := 11) (i3 := 19) (by kernel_rfl) rfl rfl rfl (fun K hK => ?_) (fun K hK => ?_) (fun K hK => ?_)
    · skip
      go_simp
      have FB2 := hBx.out _ _ FB (below_box0 u (.cells #[.int .i64 ps, .int .i64 1] 3))
      refine hK.out _ _ ?_ (fun hHeld => ?_)
      · exact hS.out _ FB2
      clear hK K hHeld
      try simp only [List.getElem_toArray, List.getElem_cons_zero, List.getElem_cons_succ, Act.put, List.setIfInBounds_toArray, List.set_cons_zero, List.set_cons_succ]
      have hG := G1_7_10_18 u.heap.size (u.alloc (.cells #[.int .i64 ps, .int .i64 1] 3)) FB2 (Lib.hid (IB2.new u ps 1)) (Lib.hid (by have := FB.out.size; have := HSZ0.out; omega))
      rw [hT, ha0] at hG
      (try simp only [List.getElem_toArray, List.getElem_cons_zero, List.getElem_cons_succ, Act.put, List.setIfInBounds_toArray, List.set_cons_zero, List.set_cons_succ] at hG)
      exact hG
    · skip
      go_simp
      have FB2 := hBx.out _ _ FB (below_box0 u (.cells #[.int .i64 va, .int .i64 vb] 3))
      refine hK.out _ _ ?_ (fun hHeld => ?_)
      · exact hS.out _ FB2
      clear hK K hHeld
      try simp only [List.getElem_toArray, List.getElem_cons_zero, List.getElem_cons_succ, Act.put, List.setIfInBounds_toArray, List.set_cons_zero, List.set_cons_succ]
      have hG := G7_10_11_18 u.heap.size (u.alloc (.cells #[.int .i64 va, .int .i64 vb] 3)) FB2 (Lib.hid (IB2.new u va vb)) (Lib.hid (by have := FB.out.size; have := HSZ0.out; omega))
      rw [hT, ha0] at hG
      (try simp only [List.getElem_toArray, List.getElem_cons_zero, List.getElem_cons_succ, Act.put, List.setIfInBounds_toArray, List.set_cons_zero, List.set_cons_succ] at hG)
      exact hG
    · skip
      go_simp
      have FB2 := hBx.out _ _ FB (below_box0 u (.cells #[.int .i64 E1, .int .i64 vd] 3))
      refine hK.out _ _ ?_ (fun hHeld => ?_)
      · exact hS.out _ FB2
      clear hK K hHeld
      try simp only [List.getElem_toArray, List.getElem_cons_zero, List.getElem_cons_succ, Act.put, List.setIfInBounds_toArray, List.set_cons_zero, List.set_cons_succ]
      have hG := G7_10_18_19 u.heap.size (u.alloc (.cells #[.int .i64 E1, .int .i64 vd] 3)) FB2 (Lib.hid (IB2.new u E1 vd)) (Lib.hid (by have := FB.out.size; have := HSZ0.out; omega))
      rw [hT, ha0] at hG
      (try simp only [List.getElem_toArray, List.getElem_cons_zero, List.getElem_cons_succ, Act.put, List.setIfInBounds_toArray, List.set_cons_zero, List.set_cons_succ] at hG)
      exact hG
  have G1_7 : ∀ (gY : Nat) (u : World), (Hid (Below w0.heap.size w0 u)) → (Hid (IB2 u gY ps 1)) → (Hid (w.heap.size + 2 < gY)) → T 7 #[true, true, true, true, true, true, true, true, true, true, false, false, true, true, true, true, true, true, false, false, false, false, false] ((a0.put (some 10) (.slice (some ⟨gY, 0, none⟩) 2 2)).put (some 16) (.int .i64 va)) u := by
    intro gY u FB FY FYl
    have hHeld := hS.out _ FB
    rw [hT, ha0]
    try simp only [List.getElem_toArray, List.getElem_cons_zero, List.getElem_cons_succ, Act.put, List.setIfInBounds_toArray, List.set_cons_zero, List.set_cons_succ]
    refine wpT_one (i := 10) (by kernel_rfl) rfl (fun K hK => ?_)
    go_simp
    refine (epower_ok P Q G X1 X2 X3 y (-1) vb ck2 hb (by omega) (by omega) _ (kV.out _ (Lib.hid FB.out))).mono ?_
    rintro e wB ⟨rfl, hq⟩
    have FB2 := hBx.out _ _ FB hq
    refine hK.out _ _ ?_ (fun hHeld => ?_)
    · exact hS.out _ FB2
    clear hK K hHeld
    try simp only [List.getElem_toArray, List.getElem_cons_zero, List.getElem_cons_succ, Act.put, List.setIfInBounds_toArray, List.set_cons_zero, List.set_cons_succ]
    have hG := G1_7_10 gY wB FB2 (Lib.hid (FY.out.below hq)) (FYl)
    rw [hT, ha0] at hG
    (try simp only [List.getElem_toArray, List.getElem_cons_zero, List.getElem_cons_succ, Act.put, List.setIfInBounds_toArray, List.set_cons_zero, List.set_cons_succ] at hG)
    exact hG
  have G7_10 : ∀  (u : World), (Hid (Below w0.heap.size w0 u)) → T 7 #[true, false, true, true, true, true, true, true, true, true, true, false, true, true, true, true, true, true, false, false, false, false, false] ((a0.put (some 16) (.int .i64 va)).put (some 19) (.int .i64 vb)) u := by
    intro  u FB
    have hHeld := hS.out _ FB
    rw [hT, ha0]
    try simp only [List.getElem_toArray, List.getElem_cons_zero, List.getElem_cons_succ, Act.put, List.setIfInBounds_toArray, List.set_cons_zero, List.set_cons_succ]
    refine wpT_three (i1 := 1) (i2 := 11) (i3 := 18) (by kernel_rfl) rfl rfl rfl (fun K hK => ?_) (fun K hK => ?_) (fun K hK => ?_)
    · skip
      go_simp
      have FB2 := hBx.out _ _ FB (below_box0 u (.cells #[.int .i64 ps, .int .i64 1] 3))
      refine hK.out _ _ ?_ (fun hHeld => ?_)
      · exact hS.out _ FB2
      clear hK K hHeld
      try simp only [List.getElem_toArray, List.getElem_cons_zero, List.getElem_cons_succ, Act.put, List.setIfInBounds_toArray, List.set_cons_zero, List.set_cons_succ]
      have hG := G1_7_10 u.heap.size (u.alloc (.cells #[.int .i64 ps, .int .i64 1] 3)) FB2 (Lib.hid (IB2.new u ps 1)) (Lib.hid (by have := FB.out.size; have := HSZ0.out; omega))
      rw [hT, ha0] at hG
      (try simp only [List.getElem_toArray, List.getElem_cons_zero, List.getElem_cons_succ, Act.put, List.setIfInBounds_toArray, List.set_cons_zero, List.set_cons_succ] at hG)
      exact hG
    · skip
      go_simp
      have FB2 := hBx.out _ _ FB (below_box0 u (.cells #[.int .i64 va, .int .i64 vb] 3))
      refine hK.out _ _ ?_ (fun hHeld => ?_)
      · exact hS.out _ FB2
      clear hK K hHeld
      try simp only [List.getElem_toArray, List.getElem_cons_zero, List.getElem_cons_succ, Act.put, List.setIfInBounds_toArray, List.set_cons_zero, List.set_cons_succ]
      have hG := G7_10_11 u.heap.size (u.alloc (.cells #[.int .i64 va, .int .i64 vb] 3)) FB2 (Lib.hid (IB2.new u va vb)) (Lib.hid (by have := FB.out.size; have := HSZ0.out; omega))
      rw [hT, ha0] at hG
      (try simp only [List.getElem_toArray, List.getElem_cons_zero, List.getElem_cons_succ, Act.put, List.setIfInBounds_toArray, List.set_cons_zero, List.set_cons_succ] at hG)
      exact hG
    · skip
      go_simp
      refine (epower_ok P Q G X1 X2 X3 G (-1) vd ck3 hd (by omega) (by omega) _ (kV.out _ (Lib.hid FB.out))).mono ?_
      rintro e wB ⟨rfl, hq⟩
      have FB2 := hBx.out _ _ FB hq
      refine hK.out _ _ ?_ (fun hHeld => ?_)
      · exact hS.out _ FB2
      clear hK K hHeld
      try simp only [List.getElem_toArray, List.getElem_cons_zero, List.getElem_cons_succ, Act.put, List.setIfInBounds_toArray, List.set_cons_zero, List.set_cons_succ]
      have hG := G7_10_18  wB FB2
      rw [hT, ha0] at hG
      (try simp only [List.getElem_toArray, List.getElem_cons_zero, List.getElem_cons_succ, Act.put, List.setIfInBounds_toArray, List.set_cons_zero, List.set_cons_succ] at hG)
      exact hG
  have G1 : ∀ (gY : Nat) (u : World), (Hid (Below w0.heap.size w0 u)) → (Hid (IB2 u gY ps 1)) → (Hid (w.heap.size + 2 < gY)) → T 8 #[true, true, true, true, true, true, true, false, true, true, false, false, true, true, true, true, true, true, false, false, false, false, false] (a0.put (some 10) (.slice (some ⟨gY, 0, none⟩) 2 2)) u := by
    intro gY u FB FY FYl
    have hHeld := hS.out _ FB
    rw [hT, ha0]
    try simp only [List.getElem_toArray, List.getElem_cons_zero, List.getElem_cons_succ, Act.put, List.setIfInBounds_toArray, List.set_cons_zero, List.set_cons_succ]
    refine wpT_one (i := 7) (by kernel_rfl) rfl (fun K hK => ?_)
    go_simp
    refine (etimes_ok P Q G X1 X2 X3 E2 X2 va ck1 ha hQ _ (kV.out _ (Lib.hid FB.out))).mono ?_
    rintro e wB ⟨rfl, hq⟩
    have FB2 := hBx.out _ _ FB hq
    refine hK.out _ _ ?_ (fun hHeld => ?_)
    · exact hS.out _ FB2
    clear hK K hHeld
    try simp only [List.getElem_toArray, List.getElem_cons_zero, List.getElem_cons_succ, Act.put, List.setIfInBounds_toArray, List.set_cons_zero, List.set_cons_succ]
    have hG := G1_7 gY wB FB2 (Lib.hid (FY.out.below hq)) (FYl)
    rw [hT, ha0] at hG
    (try simp only [List.getElem_toArray, List.getElem_cons_zero, List.getElem_cons_succ, Act.put, List.setIfInBounds_toArray, List.set_cons_zero, List.set_cons_succ] at hG)
    exact hG
  have G7 : ∀  (u : World), (Hid (Below w0.heap.size w0 u)) → T 8 #[true, false, true, true, true, true, true, true, true, true, false, false, true, true, true, true, true, true, false, false, false, false, false] (a0.put (some 16) (.int .i64 va)) u := by
    intro  u FB
    have hHeld := hS.out _ FB
    rw [hT, ha0]
    try simp only [List.getElem_toArray, List.getElem_cons_zero, List.getElem_cons_succ, Act.put, List.setIfInBounds_toArray, List.set_cons_zero, List.set_cons_succ]
    refine wpT_two (i1 := 1) (i2 := 10) (by kernel_rfl) rfl rfl (fun K hK => ?_) (fun K hK => ?_)
    · skip
      go_simp
      have FB2 := hBx.out _ _ FB (below_box0 u (.cells #[.int .i64 ps, .int .i64 1] 3))
      refine hK.out _ _ ?_ (fun hHeld => ?_)
      · exact hS.out _ FB2
      clear hK K hHeld
      try simp only [List.getElem_toArray, List.getElem_cons_zero, List.getElem_cons_succ, Act.put, List.setIfInBounds_toArray, List.set_cons_zero, List.set_cons_succ]
      have hG := G1_7 u.heap.size (u.alloc (.cells #[.int .i64 ps, .int .i64 1] 3)) FB2 (Lib.hid (IB2.new u ps 1)) (Lib.hid (by have := FB.out.size; have := HSZ0.out; omega))
      rw [hT, ha0] at hG
      (try simp only [List.getElem_toArray, List.getElem_cons_zero, List.getElem_cons_succ, Act.put, List.setIfInBounds_toArray, List.set_cons_zero, List.set_cons_succ] at hG)
      exact hG
    · skip
      go_simp
      refine (epower_ok P Q G X1 X2 X3 y (-1) vb ck2 hb (by omega) (by omega) _ (kV.out _ (Lib.hid FB.out))).mono ?_
      rintro e wB ⟨rfl, hq⟩
      have FB2 := hBx.out _ _ FB hq
      refine hK.out _ _ ?_ (fun hHeld => ?_)
      · exact hS.out _ FB2
      clear hK K hHeld
      try simp only [List.getElem_toArray, List.getElem_cons_zero, List.getElem_cons_succ, Act.put, List.setIfInBounds_toArray, List.set_cons_zero, List.set_cons_succ]
      have hG := G7_10  wB FB2
      rw [hT, ha0] at hG
      (try simp only [List.getElem_toArray, List.getElem_cons_zero, List.getElem_cons_succ, Act.put, List.setIfInBounds_toArray, List.set_cons_zero, List.set_cons_succ] at hG)
      exact hG
  have G0 : ∀  (u : World), (Hid (Below w0.heap.size w0 u)) → T 9 #[true, false, true, true, true, true, true, false, true, true, false, false, true, true, true, true, true, true, false, false, false, false, false] a0 u := by
    intro  u FB
    have hHeld := hS.out _ FB
    rw [hT, ha0]
    try simp only [List.getElem_toArray, List.getElem_cons_zero, List.getElem_cons_succ, Act.put, List.setIfInBounds_toArray, List.set_cons_zero, List.set_cons_succ]
    refine wpT_two (i1 := 1) (i2 := 7) (by kernel_rfl) rfl rfl (fun K hK => ?_) (fun K hK => ?_)
    · skip
      go_simp
      have FB2 := hBx.out _ _ FB (below_box0 u (.cells #[.int .i64 ps, .int .i64 1] 3))
      refine hK.out _ _ ?_ (fun hHeld => ?_)
      · exact hS.out _ FB2
      clear hK K hHeld
      try simp only [List.getElem_toArray, List.getElem_cons_zero, List.getElem_cons_succ, Act.put, List.setIfInBounds_toArray, List.set_cons_zero, List.set_cons_succ]
      have hG := G1 u.heap.size (u.alloc (.cells #[.int .i64 ps, .int .i64 1] 3)) FB2 (Lib.hid (IB2.new u ps 1)) (Lib.hid (by have := FB.out.size; have := HSZ0.out; omega))
      rw [hT, ha0] at hG
      (try simp only [List.getElem_toArray, List.getElem_cons_zero, List.getElem_cons_succ, Act.put, List.setIfInBounds_toArray, List.set_cons_zero, List.set_cons_succ] at hG)
      exact hG
    · skip
      go_simp
      refine (etimes_ok P Q G X1 X2 X3 E2 X2 va ck1 ha hQ _ (kV.out _ (Lib.hid FB.out))).mono ?_
      rintro e wB ⟨rfl, hq⟩
      have FB2 := hBx.out _ _ FB hq
      refine hK.out _ _ ?_ (fun hHeld => ?_)
      · exact hS.out _ FB2
      clear hK K hHeld
      try simp only [List.getElem_toArray, List.getElem_cons_zero, List.getElem_cons_succ, Act.put, List.setIfInBounds_toArray, List.set_cons_zero, List.set_cons_succ]
      have hG := G7  wB FB2
      rw [hT, ha0] at hG
      (try simp only [List.getElem_toArray, List.getElem_cons_zero, List.getElem_cons_succ, Act.put, List.setIfInBounds_toArray, List.set_cons_zero, List.set_cons_succ] at hG)
      exact hG
  exact G0 _ HBD
end Go.Proofs.YtojedhnglobddaaGreatDoor
namespace Go.Proofs.YtojedhnglobddaaGreatDoor
open Go.RowKit SpM
set_option linter.unusedVariables false
set_option linter.unusedSimpArgs false
set_option maxRecDepth 100000
/-- the first error of an escrow's relation. -/
def esE (P Q G X1 X2 X3 y ps E1 E2 : Int) : Int := if validB P Q G X1 X2 X3 = true then (if (okB P Q y && (okB P Q ps && (memG P Q E1 && memG P Q E2))) = true then 0 else 2) else 1
/-- which escrows are verified. -/
def esVer (P Q G X1 X2 X3 y ps E1 E2 C : Int) (lb al zs : List Int) : Bool := esE P Q G X1 X2 X3 y ps E1 E2 == 0 && verL P Q G C lb [ps, 1] (esRows none none (E2 * X2 % P) (pw y ((Q - 1) % Q) P) E1 (pw G ((Q - 1) % Q) P)) al zs
theorem verL_esaddr {P Q G a b c d C : Int} {lb ys al zs : List Int} (A1 B1 : Option Addr) : verL P Q G C lb ys (esRows A1 B1 a b c d) al zs = verL P Q G C lb ys (esRows none none a b c d) al zs := rfl
def EsRelT (ps a b c d : Int) (w : World) (e : Ending) (w' : World) : Prop := ∃ gY gA gB gR, e = .returned (.tuple #[esRV gY gR, .int .i64 0]) ∧ EsBlk ps a b c d gY gA gB gR w' ∧ Below w.heap.size w w'
theorem okB_mem {P Q x : Int} (h : okB P Q x = true) : memG P Q x = true := by
  unfold okB at h
  simp only [Bool.and_eq_true] at h
  exact h.2
theorem con_of {P Q G x : Int} {b : Bool} (h : validG P Q G = true) (h2 : memG P Q x = b) : conG P Q G x = b := by rw [conG, h, h2]; rfl
theorem gen_mem {P Q G : Int} (h : validG P Q G = true) : memG P Q G = true := by
  obtain ⟨h1, h2, h3, h4⟩ := validG_P h
  simp [validG] at h
  simp [memG]
  omega
set_option maxHeartbeats 6400000 in
theorem escR_n (P Q G X1 X2 X3 : Int) (y ps : Int) (E1 E2 : Int) (A : Option Addr) (na ca : Nat) (C : Int) (Z : Option Addr) (nz cz : Nat) (hval : Hid (validB P Q G X1 X2 X3 = false)) (hQ : Q < 9223372036854775808) (w : World) (hv : Hid (Vars w)) :
    Calls Tryz.prog 19 #[bv P Q G X1 X2 X3, .int .i64 y, .int .i64 ps, esV E1 E2 A na ca C Z nz cz] w fun e' w' => e' = .returned (.tuple #[relV none 0 0 none 0 0, .int .i64 1]) ∧ Below w.heap.size w w' := by
  obtain ⟨w0, HW, HBw, kC⟩ := stBER P Q G X1 X2 X3 E1 E2 A na ca C Z nz cz w
  have kV := Lib.hid (show ∀ u : World, Hid (Below w0.heap.size w0 u) → Hid (Vars u) from fun u h => Lib.hid ((hv.out.below) (below_ext HBw.out h.out)))
  have HB_0 : Hid (Below w0.heap.size w0 w0) := Lib.hid (Below.refl _ _)
  clear hv
  go_enter Tryz.func19, Tryz.ntmps19
  go_wp2_with fail
  rw [HW.out]
  obtain ⟨zc0, zc1, zc2, zc3, zc4, zc5, zc6, zc7, zc8, zc9, zc10, ⟨zc11, zf11⟩, ⟨zc12, zf12⟩⟩ := kC.out _ HB_0
  go_wp2_with fail
  refine (bvalid_any P Q G X1 X2 X3 false hval hQ _ (kV.out _ HB_0)).mono ?_
  rintro e w1 ⟨rfl, hb0⟩
  have HB_1 := Lib.hid (below_ext HB_0.out hb0)
  clear zc0 zc1 zc2 zc3 zc4 zc5 zc6 zc7 zc8 zc9 zc10 zc11 zf11 zc12 zf12
  clear hb0
  obtain ⟨zc0, zc1, zc2, zc3, zc4, zc5, zc6, zc7, zc8, zc9, zc10, ⟨zc11, zf11⟩, ⟨zc12, zf12⟩⟩ := kC.out _ HB_1
  have hbF := below_ext HBw.out HB_1.out
  go_wp2
  exact bodyPost_ret (v := .tuple #[relV none 0 0 none 0 0, .int .i64 1]) (by simp [results, Tryz.results19, go_sem, zc11, zc12]) rfl ⟨rfl, below_set2' hbF (by omega) _ _⟩
set_option maxHeartbeats 6400000 in
theorem escR_0 (P Q G X1 X2 X3 : Int) (y ps : Int) (E1 E2 : Int) (A : Option Addr) (na ca : Nat) (C : Int) (Z : Option Addr) (nz cz : Nat) (hval : Hid (validB P Q G X1 X2 X3 = true)) (m0 : Hid (okB P Q y = false)) (hQ : Q < 9223372036854775808) (w : World) (hv : Hid (Vars w)) :
    Calls Tryz.prog 19 #[bv P Q G X1 X2 X3, .int .i64 y, .int .i64 ps, esV E1 E2 A na ca C Z nz cz] w fun e' w' => e' = .returned (.tuple #[relV none 0 0 none 0 0, .int .i64 2]) ∧ Below w.heap.size w w' := by
  have HVG := Lib.hid (validB_parts hval.out).1
  obtain ⟨w0, HW, HBw, kC⟩ := stBER P Q G X1 X2 X3 E1 E2 A na ca C Z nz cz w
  have kV := Lib.hid (show ∀ u : World, Hid (Below w0.heap.size w0 u) → Hid (Vars u) from fun u h => Lib.hid ((hv.out.below) (below_ext HBw.out h.out)))
  have HB_0 : Hid (Below w0.heap.size w0 w0) := Lib.hid (Below.refl _ _)
  clear hv
  go_enter Tryz.func19, Tryz.ntmps19
  go_wp2_with fail
  rw [HW.out]
  obtain ⟨zc0, zc1, zc2, zc3, zc4, zc5, zc6, zc7, zc8, zc9, zc10, ⟨zc11, zf11⟩, ⟨zc12, zf12⟩⟩ := kC.out _ HB_0
  go_wp2_with fail
  refine (bvalid_any P Q G X1 X2 X3 true hval hQ _ (kV.out _ HB_0)).mono ?_
  rintro e w1 ⟨rfl, hb0⟩
  have HB_1 := Lib.hid (below_ext HB_0.out hb0)
  clear zc0 zc1 zc2 zc3 zc4 zc5 zc6 zc7 zc8 zc9 zc10 zc11 zf11 zc12 zf12
  clear hb0
  obtain ⟨zc0, zc1, zc2, zc3, zc4, zc5, zc6, zc7, zc8, zc9, zc10, ⟨zc11, zf11⟩, ⟨zc12, zf12⟩⟩ := kC.out _ HB_1
  go_wp2_with fail
  refine (proper_any P Q G X1 X2 X3 y false m0 HVG hQ _ (kV.out _ HB_1)).mono ?_
  rintro e w2 ⟨rfl, hb0⟩
  have HB_2 := Lib.hid (below_ext HB_1.out hb0)
  clear zc0 zc1 zc2 zc3 zc4 zc5 zc6 zc7 zc8 zc9 zc10 zc11 zf11 zc12 zf12
  clear hb0
  obtain ⟨zc0, zc1, zc2, zc3, zc4, zc5, zc6, zc7, zc8, zc9, zc10, ⟨zc11, zf11⟩, ⟨zc12, zf12⟩⟩ := kC.out _ HB_2
  have hbF := below_ext HBw.out HB_2.out
  go_wp2
  exact bodyPost_ret (v := .tuple #[relV none 0 0 none 0 0, .int .i64 2]) (by simp [results, Tryz.results19, go_sem, zc11, zc12]) rfl ⟨rfl, below_set2' hbF (by omega) _ _⟩
set_option maxHeartbeats 6400000 in
theorem escR_1 (P Q G X1 X2 X3 : Int) (y ps : Int) (E1 E2 : Int) (A : Option Addr) (na ca : Nat) (C : Int) (Z : Option Addr) (nz cz : Nat) (hval : Hid (validB P Q G X1 X2 X3 = true)) (m0 : Hid (okB P Q y = true)) (m1 : Hid (okB P Q ps = false)) (hQ : Q < 9223372036854775808) (w : World) (hv : Hid (Vars w)) :
    Calls Tryz.prog 19 #[bv P Q G X1 X2 X3, .int .i64 y, .int .i64 ps, esV E1 E2 A na ca C Z nz cz] w fun e' w' => e' = .returned (.tuple #[relV none 0 0 none 0 0, .int .i64 2]) ∧ Below w.heap.size w w' := by
  have HVG := Lib.hid (validB_parts hval.out).1
  obtain ⟨w0, HW, HBw, kC⟩ := stBER P Q G X1 X2 X3 E1 E2 A na ca C Z nz cz w
  have kV := Lib.hid (show ∀ u : World, Hid (Below w0.heap.size w0 u) → Hid (Vars u) from fun u h => Lib.hid ((hv.out.below) (below_ext HBw.out h.out)))
  have HB_0 : Hid (Below w0.heap.size w0 w0) := Lib.hid (Below.refl _ _)
  clear hv
  go_enter Tryz.func19, Tryz.ntmps19
  go_wp2_with fail
  rw [HW.out]
  obtain ⟨zc0, zc1, zc2, zc3, zc4, zc5, zc6, zc7, zc8, zc9, zc10, ⟨zc11, zf11⟩, ⟨zc12, zf12⟩⟩ := kC.out _ HB_0
  go_wp2_with fail
  refine (bvalid_any P Q G X1 X2 X3 true hval hQ _ (kV.out _ HB_0)).mono ?_
  rintro e w1 ⟨rfl, hb0⟩
  have HB_1 := Lib.hid (below_ext HB_0.out hb0)
  clear zc0 zc1 zc2 zc3 zc4 zc5 zc6 zc7 zc8 zc9 zc10 zc11 zf11 zc12 zf12
  clear hb0
  obtain ⟨zc0, zc1, zc2, zc3, zc4, zc5, zc6, zc7, zc8, zc9, zc10, ⟨zc11, zf11⟩, ⟨zc12, zf12⟩⟩ := kC.out _ HB_1
  go_wp2_with fail
  refine (proper_any P Q G X1 X2 X3 y true m0 HVG hQ _ (kV.out _ HB_1)).mono ?_
  rintro e w2 ⟨rfl, hb0⟩
  have HB_2 := Lib.hid (below_ext HB_1.out hb0)
  clear zc0 zc1 zc2 zc3 zc4 zc5 zc6 zc7 zc8 zc9 zc10 zc11 zf11 zc12 zf12
  clear hb0
  obtain ⟨zc0, zc1, zc2, zc3, zc4, zc5, zc6, zc7, zc8, zc9, zc10, ⟨zc11, zf11⟩, ⟨zc12, zf12⟩⟩ := kC.out _ HB_2
  go_wp2_with fail
  refine (proper_any P Q G X1 X2 X3 ps false m1 HVG hQ _ (kV.out _ HB_2)).mono ?_
  rintro e w3 ⟨rfl, hb0⟩
  have HB_3 := Lib.hid (below_ext HB_2.out hb0)
  clear zc0 zc1 zc2 zc3 zc4 zc5 zc6 zc7 zc8 zc9 zc10 zc11 zf11 zc12 zf12
  clear hb0
  obtain ⟨zc0, zc1, zc2, zc3, zc4, zc5, zc6, zc7, zc8, zc9, zc10, ⟨zc11, zf11⟩, ⟨zc12, zf12⟩⟩ := kC.out _ HB_3
  have hbF := below_ext HBw.out HB_3.out
  go_wp2
  exact bodyPost_ret (v := .tuple #[relV none 0 0 none 0 0, .int .i64 2]) (by simp [results, Tryz.results19, go_sem, zc11, zc12]) rfl ⟨rfl, below_set2' hbF (by omega) _ _⟩
set_option maxHeartbeats 6400000 in
theorem escR_2 (P Q G X1 X2 X3 : Int) (y ps : Int) (E1 E2 : Int) (A : Option Addr) (na ca : Nat) (C : Int) (Z : Option Addr) (nz cz : Nat) (hval : Hid (validB P Q G X1 X2 X3 = true)) (m0 : Hid (okB P Q y = true)) (m1 : Hid (okB P Q ps = true)) (m2 : Hid (memG P Q E1 = false)) (hQ : Q < 9223372036854775808) (w : World) (hv : Hid (Vars w)) :
    Calls Tryz.prog 19 #[bv P Q G X1 X2 X3, .int .i64 y, .int .i64 ps, esV E1 E2 A na ca C Z nz cz] w fun e' w' => e' = .returned (.tuple #[relV none 0 0 none 0 0, .int .i64 2]) ∧ Below w.heap.size w w' := by
  have HVG := Lib.hid (validB_parts hval.out).1
  obtain ⟨w0, HW, HBw, kC⟩ := stBER P Q G X1 X2 X3 E1 E2 A na ca C Z nz cz w
  have kV := Lib.hid (show ∀ u : World, Hid (Below w0.heap.size w0 u) → Hid (Vars u) from fun u h => Lib.hid ((hv.out.below) (below_ext HBw.out h.out)))
  have HB_0 : Hid (Below w0.heap.size w0 w0) := Lib.hid (Below.refl _ _)
  clear hv
  go_enter Tryz.func19, Tryz.ntmps19
  go_wp2_with fail
  rw [HW.out]
  obtain ⟨zc0, zc1, zc2, zc3, zc4, zc5, zc6, zc7, zc8, zc9, zc10, ⟨zc11, zf11⟩, ⟨zc12, zf12⟩⟩ := kC.out _ HB_0
  go_wp2_with fail
  refine (bvalid_any P Q G X1 X2 X3 true hval hQ _ (kV.out _ HB_0)).mono ?_
  rintro e w1 ⟨rfl, hb0⟩
  have HB_1 := Lib.hid (below_ext HB_0.out hb0)
  clear zc0 zc1 zc2 zc3 zc4 zc5 zc6 zc7 zc8 zc9 zc10 zc11 zf11 zc12 zf12
  clear hb0
  obtain ⟨zc0, zc1, zc2, zc3, zc4, zc5, zc6, zc7, zc8, zc9, zc10, ⟨zc11, zf11⟩, ⟨zc12, zf12⟩⟩ := kC.out _ HB_1
  go_wp2_with fail
  refine (proper_any P Q G X1 X2 X3 y true m0 HVG hQ _ (kV.out _ HB_1)).mono ?_
  rintro e w2 ⟨rfl, hb0⟩
  have HB_2 := Lib.hid (below_ext HB_1.out hb0)
  clear zc0 zc1 zc2 zc3 zc4 zc5 zc6 zc7 zc8 zc9 zc10 zc11 zf11 zc12 zf12
  clear hb0
  obtain ⟨zc0, zc1, zc2, zc3, zc4, zc5, zc6, zc7, zc8, zc9, zc10, ⟨zc11, zf11⟩, ⟨zc12, zf12⟩⟩ := kC.out _ HB_2
  go_wp2_with fail
  refine (proper_any P Q G X1 X2 X3 ps true m1 HVG hQ _ (kV.out _ HB_2)).mono ?_
  rintro e w3 ⟨rfl, hb0⟩
  have HB_3 := Lib.hid (below_ext HB_2.out hb0)
  clear zc0 zc1 zc2 zc3 zc4 zc5 zc6 zc7 zc8 zc9 zc10 zc11 zf11 zc12 zf12
  clear hb0
  obtain ⟨zc0, zc1, zc2, zc3, zc4, zc5, zc6, zc7, zc8, zc9, zc10, ⟨zc11, zf11⟩, ⟨zc12, zf12⟩⟩ := kC.out _ HB_3
  go_wp2_with fail
  refine (contains_any P Q G E1 false (Lib.hid (con_of HVG.out m2.out)) hQ _ (kV.out _ HB_3)).mono ?_
  rintro e w4 ⟨rfl, hb0⟩
  have HB_4 := Lib.hid (below_ext HB_3.out hb0)
  clear zc0 zc1 zc2 zc3 zc4 zc5 zc6 zc7 zc8 zc9 zc10 zc11 zf11 zc12 zf12
  clear hb0
  obtain ⟨zc0, zc1, zc2, zc3, zc4, zc5, zc6, zc7, zc8, zc9, zc10, ⟨zc11, zf11⟩, ⟨zc12, zf12⟩⟩ := kC.out _ HB_4
  have hbF := below_ext HBw.out HB_4.out
  go_wp2
  exact bodyPost_ret (v := .tuple #[relV none 0 0 none 0 0, .int .i64 2]) (by simp [results, Tryz.results19, go_sem, zc11, zc12]) rfl ⟨rfl, below_set2' hbF (by omega) _ _⟩
set_option maxHeartbeats 6400000 in
theorem escR_3 (P Q G X1 X2 X3 : Int) (y ps : Int) (E1 E2 : Int) (A : Option Addr) (na ca : Nat) (C : Int) (Z : Option Addr) (nz cz : Nat) (hval : Hid (validB P Q G X1 X2 X3 = true)) (m0 : Hid (okB P Q y = true)) (m1 : Hid (okB P Q ps = true)) (m2 : Hid (memG P Q E1 = true)) (m3 : Hid (memG P Q E2 = false)) (hQ : Q < 9223372036854775808) (w : World) (hv : Hid (Vars w)) :
    Calls Tryz.prog 19 #[bv P Q G X1 X2 X3, .int .i64 y, .int .i64 ps, esV E1 E2 A na ca C Z nz cz] w fun e' w' => e' = .returned (.tuple #[relV none 0 0 none 0 0, .int .i64 2]) ∧ Below w.heap.size w w' := by
  have HVG := Lib.hid (validB_parts hval.out).1
  obtain ⟨w0, HW, HBw, kC⟩ := stBER P Q G X1 X2 X3 E1 E2 A na ca C Z nz cz w
  have kV := Lib.hid (show ∀ u : World, Hid (Below w0.heap.size w0 u) → Hid (Vars u) from fun u h => Lib.hid ((hv.out.below) (below_ext HBw.out h.out)))
  have HB_0 : Hid (Below w0.heap.size w0 w0) := Lib.hid (Below.refl _ _)
  clear hv
  go_enter Tryz.func19, Tryz.ntmps19
  go_wp2_with fail
  rw [HW.out]
  obtain ⟨zc0, zc1, zc2, zc3, zc4, zc5, zc6, zc7, zc8, zc9, zc10, ⟨zc11, zf11⟩, ⟨zc12, zf12⟩⟩ := kC.out _ HB_0
  go_wp2_with fail
  refine (bvalid_any P Q G X1 X2 X3 true hval hQ _ (kV.out _ HB_0)).mono ?_
  rintro e w1 ⟨rfl, hb0⟩
  have HB_1 := Lib.hid (below_ext HB_0.out hb0)
  clear zc0 zc1 zc2 zc3 zc4 zc5 zc6 zc7 zc8 zc9 zc10 zc11 zf11 zc12 zf12
  clear hb0
  obtain ⟨zc0, zc1, zc2, zc3, zc4, zc5, zc6, zc7, zc8, zc9, zc10, ⟨zc11, zf11⟩, ⟨zc12, zf12⟩⟩ := kC.out _ HB_1
  go_wp2_with fail
  refine (proper_any P Q G X1 X2 X3 y true m0 HVG hQ _ (kV.out _ HB_1)).mono ?_
  rintro e w2 ⟨rfl, hb0⟩
  have HB_2 := Lib.hid (below_ext HB_1.out hb0)
  clear zc0 zc1 zc2 zc3 zc4 zc5 zc6 zc7 zc8 zc9 zc10 zc11 zf11 zc12 zf12
  clear hb0
  obtain ⟨zc0, zc1, zc2, zc3, zc4, zc5, zc6, zc7, zc8, zc9, zc10, ⟨zc11, zf11⟩, ⟨zc12, zf12⟩⟩ := kC.out _ HB_2
  go_wp2_with fail
  refine (proper_any P Q G X1 X2 X3 ps true m1 HVG hQ _ (kV.out _ HB_2)).mono ?_
  rintro e w3 ⟨rfl, hb0⟩
  have HB_3 := Lib.hid (below_ext HB_2.out hb0)
  clear zc0 zc1 zc2 zc3 zc4 zc5 zc6 zc7 zc8 zc9 zc10 zc11 zf11 zc12 zf12
  clear hb0
  obtain ⟨zc0, zc1, zc2, zc3, zc4, zc5, zc6, zc7, zc8, zc9, zc10, ⟨zc11, zf11⟩, ⟨zc12, zf12⟩⟩ := kC.out _ HB_3
  go_wp2_with fail
  refine (contains_any P Q G E1 true (Lib.hid (con_of HVG.out m2.out)) hQ _ (kV.out _ HB_3)).mono ?_
  rintro e w4 ⟨rfl, hb0⟩
  have HB_4 := Lib.hid (below_ext HB_3.out hb0)
  clear zc0 zc1 zc2 zc3 zc4 zc5 zc6 zc7 zc8 zc9 zc10 zc11 zf11 zc12 zf12
  clear hb0
  obtain ⟨zc0, zc1, zc2, zc3, zc4, zc5, zc6, zc7, zc8, zc9, zc10, ⟨zc11, zf11⟩, ⟨zc12, zf12⟩⟩ := kC.out _ HB_4
  go_wp2_with fail
  refine (contains_any P Q G E2 false (Lib.hid (con_of HVG.out m3.out)) hQ _ (kV.out _ HB_4)).mono ?_
  rintro e w5 ⟨rfl, hb0⟩
  have HB_5 := Lib.hid (below_ext HB_4.out hb0)
  clear zc0 zc1 zc2 zc3 zc4 zc5 zc6 zc7 zc8 zc9 zc10 zc11 zf11 zc12 zf12
  clear hb0
  obtain ⟨zc0, zc1, zc2, zc3, zc4, zc5, zc6, zc7, zc8, zc9, zc10, ⟨zc11, zf11⟩, ⟨zc12, zf12⟩⟩ := kC.out _ HB_5
  have hbF := below_ext HBw.out HB_5.out
  go_wp2
  exact bodyPost_ret (v := .tuple #[relV none 0 0 none 0 0, .int .i64 2]) (by simp [results, Tryz.results19, go_sem, zc11, zc12]) rfl ⟨rfl, below_set2' hbF (by omega) _ _⟩
set_option maxHeartbeats 12800000 in
theorem escR_ok (P Q G X1 X2 X3 : Int) (y ps : Int) (E1 E2 : Int) (A : Option Addr) (na ca : Nat) (C : Int) (Z : Option Addr) (nz cz : Nat) (hval : Hid (validB P Q G X1 X2 X3 = true)) (m0 : Hid (okB P Q y = true)) (m1 : Hid (okB P Q ps = true)) (m2 : Hid (memG P Q E1 = true)) (m3 : Hid (memG P Q E2 = true)) (va vb vd : Int) (ha : Hid (E2 * X2 % P = va)) (hb : Hid (pw y ((Q - 1) % Q) P = vb)) (hd : Hid (pw G ((Q - 1) % Q) P = vd)) (hQ : Q < 9223372036854775808) (w : World) (hv : Hid (Vars w)) :
    Calls Tryz.prog 19 #[bv P Q G X1 X2 X3, .int .i64 y, .int .i64 ps, esV E1 E2 A na ca C Z nz cz] w (EsRelT ps va vb E1 vd w) := by
  have HVG := Lib.hid (validB_parts hval.out).1
  obtain ⟨_, v2, v3, _, _, _, _⟩ := validB_parts hval.out
  obtain ⟨_, _, p3, _⟩ := validG_P HVG.out
  have ck1 : Hid (chkG P Q G [E2, X2] = 0) := Lib.hid (chkG_ok HVG.out (by simp [m3.out, v3]))
  have ck2 : Hid (chkG P Q G [y] = 0) := Lib.hid (chkG_ok HVG.out (by simp [okB_mem m0.out]))
  have ck3 : Hid (chkG P Q G [G] = 0) := Lib.hid (chkG_ok HVG.out (by simp [gen_mem HVG.out]))
  have hb9 : Hid (pw y ((-1) % Q) P = vb) := Lib.hid ((pw_neg1 (by omega)).trans hb.out)
  have hd9 : Hid (pw G ((-1) % Q) P = vd) := Lib.hid ((pw_neg1 (by omega)).trans hd.out)
  clear v2 v3 p3
  obtain ⟨w0, HW, HBw, kC⟩ := stBER P Q G X1 X2 X3 E1 E2 A na ca C Z nz cz w
  have kV := Lib.hid (show ∀ u : World, Hid (Below w0.heap.size w0 u) → Hid (Vars u) from fun u h => Lib.hid ((hv.out.below) (below_ext HBw.out h.out)))
  have HB_0 : Hid (Below w0.heap.size w0 w0) := Lib.hid (Below.refl _ _)
  clear hv
  go_enter Tryz.func19, Tryz.ntmps19
  go_wp2_with fail
  rw [HW.out]
  obtain ⟨zc0, zc1, zc2, zc3, zc4, zc5, zc6, zc7, zc8, zc9, zc10, ⟨zc11, zf11⟩, ⟨zc12, zf12⟩⟩ := kC.out _ HB_0
  go_wp2_with fail
  refine (bvalid_any P Q G X1 X2 X3 true hval hQ _ (kV.out _ HB_0)).mono ?_
  rintro e w1 ⟨rfl, hb0⟩
  have HB_1 := Lib.hid (below_ext HB_0.out hb0)
  clear zc0 zc1 zc2 zc3 zc4 zc5 zc6 zc7 zc8 zc9 zc10 zc11 zf11 zc12 zf12
  clear hb0
  obtain ⟨zc0, zc1, zc2, zc3, zc4, zc5, zc6, zc7, zc8, zc9, zc10, ⟨zc11, zf11⟩, ⟨zc12, zf12⟩⟩ := kC.out _ HB_1
  go_wp2_with fail
  refine (proper_any P Q G X1 X2 X3 y true m0 HVG hQ _ (kV.out _ HB_1)).mono ?_
  rintro e w2 ⟨rfl, hb0⟩
  have HB_2 := Lib.hid (below_ext HB_1.out hb0)
  clear zc0 zc1 zc2 zc3 zc4 zc5 zc6 zc7 zc8 zc9 zc10 zc11 zf11 zc12 zf12
  clear hb0
  obtain ⟨zc0, zc1, zc2, zc3, zc4, zc5, zc6, zc7, zc8, zc9, zc10, ⟨zc11, zf11⟩, ⟨zc12, zf12⟩⟩ := kC.out _ HB_2
  go_wp2_with fail
  refine (proper_any P Q G X1 X2 X3 ps true m1 HVG hQ _ (kV.out _ HB_2)).mono ?_
  rintro e w3 ⟨rfl, hb0⟩
  have HB_3 := Lib.hid (below_ext HB_2.out hb0)
  clear zc0 zc1 zc2 zc3 zc4 zc5 zc6 zc7 zc8 zc9 zc10 zc11 zf11 zc12 zf12
  clear hb0
  obtain ⟨zc0, zc1, zc2, zc3, zc4, zc5, zc6, zc7, zc8, zc9, zc10, ⟨zc11, zf11⟩, ⟨zc12, zf12⟩⟩ := kC.out _ HB_3
  go_wp2_with fail
  refine (contains_any P Q G E1 true (Lib.hid (con_of HVG.out m2.out)) hQ _ (kV.out _ HB_3)).mono ?_
  rintro e w4 ⟨rfl, hb0⟩
  have HB_4 := Lib.hid (below_ext HB_3.out hb0)
  clear zc0 zc1 zc2 zc3 zc4 zc5 zc6 zc7 zc8 zc9 zc10 zc11 zf11 zc12 zf12
  clear hb0
  obtain ⟨zc0, zc1, zc2, zc3, zc4, zc5, zc6, zc7, zc8, zc9, zc10, ⟨zc11, zf11⟩, ⟨zc12, zf12⟩⟩ := kC.out _ HB_4
  go_wp2_with fail
  refine (contains_any P Q G E2 true (Lib.hid (con_of HVG.out m3.out)) hQ _ (kV.out _ HB_4)).mono ?_
  rintro e w5 ⟨rfl, hb0⟩
  have HB_5 := Lib.hid (below_ext HB_4.out hb0)
  clear zc0 zc1 zc2 zc3 zc4 zc5 zc6 zc7 zc8 zc9 zc10 zc11 zf11 zc12 zf12
  clear hb0
  obtain ⟨zc0, zc1, zc2, zc3, zc4, zc5, zc6, zc7, zc8, zc9, zc10, ⟨zc11, zf11⟩, ⟨zc12, zf12⟩⟩ := kC.out _ HB_5
  have hlt1 : w.heap.size + 2 < w5.heap.size := World.block_lt_of_cell? _ _ zc11
  go_wp2_with fail
  refine (esrel_any P Q G X1 X2 X3 y ps E1 E2 A na ca C Z nz cz va vb vd ck1 ck2 ck3 ha hb9 hd9 hQ _ (kV.out _ HB_5)).mono ?_
  intro e w6 hE
  obtain ⟨gY, gA, gB, gR, rfl, hblk, q1, q2, q3, q4, hb0⟩ := hE
  have HB_6 := Lib.hid (below_ext HB_5.out hb0)
  clear zc0 zc1 zc2 zc3 zc4 zc5 zc6 zc7 zc8 zc9 zc10 zc11 zf11 zc12 zf12
  clear hb0
  obtain ⟨zc0, zc1, zc2, zc3, zc4, zc5, zc6, zc7, zc8, zc9, zc10, ⟨zc11, zf11⟩, ⟨zc12, zf12⟩⟩ := kC.out _ HB_6
  have hbF := below_ext HBw.out HB_6.out
  go_wp2
  exact bodyPost_ret (v := .tuple #[esRV gY gR, .int .i64 0]) (by simp [results, Tryz.results19, go_sem, zc11, zc12]) rfl ⟨gY, gA, gB, gR, rfl, (hblk.set (by omega) (by omega) (by omega) (by omega) _ _).set (by omega) (by omega) (by omega) (by omega) _ _, below_set2' hbF (by omega) _ _⟩
/-- escrow.Relation where it refuses. -/
theorem escR_bad (P Q G X1 X2 X3 : Int) (y ps : Int) (E1 E2 : Int) (A : Option Addr) (na ca : Nat) (C : Int) (Z : Option Addr) (nz cz : Nat) (r : Int) (hr : Hid (esE P Q G X1 X2 X3 y ps E1 E2 = r)) (hne : (r != 0) = true) (hQ : Q < 9223372036854775808) (w : World) (hv : Hid (Vars w)) :
    Calls Tryz.prog 19 #[bv P Q G X1 X2 X3, .int .i64 y, .int .i64 ps, esV E1 E2 A na ca C Z nz cz] w fun e' w' => e' = .returned (.tuple #[relV none 0 0 none 0 0, .int .i64 r]) ∧ Below w.heap.size w w' := by
  have hr1 := hr.out
  unfold esE at hr1
  cases hval : validB P Q G X1 X2 X3 with
  | false =>
    obtain rfl : r = 1 := by rw [← hr1, hval]; rfl
    exact escR_n P Q G X1 X2 X3 y ps E1 E2 A na ca C Z nz cz (Lib.hid hval) hQ w hv
  | true =>
    rw [if_pos hval] at hr1
    cases m0 : okB P Q y with
    | false =>
      obtain rfl : r = 2 := by rw [← hr1, m0]; rfl
      exact escR_0 P Q G X1 X2 X3 y ps E1 E2 A na ca C Z nz cz (Lib.hid hval) (Lib.hid m0) hQ w hv
    | true =>
      cases m1 : okB P Q ps with
      | false =>
        obtain rfl : r = 2 := by rw [← hr1, m0, m1]; rfl
        exact escR_1 P Q G X1 X2 X3 y ps E1 E2 A na ca C Z nz cz (Lib.hid hval) (Lib.hid m0) (Lib.hid m1) hQ w hv
      | true =>
        cases m2 : memG P Q E1 with
        | false =>
          obtain rfl : r = 2 := by rw [← hr1, m0, m1, m2]; rfl
          exact escR_2 P Q G X1 X2 X3 y ps E1 E2 A na ca C Z nz cz (Lib.hid hval) (Lib.hid m0) (Lib.hid m1) (Lib.hid m2) hQ w hv
        | true =>
          cases m3 : memG P Q E2 with
          | false =>
            obtain rfl : r = 2 := by rw [← hr1, m0, m1, m2, m3]; rfl
            exact escR_3 P Q G X1 X2 X3 y ps E1 E2 A na ca C Z nz cz (Lib.hid hval) (Lib.hid m0) (Lib.hid m1) (Lib.hid m2) (Lib.hid m3) hQ w hv
          | true =>
            exact absurd hr1 (by rw [m0, m1, m2, m3]; simp at hne ⊢; omega)
set_option maxHeartbeats 6400000 in
theorem escV_n (P Q G X1 X2 X3 : Int) (y ps : Int) (E1 E2 : Int) (A : Option Addr) (na ca : Nat) (C : Int) (Z : Option Addr) (nz cz : Nat) (s : ByteArray) (r : Int) (hr : Hid (esE P Q G X1 X2 X3 y ps E1 E2 = r)) (hne : (r != 0) = true) (hQ : Q < 9223372036854775808) (w : World) (hv : Hid (Vars w)) :
    Calls Tryz.prog 24 #[bv P Q G X1 X2 X3, .int .i64 y, .int .i64 ps, .string s, esV E1 E2 A na ca C Z nz cz] w fun e' w' => e' = .returned (.bool false) ∧ Below w.heap.size w w' := by
  have e0 : ((r : Int) == 0) = false := by simpa using hne
  obtain ⟨w0, HW, HBw, kC⟩ := stBE P Q G X1 X2 X3 E1 E2 A na ca C Z nz cz w
  have kV := Lib.hid (show ∀ u : World, Hid (Below w0.heap.size w0 u) → Hid (Vars u) from fun u h => Lib.hid ((hv.out.below) (below_ext HBw.out h.out)))
  have HB_0 : Hid (Below w0.heap.size w0 w0) := Lib.hid (Below.refl _ _)
  clear hv
  go_enter Tryz.func24, Tryz.ntmps24
  go_wp2_with fail
  rw [HW.out]
  obtain ⟨zc0, zc1, zc2, zc3, zc4, zc5, zc6, zc7, zc8, zc9, zc10⟩ := kC.out _ HB_0
  go_wp2_with fail
  refine (escR_bad P Q G X1 X2 X3 y ps E1 E2 A na ca C Z nz cz r hr hne hQ _ (kV.out _ HB_0)).mono ?_
  rintro e w1 ⟨rfl, hb0⟩
  have HB_1 := Lib.hid (below_ext HB_0.out hb0)
  clear zc0 zc1 zc2 zc3 zc4 zc5 zc6 zc7 zc8 zc9 zc10
  clear hb0
  obtain ⟨zc0, zc1, zc2, zc3, zc4, zc5, zc6, zc7, zc8, zc9, zc10⟩ := kC.out _ HB_1
  have hq := below_box0 w1 (relO none 0 0 none 0 0)
  have HB_2 := Lib.hid (below_ext HB_1.out hq)
  have hc : (w1.alloc (relO none 0 0 none 0 0)).cell? ⟨w1.heap.size, 0, none⟩ = some (.slice none 0 0) ∧ (w1.alloc (relO none 0 0 none 0 0)).cell? ⟨w1.heap.size, 1, none⟩ = some (.slice none 0 0) := ⟨allocs_cell rfl (by rfl), allocs_cell rfl (by rfl)⟩
  have HC2 := Lib.hid hc
  clear zc0 zc1 zc2 zc3 zc4 zc5 zc6 zc7 zc8 zc9 zc10
  clear hq
  obtain ⟨zc0, zc1, zc2, zc3, zc4, zc5, zc6, zc7, zc8, zc9, zc10⟩ := kC.out _ HB_2
  obtain ⟨zq0, zq1⟩ := hc
  go_wp2_with fail
  obtain ⟨w2, hw⟩ : ∃ x, (w1.alloc (relO none 0 0 none 0 0)) = x := ⟨_, rfl⟩
  rw [hw] at HC2 HB_2 ⊢
  have HSN2 : Hid (w2.heap.size = w1.heap.size + 1) := Lib.hid (by rw [← hw]; simp)
  clear zc0 zc1 zc2 zc3 zc4 zc5 zc6 zc7 zc8 zc9 zc10 zq0 zq1
  clear hw
  have HB_w2_2 : Hid (Below w2.heap.size w2 w2) := Lib.hid (Below.refl _ _)
  have kR := Lib.hid (show ∀ u : World, Hid (Below w2.heap.size w2 u) → u.cell? ⟨w1.heap.size, 0, none⟩ = some (.slice none 0 0) ∧ u.cell? ⟨w1.heap.size, 1, none⟩ = some (.slice none 0 0) from fun u h => ⟨cell_below HC2.out.1 h.out, cell_below HC2.out.2 h.out⟩)
  obtain ⟨zc0, zc1, zc2, zc3, zc4, zc5, zc6, zc7, zc8, zc9, zc10⟩ := kC.out _ HB_2
  obtain ⟨kR_0, kR_1⟩ := kR.out _ HB_w2_2
  have hbF := below_ext HBw.out HB_2.out
  go_wp2
  go_ret
  exact ⟨rfl, hbF⟩
set_option maxHeartbeats 12800000 in
theorem escV_y (P Q G X1 X2 X3 : Int) (y ps : Int) (E1 E2 : Int) (A : Option Addr) (na ca : Nat) (C : Int) (Z : Option Addr) (nz cz : Nat) (al zs : List Int) (han : Hid (al.length = na)) (hzn : Hid (zs.length = nz)) (hna : na < 1000000) (hnz : nz < 1000000) (s : ByteArray) (hs : s.size ≤ 1000) (hval : Hid (validB P Q G X1 X2 X3 = true)) (m0 : Hid (okB P Q y = true)) (m1 : Hid (okB P Q ps = true)) (m2 : Hid (memG P Q E1 = true)) (m3 : Hid (memG P Q E2 = true)) (va vb vd : Int) (ha : Hid (E2 * X2 % P = va)) (hb : Hid (pw y ((Q - 1) % Q) P = vb)) (hd : Hid (pw G ((Q - 1) % Q) P = vd)) (r : Bool) (hr : Kp (verL P Q G C (bys s) [ps, 1] (esRows none none va vb E1 vd) al zs = r)) (hQ : Q < 9223372036854775808) (w : World) (hv : Hid (Vars w)) (hd0 : Hid (VarsD w)) (hA : Hid (Sl w A al)) (hZ : Hid (Sl w Z zs)) :
    Calls Tryz.prog 24 #[bv P Q G X1 X2 X3, .int .i64 y, .int .i64 ps, .string s, esV E1 E2 A na ca C Z nz cz] w fun e' w' => e' = .returned (.bool r) ∧ Below w.heap.size w w' := by
  obtain ⟨w0, HW, HBw, kC⟩ := stBE P Q G X1 X2 X3 E1 E2 A na ca C Z nz cz w
  have kV := Lib.hid (show ∀ u : World, Hid (Below w0.heap.size w0 u) → Hid (Vars u) from fun u h => Lib.hid ((hv.out.below) (below_ext HBw.out h.out)))
  have kD := Lib.hid (show ∀ u : World, Hid (Below w0.heap.size w0 u) → Hid (VarsD u) from fun u h => Lib.hid ((hd0.out.below) (below_ext HBw.out h.out)))
  have kA := Lib.hid (show ∀ u : World, Hid (Below w0.heap.size w0 u) → Hid (Sl u A al) from fun u h => Lib.hid ((hA.out.below) (below_ext HBw.out h.out)))
  have kZ := Lib.hid (show ∀ u : World, Hid (Below w0.heap.size w0 u) → Hid (Sl u Z zs) from fun u h => Lib.hid ((hZ.out.below) (below_ext HBw.out h.out)))
  have HB_0 : Hid (Below w0.heap.size w0 w0) := Lib.hid (Below.refl _ _)
  clear hv hd0 hA hZ
  go_enter Tryz.func24, Tryz.ntmps24
  go_wp2_with fail
  rw [HW.out]
  obtain ⟨zc0, zc1, zc2, zc3, zc4, zc5, zc6, zc7, zc8, zc9, zc10⟩ := kC.out _ HB_0
  go_wp2_with fail
  refine (escR_ok P Q G X1 X2 X3 y ps E1 E2 A na ca C Z nz cz hval m0 m1 m2 m3 va vb vd ha hb hd hQ _ (kV.out _ HB_0)).mono ?_
  intro e w1 hE
  obtain ⟨gY, gA, gB, gR, rfl, hE, hb0⟩ := hE
  have HE := Lib.hid hE
  clear hE
  have HB_1 := Lib.hid (below_ext HB_0.out hb0)
  clear zc0 zc1 zc2 zc3 zc4 zc5 zc6 zc7 zc8 zc9 zc10
  clear hb0
  obtain ⟨zc0, zc1, zc2, zc3, zc4, zc5, zc6, zc7, zc8, zc9, zc10⟩ := kC.out _ HB_1
  have HB_w1_1 : Hid (Below w1.heap.size w1 w1) := Lib.hid (Below.refl _ _)
  have kY1 := Lib.hid (show ∀ u : World, Hid (Below w1.heap.size w1 u) → Hid (Sl u (some ⟨gY, 0, none⟩) [ps, 1]) from fun u h => Lib.hid (HE.out.sl.1.below h.out))
  have kB1 := Lib.hid (show ∀ u : World, Hid (Below w1.heap.size w1 u) → Hid (Rw u (some ⟨gR, 0, none⟩) (esRows (some ⟨gA, 0, none⟩) (some ⟨gB, 0, none⟩) va vb E1 vd)) from fun u h => Lib.hid (HE.out.sl.2.below h.out))
  have hq := below_box0 w1 (relO (some ⟨gY, 0, none⟩) 2 2 (some ⟨gR, 0, none⟩) 2 2)
  have HB_2 := Lib.hid (below_ext HB_1.out hq)
  have HB_w1_2 := Lib.hid (below_ext HB_w1_1.out hq)
  have hc : (w1.alloc (relO (some ⟨gY, 0, none⟩) 2 2 (some ⟨gR, 0, none⟩) 2 2)).cell? ⟨w1.heap.size, 0, none⟩ = some (.slice (some ⟨gY, 0, none⟩) 2 2) ∧ (w1.alloc (relO (some ⟨gY, 0, none⟩) 2 2 (some ⟨gR, 0, none⟩) 2 2)).cell? ⟨w1.heap.size, 1, none⟩ = some (.slice (some ⟨gR, 0, none⟩) 2 2) := ⟨allocs_cell rfl (by rfl), allocs_cell rfl (by rfl)⟩
  have HC2 := Lib.hid hc
  clear zc0 zc1 zc2 zc3 zc4 zc5 zc6 zc7 zc8 zc9 zc10
  clear hq
  obtain ⟨zc0, zc1, zc2, zc3, zc4, zc5, zc6, zc7, zc8, zc9, zc10⟩ := kC.out _ HB_2
  obtain ⟨zq0, zq1⟩ := hc
  go_wp2_with fail
  obtain ⟨w2, hw⟩ : ∃ x, (w1.alloc (relO (some ⟨gY, 0, none⟩) 2 2 (some ⟨gR, 0, none⟩) 2 2)) = x := ⟨_, rfl⟩
  rw [hw] at HC2 HB_2 HB_w1_2 ⊢
  have HSN2 : Hid (w2.heap.size = w1.heap.size + 1) := Lib.hid (by rw [← hw]; simp)
  clear zc0 zc1 zc2 zc3 zc4 zc5 zc6 zc7 zc8 zc9 zc10 zq0 zq1
  clear hw
  have HB_w2_2 : Hid (Below w2.heap.size w2 w2) := Lib.hid (Below.refl _ _)
  have kR := Lib.hid (show ∀ u : World, Hid (Below w2.heap.size w2 u) → u.cell? ⟨w1.heap.size, 0, none⟩ = some (.slice (some ⟨gY, 0, none⟩) 2 2) ∧ u.cell? ⟨w1.heap.size, 1, none⟩ = some (.slice (some ⟨gR, 0, none⟩) 2 2) from fun u h => ⟨cell_below HC2.out.1 h.out, cell_below HC2.out.2 h.out⟩)
  obtain ⟨zc0, zc1, zc2, zc3, zc4, zc5, zc6, zc7, zc8, zc9, zc10⟩ := kC.out _ HB_2
  obtain ⟨kR_0, kR_1⟩ := kR.out _ HB_w2_2
  go_wp2_with fail
  refine (lver_any P Q G (some ⟨gY, 0, none⟩) [ps, 1] 2 2 (some ⟨gR, 0, none⟩) (esRows (some ⟨gA, 0, none⟩) (some ⟨gB, 0, none⟩) va vb E1 vd) 2 2 A al na ca C Z zs nz cz (Lib.hid rfl) (Lib.hid rfl) han hzn hna hnz hQ s hs r ⟨(verL_esaddr _ _).trans hr.1⟩ _ (kV.out _ HB_2) (kD.out _ HB_2) (kY1.out _ HB_w1_2) (kB1.out _ HB_w1_2) (kA.out _ HB_2) (kZ.out _ HB_2)).mono ?_
  rintro e w3 ⟨rfl, hb0⟩
  have HB_3 := Lib.hid (below_ext HB_2.out hb0)
  have HB_w1_3 := Lib.hid (below_ext HB_w1_2.out hb0)
  have HB_w2_3 := Lib.hid (below_ext HB_w2_2.out hb0)
  clear zc0 zc1 zc2 zc3 zc4 zc5 zc6 zc7 zc8 zc9 zc10 kR_0 kR_1
  clear hb0
  obtain ⟨zc0, zc1, zc2, zc3, zc4, zc5, zc6, zc7, zc8, zc9, zc10⟩ := kC.out _ HB_3
  obtain ⟨kR_0, kR_1⟩ := kR.out _ HB_w2_3
  have hbF := below_ext HBw.out HB_3.out
  go_wp2
  go_ret
  exact ⟨rfl, hbF⟩
theorem esE_zero {P Q G X1 X2 X3 y ps E1 E2 : Int} (h : esE P Q G X1 X2 X3 y ps E1 E2 = 0) : validB P Q G X1 X2 X3 = true ∧ okB P Q y = true ∧ okB P Q ps = true ∧ memG P Q E1 = true ∧ memG P Q E2 = true := by
  unfold esE at h
  split at h
  · split at h
    · rename_i h1 h2
      simp only [Bool.and_eq_true] at h2
      exact ⟨h1, h2.1, h2.2.1, h2.2.2.1, h2.2.2.2⟩
    · omega
  · omega
/-- escrow.Verify. -/
theorem escV_any (P Q G X1 X2 X3 : Int) (y ps : Int) (E1 E2 : Int) (A : Option Addr) (na ca : Nat) (C : Int) (Z : Option Addr) (nz cz : Nat) (al zs : List Int) (han : Hid (al.length = na)) (hzn : Hid (zs.length = nz)) (hna : na < 1000000) (hnz : nz < 1000000) (s : ByteArray) (hs : s.size ≤ 1000) (r : Bool) (hr : Kp (esVer P Q G X1 X2 X3 y ps E1 E2 C (bys s) al zs = r)) (hQ : Q < 9223372036854775808) (w : World) (hv : Hid (Vars w)) (hd0 : Hid (VarsD w)) (hA : Hid (Sl w A al)) (hZ : Hid (Sl w Z zs)) :
    Calls Tryz.prog 24 #[bv P Q G X1 X2 X3, .int .i64 y, .int .i64 ps, .string s, esV E1 E2 A na ca C Z nz cz] w fun e' w' => e' = .returned (.bool r) ∧ Below w.heap.size w w' := by
  obtain ⟨k, hk⟩ : ∃ k, esE P Q G X1 X2 X3 y ps E1 E2 = k := ⟨_, rfl⟩
  have hr' := hr.1
  rw [esVer, hk] at hr'
  cases h0 : (k == 0) with
  | false =>
    obtain rfl : r = false := by rw [← hr', h0]; rfl
    exact escV_n P Q G X1 X2 X3 y ps E1 E2 A na ca C Z nz cz s k (Lib.hid hk) (by simpa using h0) hQ w hv
  | true =>
    obtain rfl : k = 0 := by simpa using h0
    obtain ⟨h1, h2, h3, h4, h5⟩ := esE_zero hk
    exact escV_y P Q G X1 X2 X3 y ps E1 E2 A na ca C Z nz cz al zs han hzn hna hnz s hs (Lib.hid h1) (Lib.hid h2) (Lib.hid h3) (Lib.hid h4) (Lib.hid h5) _ _ _ (Lib.hid rfl) (Lib.hid rfl) (Lib.hid rfl) r ⟨by rw [← hr']; simp⟩ hQ w hv hd0 hA hZ
/-- what Open answers. -/
def opE (P Q G X1 X2 X3 k E1 E2 : Int) : Int := if validB P Q G X1 X2 X3 = true then (if (decide (1 ≤ k) && (decide (k < Q) && (memG P Q E1 && memG P Q E2))) = true then 0 else 2) else 1
def opV (P Q G X1 X2 X3 k E1 E2 : Int) : Int := if opE P Q G X1 X2 X3 k E1 E2 = 0 then E2 * pw E1 ((-k) % Q) P % P else 0
set_option maxHeartbeats 6400000 in
theorem opn_n (P Q G X1 X2 X3 : Int) (k : Int) (E1 E2 : Int) (A : Option Addr) (na ca : Nat) (C : Int) (Z : Option Addr) (nz cz : Nat) (hval : Hid (validB P Q G X1 X2 X3 = false)) (hQ : Q < 9223372036854775808) (w : World) (hv : Hid (Vars w)) :
    Calls Tryz.prog 21 #[bv P Q G X1 X2 X3, .int .i64 k, esV E1 E2 A na ca C Z nz cz] w fun e' w' => e' = .returned (.tuple #[.int .i64 0, .int .i64 1]) ∧ Below w.heap.size w w' := by
  obtain ⟨w0, HW, HBw, kC⟩ := stBE P Q G X1 X2 X3 E1 E2 A na ca C Z nz cz w
  have kV := Lib.hid (show ∀ u : World, Hid (Below w0.heap.size w0 u) → Hid (Vars u) from fun u h => Lib.hid ((hv.out.below) (below_ext HBw.out h.out)))
  have HB_0 : Hid (Below w0.heap.size w0 w0) := Lib.hid (Below.refl _ _)
  clear hv
  go_enter Tryz.func21, Tryz.ntmps21
  go_wp2_with fail
  rw [HW.out]
  obtain ⟨zc0, zc1, zc2, zc3, zc4, zc5, zc6, zc7, zc8, zc9, zc10⟩ := kC.out _ HB_0
  go_wp2_with fail
  refine (bvalid_any P Q G X1 X2 X3 false hval hQ _ (kV.out _ HB_0)).mono ?_
  rintro e w1 ⟨rfl, hb0⟩
  have HB_1 := Lib.hid (below_ext HB_0.out hb0)
  clear zc0 zc1 zc2 zc3 zc4 zc5 zc6 zc7 zc8 zc9 zc10
  clear hb0
  obtain ⟨zc0, zc1, zc2, zc3, zc4, zc5, zc6, zc7, zc8, zc9, zc10⟩ := kC.out _ HB_1
  have hbF := below_ext HBw.out HB_1.out
  go_wp2
  go_ret2
  exact ⟨rfl, hbF⟩
set_option maxHeartbeats 6400000 in
theorem opn_0 (P Q G X1 X2 X3 : Int) (k : Int) (E1 E2 : Int) (A : Option Addr) (na ca : Nat) (C : Int) (Z : Option Addr) (nz cz : Nat) (hval : Hid (validB P Q G X1 X2 X3 = true)) (k0 : ¬ (1 ≤ k)) (hQ : Q < 9223372036854775808) (w : World) (hv : Hid (Vars w)) :
    Calls Tryz.prog 21 #[bv P Q G X1 X2 X3, .int .i64 k, esV E1 E2 A na ca C Z nz cz] w fun e' w' => e' = .returned (.tuple #[.int .i64 0, .int .i64 2]) ∧ Below w.heap.size w w' := by
  have HVG := Lib.hid (validB_parts hval.out).1
  have d0 : decide (k < 1) = true := by simp; omega
  obtain ⟨w0, HW, HBw, kC⟩ := stBE P Q G X1 X2 X3 E1 E2 A na ca C Z nz cz w
  have kV := Lib.hid (show ∀ u : World, Hid (Below w0.heap.size w0 u) → Hid (Vars u) from fun u h => Lib.hid ((hv.out.below) (below_ext HBw.out h.out)))
  have HB_0 : Hid (Below w0.heap.size w0 w0) := Lib.hid (Below.refl _ _)
  clear hv
  go_enter Tryz.func21, Tryz.ntmps21
  go_wp2_with fail
  rw [HW.out]
  obtain ⟨zc0, zc1, zc2, zc3, zc4, zc5, zc6, zc7, zc8, zc9, zc10⟩ := kC.out _ HB_0
  go_wp2_with fail
  refine (bvalid_any P Q G X1 X2 X3 true hval hQ _ (kV.out _ HB_0)).mono ?_
  rintro e w1 ⟨rfl, hb0⟩
  have HB_1 := Lib.hid (below_ext HB_0.out hb0)
  clear zc0 zc1 zc2 zc3 zc4 zc5 zc6 zc7 zc8 zc9 zc10
  clear hb0
  obtain ⟨zc0, zc1, zc2, zc3, zc4, zc5, zc6, zc7, zc8, zc9, zc10⟩ := kC.out _ HB_1
  have hbF := below_ext HBw.out HB_1.out
  go_wp2
  go_ret2
  exact ⟨rfl, hbF⟩
set_option maxHeartbeats 6400000 in
theorem opn_1 (P Q G X1 X2 X3 : Int) (k : Int) (E1 E2 : Int) (A : Option Addr) (na ca : Nat) (C : Int) (Z : Option Addr) (nz cz : Nat) (hval : Hid (validB P Q G X1 X2 X3 = true)) (k0 : 1 ≤ k) (k1 : ¬ (k < Q)) (hQ : Q < 9223372036854775808) (w : World) (hv : Hid (Vars w)) :
    Calls Tryz.prog 21 #[bv P Q G X1 X2 X3, .int .i64 k, esV E1 E2 A na ca C Z nz cz] w fun e' w' => e' = .returned (.tuple #[.int .i64 0, .int .i64 2]) ∧ Below w.heap.size w w' := by
  have HVG := Lib.hid (validB_parts hval.out).1
  have d0 : decide (k < 1) = false := by simp; omega
  have d1 : decide (Q ≤ k) = true := by simp; omega
  obtain ⟨w0, HW, HBw, kC⟩ := stBE P Q G X1 X2 X3 E1 E2 A na ca C Z nz cz w
  have kV := Lib.hid (show ∀ u : World, Hid (Below w0.heap.size w0 u) → Hid (Vars u) from fun u h => Lib.hid ((hv.out.below) (below_ext HBw.out h.out)))
  have HB_0 : Hid (Below w0.heap.size w0 w0) := Lib.hid (Below.refl _ _)
  clear hv
  go_enter Tryz.func21, Tryz.ntmps21
  go_wp2_with fail
  rw [HW.out]
  obtain ⟨zc0, zc1, zc2, zc3, zc4, zc5, zc6, zc7, zc8, zc9, zc10⟩ := kC.out _ HB_0
  go_wp2_with fail
  refine (bvalid_any P Q G X1 X2 X3 true hval hQ _ (kV.out _ HB_0)).mono ?_
  rintro e w1 ⟨rfl, hb0⟩
  have HB_1 := Lib.hid (below_ext HB_0.out hb0)
  clear zc0 zc1 zc2 zc3 zc4 zc5 zc6 zc7 zc8 zc9 zc10
  clear hb0
  obtain ⟨zc0, zc1, zc2, zc3, zc4, zc5, zc6, zc7, zc8, zc9, zc10⟩ := kC.out _ HB_1
  have hbF := below_ext HBw.out HB_1.out
  go_wp2
  go_ret2
  exact ⟨rfl, hbF⟩
set_option maxHeartbeats 6400000 in
theorem opn_2 (P Q G X1 X2 X3 : Int) (k : Int) (E1 E2 : Int) (A : Option Addr) (na ca : Nat) (C : Int) (Z : Option Addr) (nz cz : Nat) (hval : Hid (validB P Q G X1 X2 X3 = true)) (k0 : 1 ≤ k) (k1 : k < Q) (m2 : Hid (memG P Q E1 = false)) (hQ : Q < 9223372036854775808) (w : World) (hv : Hid (Vars w)) :
    Calls Tryz.prog 21 #[bv P Q G X1 X2 X3, .int .i64 k, esV E1 E2 A na ca C Z nz cz] w fun e' w' => e' = .returned (.tuple #[.int .i64 0, .int .i64 2]) ∧ Below w.heap.size w w' := by
  have HVG := Lib.hid (validB_parts hval.out).1
  have d0 : decide (k < 1) = false := by simp; omega
  have d1 : decide (Q ≤ k) = false := by simp; omega
  obtain ⟨w0, HW, HBw, kC⟩ := stBE P Q G X1 X2 X3 E1 E2 A na ca C Z nz cz w
  have kV := Lib.hid (show ∀ u : World, Hid (Below w0.heap.size w0 u) → Hid (Vars u) from fun u h => Lib.hid ((hv.out.below) (below_ext HBw.out h.out)))
  have HB_0 : Hid (Below w0.heap.size w0 w0) := Lib.hid (Below.refl _ _)
  clear hv
  go_enter Tryz.func21, Tryz.ntmps21
  go_wp2_with fail
  rw [HW.out]
  obtain ⟨zc0, zc1, zc2, zc3, zc4, zc5, zc6, zc7, zc8, zc9, zc10⟩ := kC.out _ HB_0
  go_wp2_with fail
  refine (bvalid_any P Q G X1 X2 X3 true hval hQ _ (kV.out _ HB_0)).mono ?_
  rintro e w1 ⟨rfl, hb0⟩
  have HB_1 := Lib.hid (below_ext HB_0.out hb0)
  clear zc0 zc1 zc2 zc3 zc4 zc5 zc6 zc7 zc8 zc9 zc10
  clear hb0
  obtain ⟨zc0, zc1, zc2, zc3, zc4, zc5, zc6, zc7, zc8, zc9, zc10⟩ := kC.out _ HB_1
  go_wp2_with fail
  refine (contains_any P Q G E1 false (Lib.hid (con_of HVG.out m2.out)) hQ _ (kV.out _ HB_1)).mono ?_
  rintro e w2 ⟨rfl, hb0⟩
  have HB_2 := Lib.hid (below_ext HB_1.out hb0)
  clear zc0 zc1 zc2 zc3 zc4 zc5 zc6 zc7 zc8 zc9 zc10
  clear hb0
  obtain ⟨zc0, zc1, zc2, zc3, zc4, zc5, zc6, zc7, zc8, zc9, zc10⟩ := kC.out _ HB_2
  have hbF := below_ext HBw.out HB_2.out
  go_wp2
  go_ret2
  exact ⟨rfl, hbF⟩
set_option maxHeartbeats 6400000 in
theorem opn_3 (P Q G X1 X2 X3 : Int) (k : Int) (E1 E2 : Int) (A : Option Addr) (na ca : Nat) (C : Int) (Z : Option Addr) (nz cz : Nat) (hval : Hid (validB P Q G X1 X2 X3 = true)) (k0 : 1 ≤ k) (k1 : k < Q) (m2 : Hid (memG P Q E1 = true)) (m3 : Hid (memG P Q E2 = false)) (hQ : Q < 9223372036854775808) (w : World) (hv : Hid (Vars w)) :
    Calls Tryz.prog 21 #[bv P Q G X1 X2 X3, .int .i64 k, esV E1 E2 A na ca C Z nz cz] w fun e' w' => e' = .returned (.tuple #[.int .i64 0, .int .i64 2]) ∧ Below w.heap.size w w' := by
  have HVG := Lib.hid (validB_parts hval.out).1
  have d0 : decide (k < 1) = false := by simp; omega
  have d1 : decide (Q ≤ k) = false := by simp; omega
  obtain ⟨w0, HW, HBw, kC⟩ := stBE P Q G X1 X2 X3 E1 E2 A na ca C Z nz cz w
  have kV := Lib.hid (show ∀ u : World, Hid (Below w0.heap.size w0 u) → Hid (Vars u) from fun u h => Lib.hid ((hv.out.below) (below_ext HBw.out h.out)))
  have HB_0 : Hid (Below w0.heap.size w0 w0) := Lib.hid (Below.refl _ _)
  clear hv
  go_enter Tryz.func21, Tryz.ntmps21
  go_wp2_with fail
  rw [HW.out]
  obtain ⟨zc0, zc1, zc2, zc3, zc4, zc5, zc6, zc7, zc8, zc9, zc10⟩ := kC.out _ HB_0
  go_wp2_with fail
  refine (bvalid_any P Q G X1 X2 X3 true hval hQ _ (kV.out _ HB_0)).mono ?_
  rintro e w1 ⟨rfl, hb0⟩
  have HB_1 := Lib.hid (below_ext HB_0.out hb0)
  clear zc0 zc1 zc2 zc3 zc4 zc5 zc6 zc7 zc8 zc9 zc10
  clear hb0
  obtain ⟨zc0, zc1, zc2, zc3, zc4, zc5, zc6, zc7, zc8, zc9, zc10⟩ := kC.out _ HB_1
  go_wp2_with fail
  refine (contains_any P Q G E1 true (Lib.hid (con_of HVG.out m2.out)) hQ _ (kV.out _ HB_1)).mono ?_
  rintro e w2 ⟨rfl, hb0⟩
  have HB_2 := Lib.hid (below_ext HB_1.out hb0)
  clear zc0 zc1 zc2 zc3 zc4 zc5 zc6 zc7 zc8 zc9 zc10
  clear hb0
  obtain ⟨zc0, zc1, zc2, zc3, zc4, zc5, zc6, zc7, zc8, zc9, zc10⟩ := kC.out _ HB_2
  go_wp2_with fail
  refine (contains_any P Q G E2 false (Lib.hid (con_of HVG.out m3.out)) hQ _ (kV.out _ HB_2)).mono ?_
  rintro e w3 ⟨rfl, hb0⟩
  have HB_3 := Lib.hid (below_ext HB_2.out hb0)
  clear zc0 zc1 zc2 zc3 zc4 zc5 zc6 zc7 zc8 zc9 zc10
  clear hb0
  obtain ⟨zc0, zc1, zc2, zc3, zc4, zc5, zc6, zc7, zc8, zc9, zc10⟩ := kC.out _ HB_3
  have hbF := below_ext HBw.out HB_3.out
  go_wp2
  go_ret2
  exact ⟨rfl, hbF⟩
set_option maxHeartbeats 12800000 in
theorem opn_ok (P Q G X1 X2 X3 : Int) (k : Int) (E1 E2 : Int) (A : Option Addr) (na ca : Nat) (C : Int) (Z : Option Addr) (nz cz : Nat) (hval : Hid (validB P Q G X1 X2 X3 = true)) (k0 : 1 ≤ k) (k1 : k < Q) (m2 : Hid (memG P Q E1 = true)) (m3 : Hid (memG P Q E2 = true)) (v1 v2 : Int) (h1 : Hid (pw E1 ((-k) % Q) P = v1)) (h2 : Hid (E2 * v1 % P = v2)) (hQ : Q < 9223372036854775808) (w : World) (hv : Hid (Vars w)) :
    Calls Tryz.prog 21 #[bv P Q G X1 X2 X3, .int .i64 k, esV E1 E2 A na ca C Z nz cz] w fun e' w' => e' = .returned (.tuple #[.int .i64 v2, .int .i64 0]) ∧ Below w.heap.size w w' := by
  have HVG := Lib.hid (validB_parts hval.out).1
  have d0 : decide (k < 1) = false := by simp; omega
  have d1 : decide (Q ≤ k) = false := by simp; omega
  obtain ⟨p1, p2, p3, p4⟩ := validG_P HVG.out
  have wneg : IntKind.i64.wrap (-k) = -k := IntWalk.i64_in _ (by omega)
  have ck1 : Hid (chkG P Q G [E1] = 0) := Lib.hid (chkG_ok HVG.out (by simp [m2.out]))
  have mv1 : memG P Q v1 = true := by rw [← h1.out]; exact mem_pw p1 (by omega) (Int.emod_nonneg _ (by omega)) m2.out
  have ck2 : Hid (chkG P Q G [E2, v1] = 0) := Lib.hid (chkG_ok HVG.out (by simp [m3.out, mv1]))
  clear mv1
  obtain ⟨w0, HW, HBw, kC⟩ := stBE P Q G X1 X2 X3 E1 E2 A na ca C Z nz cz w
  have kV := Lib.hid (show ∀ u : World, Hid (Below w0.heap.size w0 u) → Hid (Vars u) from fun u h => Lib.hid ((hv.out.below) (below_ext HBw.out h.out)))
  have HB_0 : Hid (Below w0.heap.size w0 w0) := Lib.hid (Below.refl _ _)
  clear hv
  go_enter Tryz.func21, Tryz.ntmps21
  go_wp2_with fail
  rw [HW.out]
  obtain ⟨zc0, zc1, zc2, zc3, zc4, zc5, zc6, zc7, zc8, zc9, zc10⟩ := kC.out _ HB_0
  go_wp2_with fail
  refine (bvalid_any P Q G X1 X2 X3 true hval hQ _ (kV.out _ HB_0)).mono ?_
  rintro e w1 ⟨rfl, hb0⟩
  have HB_1 := Lib.hid (below_ext HB_0.out hb0)
  clear zc0 zc1 zc2 zc3 zc4 zc5 zc6 zc7 zc8 zc9 zc10
  clear hb0
  obtain ⟨zc0, zc1, zc2, zc3, zc4, zc5, zc6, zc7, zc8, zc9, zc10⟩ := kC.out _ HB_1
  go_wp2_with fail
  refine (contains_any P Q G E1 true (Lib.hid (con_of HVG.out m2.out)) hQ _ (kV.out _ HB_1)).mono ?_
  rintro e w2 ⟨rfl, hb0⟩
  have HB_2 := Lib.hid (below_ext HB_1.out hb0)
  clear zc0 zc1 zc2 zc3 zc4 zc5 zc6 zc7 zc8 zc9 zc10
  clear hb0
  obtain ⟨zc0, zc1, zc2, zc3, zc4, zc5, zc6, zc7, zc8, zc9, zc10⟩ := kC.out _ HB_2
  go_wp2_with fail
  refine (contains_any P Q G E2 true (Lib.hid (con_of HVG.out m3.out)) hQ _ (kV.out _ HB_2)).mono ?_
  rintro e w3 ⟨rfl, hb0⟩
  have HB_3 := Lib.hid (below_ext HB_2.out hb0)
  clear zc0 zc1 zc2 zc3 zc4 zc5 zc6 zc7 zc8 zc9 zc10
  clear hb0
  obtain ⟨zc0, zc1, zc2, zc3, zc4, zc5, zc6, zc7, zc8, zc9, zc10⟩ := kC.out _ HB_3
  go_wp2_with fail
  clear zc0 zc1 zc2 zc3 zc4 zc5 zc6 zc7 zc8 zc9 zc10
  have hS4 := Lib.hid (show ∀ u1 u2 : World, (Hid (Below w0.heap.size w0 u1)) → Below u1.heap.size u1 u2 → (u2.cell? ⟨w.heap.size, 0, none⟩ = some (.int .i64 P) ∧ u2.cell? ⟨w.heap.size, 1, none⟩ = some (.int .i64 Q) ∧ u2.cell? ⟨w.heap.size, 2, none⟩ = some (.int .i64 G) ∧ u2.cell? ⟨w.heap.size, 3, none⟩ = some (.int .i64 X1) ∧ u2.cell? ⟨w.heap.size, 4, none⟩ = some (.int .i64 X2) ∧ u2.cell? ⟨w.heap.size, 5, none⟩ = some (.int .i64 X3) ∧ u2.cell? ⟨w.heap.size + 1, 0, none⟩ = some (.int .i64 E1) ∧ u2.cell? ⟨w.heap.size + 1, 1, none⟩ = some (.int .i64 E2) ∧ u2.cell? ⟨w.heap.size + 1, 2, none⟩ = some (.slice A na ca) ∧ u2.cell? ⟨w.heap.size + 1, 3, none⟩ = some (.int .i64 C) ∧ u2.cell? ⟨w.heap.size + 1, 4, none⟩ = some (.slice Z nz cz) ∧ Hid (Below w0.heap.size w0 u2)) from fun u1 u2 h1 h2 => by
    have q0 := h1
    have r0 := Lib.hid (below_ext q0.out h2)
    obtain ⟨y0, y1, y2, y3, y4, y5, y6, y7, y8, y9, y10⟩ := kC.out _ r0
    exact ⟨y0, y1, y2, y3, y4, y5, y6, y7, y8, y9, y10, r0⟩)
  have HR4 := Lib.hid (show Hid (Below w0.heap.size w0 w3) from HB_3)
  go_region_held3 (fun w' => w'.cell? ⟨w.heap.size, 0, none⟩ = some (.int .i64 P) ∧ w'.cell? ⟨w.heap.size, 1, none⟩ = some (.int .i64 Q) ∧ w'.cell? ⟨w.heap.size, 2, none⟩ = some (.int .i64 G) ∧ w'.cell? ⟨w.heap.size, 3, none⟩ = some (.int .i64 X1) ∧ w'.cell? ⟨w.heap.size, 4, none⟩ = some (.int .i64 X2) ∧ w'.cell? ⟨w.heap.size, 5, none⟩ = some (.int .i64 X3) ∧ w'.cell? ⟨w.heap.size + 1, 0, none⟩ = some (.int .i64 E1) ∧ w'.cell? ⟨w.heap.size + 1, 1, none⟩ = some (.int .i64 E2) ∧ w'.cell? ⟨w.heap.size + 1, 2, none⟩ = some (.slice A na ca) ∧ w'.cell? ⟨w.heap.size + 1, 3, none⟩ = some (.int .i64 C) ∧ w'.cell? ⟨w.heap.size + 1, 4, none⟩ = some (.slice Z nz cz) ∧ Hid (Below w0.heap.size w0 w'))
    (first | exact hS4.out _ _ HR4.out ((Below.refl _ _).drew) | (exact hS4.out _ _ (by go_split_ands; exact (by assumption)) hbA) | go_keep)
    ((first
      | (go_at_call 67; (with_reducible refine (epower_ok P Q G X1 X2 X3 E1 (-k) v1 ck1 h1 (by omega) (by omega) _ ?_).mono ?_); (go_split_ands; exact kV.out _ (by assumption)); rintro e wA ⟨rfl, hbA⟩)
      | (go_at_call 66; (with_reducible refine (etimes_ok P Q G X1 X2 X3 E2 v1 v2 ck2 h2 hQ _ ?_).mono ?_); (go_split_ands; exact kV.out _ (by assumption)); rintro e wA ⟨rfl, hbA⟩)))
  rename_i hHeld
  obtain ⟨x0, x1, x2, x3, x4, x5, x6, x7, x8, x9, x10, HN4_0⟩ := hHeld
  clear hS4 HR4 x0 x1 x2 x3 x4 x5 x6 x7 x8 x9 x10
  obtain ⟨zc0, zc1, zc2, zc3, zc4, zc5, zc6, zc7, zc8, zc9, zc10⟩ := kC.out _ HN4_0
  have hbF := below_ext HBw.out HN4_0.out
  go_wp2
  go_ret2
  exact ⟨rfl, hbF⟩
/-- escrow.Open. -/
theorem opn_any (P Q G X1 X2 X3 : Int) (k : Int) (E1 E2 : Int) (A : Option Addr) (na ca : Nat) (C : Int) (Z : Option Addr) (nz cz : Nat) (v r : Int) (hr : Hid (opE P Q G X1 X2 X3 k E1 E2 = r)) (hv9 : Hid (opV P Q G X1 X2 X3 k E1 E2 = v)) (hQ : Q < 9223372036854775808) (w : World) (hv : Hid (Vars w)) :
    Calls Tryz.prog 21 #[bv P Q G X1 X2 X3, .int .i64 k, esV E1 E2 A na ca C Z nz cz] w fun e' w' => e' = .returned (.tuple #[.int .i64 v, .int .i64 r]) ∧ Below w.heap.size w w' := by
  have hr1 := hr.out
  have hv1 := hv9.out
  unfold opV at hv1
  rw [hr1] at hv1
  unfold opE at hr1
  cases hval : validB P Q G X1 X2 X3 with
  | false =>
    obtain rfl : r = 1 := by rw [← hr1, hval]; rfl
    obtain rfl : v = 0 := by rw [← hv1]; rfl
    exact opn_n P Q G X1 X2 X3 k E1 E2 A na ca C Z nz cz (Lib.hid hval) hQ w hv
  | true =>
    rw [if_pos hval] at hr1
    by_cases k0 : 1 ≤ k
    · by_cases k1 : k < Q
      · cases m2 : memG P Q E1 with
        | false =>
          obtain rfl : r = 2 := by rw [← hr1, m2]; simp
          obtain rfl : v = 0 := by rw [← hv1]; rfl
          exact opn_2 P Q G X1 X2 X3 k E1 E2 A na ca C Z nz cz (Lib.hid hval) k0 k1 (Lib.hid m2) hQ w hv
        | true =>
          cases m3 : memG P Q E2 with
          | false =>
            obtain rfl : r = 2 := by rw [← hr1, m2, m3]; simp
            obtain rfl : v = 0 := by rw [← hv1]; rfl
            exact opn_3 P Q G X1 X2 X3 k E1 E2 A na ca C Z nz cz (Lib.hid hval) k0 k1 (Lib.hid m2) (Lib.hid m3) hQ w hv
          | true =>
            obtain rfl : r = 0 := by rw [← hr1, m2, m3]; simp; omega
            exact opn_ok P Q G X1 X2 X3 k E1 E2 A na ca C Z nz cz (Lib.hid hval) k0 k1 (Lib.hid m2) (Lib.hid m3) _ _ (Lib.hid rfl) (Lib.hid (by rw [← hv1]; rfl)) hQ w hv
      · obtain rfl : r = 2 := by rw [← hr1]; simp; omega
        obtain rfl : v = 0 := by rw [← hv1]; rfl
        exact opn_1 P Q G X1 X2 X3 k E1 E2 A na ca C Z nz cz (Lib.hid hval) k0 k1 hQ w hv
    · obtain rfl : r = 2 := by rw [← hr1]; simp; omega
      obtain rfl : v = 0 := by rw [← hv1]; rfl
      exact opn_0 P Q G X1 X2 X3 k E1 E2 A na ca C Z nz cz (Lib.hid hval) k0 hQ w hv
end Go.Proofs.YtojedhnglobddaaGreatDoor
