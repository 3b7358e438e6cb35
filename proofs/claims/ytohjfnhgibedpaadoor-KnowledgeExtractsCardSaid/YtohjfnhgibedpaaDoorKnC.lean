/- The contracts of packages knowledge and specieref16: simulated proofs. -/
import Derived.Test.YtohjfnhgibedpaaDoorKnB
import Derived.Deep.RegionHeld3
namespace Go.Proofs.YtohjfnhgibedpaaDoor
open Go.RowKit SpM
set_option linter.unusedVariables false

/-- the error of a simulation, and its commitment. -/
def simE (P Q G b y c z : Int) : Int := if validG P Q G = true then (if okB P Q b = true then (if memG P Q y = true then (if expB Q c = true then (if expB Q z = true then 0 else 2) else 2) else 2) else 2) else 1
def simA (P Q b y c z : Int) : Int := pw b (z % Q) P * pw y ((-c) % Q) P % P

abbrev pObj : Obj := .cells #[.slice none 0 0, .int .i64 0, .slice none 0 0] 49
/-- a block for a proof that is handed back. -/
def RBlk (w : World) (a : Nat) : Prop := w.heap[a]? = some pObj
def RBox (w : World) (a : Nat) : Prop := (w.cell? ⟨a, 0, none⟩ = some (.slice none 0 0) ∧ w.cell? ⟨a, 1, none⟩ = some (.int .i64 0) ∧ w.cell? ⟨a, 2, none⟩ = some (.slice none 0 0)) ∧
  w.frozen? ⟨a, 0, none⟩ = false ∧ w.frozen? ⟨a, 1, none⟩ = false ∧ w.frozen? ⟨a, 2, none⟩ = false
theorem RBlk.lt {w : World} {a : Nat} (h : RBlk w a) : a < w.heap.size := by
  unfold RBlk at h
  exact (Array.getElem?_eq_some_iff.1 h).1
theorem RBlk.below {w w' : World} {a : Nat} (h : RBlk w a) (hb : Below w.heap.size w w') : RBlk w' a := (hb.block a h.lt).trans h
theorem RBlk.box {w : World} {a : Nat} (h : RBlk w a) : RBox w a := by
  unfold RBlk at h
  refine ⟨⟨?_, ?_, ?_⟩, ?_, ?_, ?_⟩ <;> simp [World.cell?, World.frozen?, h]
theorem rblk_alloc (w : World) (o : Obj) : RBlk ((w.alloc o).alloc pObj) (w.heap.size + 1) := by
  have e : (w.alloc o).heap.size = w.heap.size + 1 := by simp
  rw [← e]
  exact heap_alloc_new _ _

/-- an empty proof and an error. -/
abbrev pv0 (r : Int) : Value := .tuple #[.agg #[.slice none 0 0, .int .i64 0, .slice none 0 0], .int .i64 r]
abbrev pv1 (b1 b2 : Nat) (c : Int) : Value := .tuple #[.agg #[.slice (some ⟨b1, 0, none⟩) 1 1, .int .i64 c, .slice (some ⟨b2, 0, none⟩) 1 1], .int .i64 0]
/-- what a simulation answers. -/
def SimOut (a c z : Int) (w : World) (e : Ending) (w' : World) : Prop :=
  ∃ b1 b2 : Nat, e = .returned (pv1 b1 b2 c) ∧ Cells w' b1 [a] ∧ Cells w' b2 [z] ∧ Below w.heap.size w w'

theorem below_set3 {B a : Nat} {w w1 : World} (h : Below B w w1) (hB : B ≤ a) (x y z : Value) :
    Below B w (((w1.setCell ⟨a, 0, none⟩ x).setCell ⟨a, 1, none⟩ y).setCell ⟨a, 2, none⟩ z) := ((h.setCell hB _).setCell hB _).setCell hB _
theorem simE_zero {P Q G b y c z : Int} (h : simE P Q G b y c z = 0) : validG P Q G = true ∧ okB P Q b = true ∧ memG P Q y = true ∧ expB Q c = true ∧ expB Q z = true := by
  unfold simE at h
  split at h
  · split at h
    · split at h
      · split at h
        · split at h
          · exact ⟨by assumption, by assumption, by assumption, by assumption, by assumption⟩
          · omega
        · omega
      · omega
    · omega
  · omega

end Go.Proofs.YtohjfnhgibedpaaDoor
