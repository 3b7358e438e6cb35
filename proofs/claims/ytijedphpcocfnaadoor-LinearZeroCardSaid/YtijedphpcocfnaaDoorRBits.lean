/- The contract of the reference's Bits: a list that is appended to. -/
import Derived.Test.YtijedphpcocfnaaDoorBits
import Derived.Maps.AppendAt
namespace Go.Proofs.YtijedphpcocfnaaDoor
open Go.RowKit SpM
set_option linter.unusedVariables false
set_option maxRecDepth 20000

/-- a row that the call owns, as a list of integers. -/
def OwnL (w : World) (base : Nat) (v : Value) (xs : List Int) : Prop := w.ownsRow base 3 1 v xs.length (xs.map (Value.int .i64))
theorem ownL_nil (w : World) (base : Nat) : OwnL w base (.slice none 0 0) [] := World.ownsRow_nil _ _ _ _
theorem OwnL.app {w1 : World} {base k : Nat} {v' : Value} {xs : List Int} {x : Int} (hk : k = xs.length)
    (h : w1.ownsRow base 3 1 v' (k + 1) (xs.map (Value.int .i64) ++ [.int .i64 x])) : OwnL w1 base v' (xs ++ [x]) := by
  unfold OwnL
  rw [List.length_append, List.map_append, List.length_singleton, ← hk]
  exact h
theorem OwnL.below {w w1 wr : World} {B : Nat} {o : Obj} {v : Value} {xs : List Int} (h : OwnL wr B v xs) (hb : Below B w wr) (hB : B ≤ wr.heap.size) (hg : (wr.alloc o).grownBy w1 v.ownBlock) : Below B w w1 :=
  (hb.alloc hB o).grown hg (by simp; omega) (fun j hj => (World.ownsRow.lt h j hj).1)
/-- a row that owns something lies at a block's head. -/
theorem OwnL.cells {w : World} {B : Nat} {v : Value} {xs : List Int} (h : OwnL w B v xs) (hne : 0 < xs.length) : ∃ g cap, v = .slice (some ⟨g, 0, none⟩) xs.length cap ∧ B ≤ g ∧ Cells w g xs := by
  obtain ⟨h1, h2⟩ := h
  rcases h2 with ⟨_, h0⟩ | ⟨g, cap, cur, rfl, hg, hh, hn, hc, hs, ht⟩
  · omega
  · refine ⟨g, cap, rfl, hg, fun j hj => ?_⟩
    rw [cell_blk hh]
    have e : cur.toList[j]? = (xs.map (Value.int .i64))[j]? := by
      rw [← ht, List.getElem?_take_of_lt (by omega)]
    rw [← Array.getElem?_toList, e, List.getElem?_map, List.getElem?_eq_getElem hj, List.getD_eq_getElem?_getD, List.getElem?_eq_getElem hj]
    rfl

theorem pow_div_succ (m : Int) (k : Nat) : m / 2 ^ k / 2 = m / 2 ^ (k + 1) := by
  have h : (0 : Int) < 2 ^ k := Int.pow_pos (by decide)
  rw [Int.pow_succ, Int.ediv_ediv_of_nonneg (by omega)]

/-- what the reference's Bits answers. -/
def RBitsOut (m : Int) (n : Nat) (w : World) (e : Ending) (w' : World) : Prop :=
  ∃ g cap, e = .returned (.slice (some ⟨g, 0, none⟩) n cap) ∧ Cells w' g (bitsL m n) ∧ Below w.heap.size w w'

end Go.Proofs.YtijedphpcocfnaaDoor
