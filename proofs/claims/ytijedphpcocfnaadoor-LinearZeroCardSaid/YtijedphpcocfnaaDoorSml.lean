/- Small lemmas that many layers share. -/
import Derived.Test.YtijedphpcocfnaaDoorRBits
import Derived.Test.YtijedphpcocfnaaDoorRefD
import Derived.Deep.RegionHeld3
namespace Go.Proofs.YtijedphpcocfnaaDoor
open Go.RowKit SpM
set_option linter.unusedVariables false

theorem cell_below {w w' : World} {p : Addr} {v : Value} (h : w.cell? p = some v) (hb : Below w.heap.size w w') : w'.cell? p = some v := (hb.cell (World.block_lt_of_cell? _ _ h)).trans h

theorem all_get {f : Int → Bool} {xs : List Int} (h : xs.all f = true) {k : Nat} (hk : k < xs.length) : f (xs.getD k 0) = true := by
  rw [List.getD_eq_getElem?_getD, List.getElem?_eq_getElem hk]
  exact List.all_eq_true.1 h _ (List.getElem_mem hk)

theorem i64_small {M : Int} (h1 : 1 ≤ M) (h2 : M ≤ 65536) : IntKind.i64.wrap M = M := IntWalk.i64_in _ (by omega)
theorem wrap_small {M : Int} (h1 : 1 ≤ M) (h2 : M ≤ 65536) : wrap64 M = M := IntWalk.wrap64_in _ (by omega)
theorem any_not_con {P Q G : Int} {xs : List Int} (hv : validG P Q G = true) : (xs.any fun x => !conG P Q G x) = !(xs.all (memG P Q)) := by
  induction xs with
  | nil => rfl
  | cons x xs ih =>
    rw [List.any_cons, List.all_cons, ih, conG, hv, Bool.true_and, Bool.not_and]

end Go.Proofs.YtijedphpcocfnaaDoor
