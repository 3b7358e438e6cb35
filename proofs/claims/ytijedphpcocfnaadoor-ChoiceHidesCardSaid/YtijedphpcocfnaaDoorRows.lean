/-
  NARROWER THAN 'FOR EVERY INPUT', by the rows' own cells (each row's printed sentence says how): LinearHolds: laid · LinearResponds: laid · LinearZero: laid · ChoiceChecks: laid · ChoiceHides: laid · ChoiceSimulates: laid · ChoiceExtracts: laid.
  DERIVED. THE GIVEN ROWS OF THIS SEAT. 7 by the template 'for every input the law returns true; each argument reads behind the call as it read before'; 0 by the template 'total and deterministic' (their statements: YtijedphpcocfnaaDoorTotals.lean).
  GIVEN WITH THE SEED: the statements are not yours to turn. If you find one false, say at which input.
  Laid BY PROGRAM, IN A SANDBOX (cutbox-rows.mjs): the forced cells as the released guide's own fill.sh prints them over the translation 4ff0be8bfa4854f4… (all of the seat's roots in one cut). By AI agents, Wed Nov 11 2026. No macro, syntax, notation, axiom, sorry.
-/
import Derived.Test.YtijedphpcocfnaaDoorChecked
import GoSem.Claim
import GoSem.ClaimJoined
import GoSem.ClaimMapViews
import Derived.JoinedTies
import Derived.KernelRfl
namespace Go.Proofs.YtijedphpcocfnaaDoor
/- THE CELL 'sum', in the pinned program and in every row, IS THE sha256 OF THE DUMP (.gsa) THAT YtijedphpcocfnaaDoorProg.lean LOADS. Nothing in Lean hashes anything: it is a label: what it is worth is what the hold of that sum in a sandbox is worth. -/
noncomputable def Tryd.pinned : Pinned := { name := "ytijedphpcocfnaadoor", sum := "4ff0be8bfa4854f4226eddb52b10d480813b02aa7f60c1a1a1f26936f8ebf276", checked := Tryd.checked }
namespace Rows
def none {H : Type} : Left H := { results := [], args := [] }

/- WHAT THE LISTED PACKAGE-LEVEL VARIABLES READ AS WHEN THE CALL BEGINS. Each datum BY PROGRAM (the guide's laid-datum.mjs) off the statement by which the dump's own 'gosem.cut.vars' lays the variable. In a bare row this is a premise. The card (YtijedphpcocfnaaDoorCards.lean) ties it to the program's text. -/
def laid_math_bits_deBruijn64tab {H : Type} : DataW H := .agg [.lit (.int .u8 0), .lit (.int .u8 1), .lit (.int .u8 56), .lit (.int .u8 2), .lit (.int .u8 57), .lit (.int .u8 49), .lit (.int .u8 28), .lit (.int .u8 3), .lit (.int .u8 61), .lit (.int .u8 58), .lit (.int .u8 42), .lit (.int .u8 50), .lit (.int .u8 38), .lit (.int .u8 29), .lit (.int .u8 17), .lit (.int .u8 4), .lit (.int .u8 62), .lit (.int .u8 47), .lit (.int .u8 59), .lit (.int .u8 36), .lit (.int .u8 45), .lit (.int .u8 43), .lit (.int .u8 51), .lit (.int .u8 22), .lit (.int .u8 53), .lit (.int .u8 39), .lit (.int .u8 33), .lit (.int .u8 30), .lit (.int .u8 24), .lit (.int .u8 18), .lit (.int .u8 12), .lit (.int .u8 5), .lit (.int .u8 63), .lit (.int .u8 55), .lit (.int .u8 48), .lit (.int .u8 27), .lit (.int .u8 60), .lit (.int .u8 41), .lit (.int .u8 37), .lit (.int .u8 16), .lit (.int .u8 46), .lit (.int .u8 35), .lit (.int .u8 44), .lit (.int .u8 21), .lit (.int .u8 52), .lit (.int .u8 32), .lit (.int .u8 23), .lit (.int .u8 11), .lit (.int .u8 54), .lit (.int .u8 26), .lit (.int .u8 40), .lit (.int .u8 15), .lit (.int .u8 34), .lit (.int .u8 20), .lit (.int .u8 31), .lit (.int .u8 10), .lit (.int .u8 25), .lit (.int .u8 14), .lit (.int .u8 19), .lit (.int .u8 9), .lit (.int .u8 13), .lit (.int .u8 8), .lit (.int .u8 7), .lit (.int .u8 6)]
def laid_specie_prime_bases {H : Type} : DataW H := .agg [.lit (.int .u64 2), .lit (.int .u64 3), .lit (.int .u64 5), .lit (.int .u64 7), .lit (.int .u64 11), .lit (.int .u64 13), .lit (.int .u64 17), .lit (.int .u64 19), .lit (.int .u64 23), .lit (.int .u64 29), .lit (.int .u64 31), .lit (.int .u64 37)]

/-- 'specielaw17.LinearHolds': WHATEVER THE INPUT: true; the input reads as it did. -/
def linearHoldsSpec : ChangeSpec := { name := "linearHolds", fn := fun _ => fun
  | [d1, d2, d3] => { results := [.lit (.bool true)], args := [d1, d2, d3] }
  | _ => none }
def linearHoldsRow : OpenClaim := { program := "ytijedphpcocfnaadoor", sum := "4ff0be8bfa4854f4226eddb52b10d480813b02aa7f60c1a1a1f26936f8ebf276", func := "specie/specielaw17.LinearHolds", spec := "linearHolds", unfollowed := true, recurses := true, named := ["specie/prime.bases", "math/bits.deBruijn64tab", "math/bits.divideError", "math/bits.overflowError"], apart := false, laid := [("math/bits.deBruijn64tab", laid_math_bits_deBruijn64tab), ("specie/prime.bases", laid_specie_prime_bases)] }
def LinearHoldsSaid : Prop := linearHoldsRow.holds Tryd.pinned (OpenSpec.ofChange linearHoldsSpec)

/-- ITS FALSE NEIGHBOUR: 'it returns false'. Refute it at one input. -/
def linearHoldsWrong : ChangeSpec := { name := "linearHolds", fn := fun _ => fun
  | [d1, d2, d3] => { results := [.lit (.bool false)], args := [d1, d2, d3] }
  | _ => none }
def LinearHoldsWrongFalsely : Prop := linearHoldsRow.holds Tryd.pinned (OpenSpec.ofChange linearHoldsWrong)

/-- 'specielaw17.LinearResponds': WHATEVER THE INPUT: true; the input reads as it did. -/
def linearRespondsSpec : ChangeSpec := { name := "linearResponds", fn := fun _ => fun
  | [d1, d2, d3, d4, d5] => { results := [.lit (.bool true)], args := [d1, d2, d3, d4, d5] }
  | _ => none }
def linearRespondsRow : OpenClaim := { program := "ytijedphpcocfnaadoor", sum := "4ff0be8bfa4854f4226eddb52b10d480813b02aa7f60c1a1a1f26936f8ebf276", func := "specie/specielaw17.LinearResponds", spec := "linearResponds", unfollowed := true, recurses := true, named := ["specie/prime.bases", "math/bits.deBruijn64tab", "math/bits.divideError", "math/bits.overflowError"], apart := false, laid := [("math/bits.deBruijn64tab", laid_math_bits_deBruijn64tab), ("specie/prime.bases", laid_specie_prime_bases)] }
def LinearRespondsSaid : Prop := linearRespondsRow.holds Tryd.pinned (OpenSpec.ofChange linearRespondsSpec)

/-- ITS FALSE NEIGHBOUR: 'it returns false'. Refute it at one input. -/
def linearRespondsWrong : ChangeSpec := { name := "linearResponds", fn := fun _ => fun
  | [d1, d2, d3, d4, d5] => { results := [.lit (.bool false)], args := [d1, d2, d3, d4, d5] }
  | _ => none }
def LinearRespondsWrongFalsely : Prop := linearRespondsRow.holds Tryd.pinned (OpenSpec.ofChange linearRespondsWrong)

/-- 'specielaw17.LinearZero': WHATEVER THE INPUT: true; the input reads as it did. -/
def linearZeroSpec : ChangeSpec := { name := "linearZero", fn := fun _ => fun
  | [d1, d2, d3, d4, d5, d6] => { results := [.lit (.bool true)], args := [d1, d2, d3, d4, d5, d6] }
  | _ => none }
def linearZeroRow : OpenClaim := { program := "ytijedphpcocfnaadoor", sum := "4ff0be8bfa4854f4226eddb52b10d480813b02aa7f60c1a1a1f26936f8ebf276", func := "specie/specielaw17.LinearZero", spec := "linearZero", unfollowed := true, recurses := true, named := ["specie/prime.bases", "math/bits.deBruijn64tab", "math/bits.divideError", "math/bits.overflowError"], apart := false, laid := [("math/bits.deBruijn64tab", laid_math_bits_deBruijn64tab), ("specie/prime.bases", laid_specie_prime_bases)] }
def LinearZeroSaid : Prop := linearZeroRow.holds Tryd.pinned (OpenSpec.ofChange linearZeroSpec)

/-- ITS FALSE NEIGHBOUR: 'it returns false'. Refute it at one input. -/
def linearZeroWrong : ChangeSpec := { name := "linearZero", fn := fun _ => fun
  | [d1, d2, d3, d4, d5, d6] => { results := [.lit (.bool false)], args := [d1, d2, d3, d4, d5, d6] }
  | _ => none }
def LinearZeroWrongFalsely : Prop := linearZeroRow.holds Tryd.pinned (OpenSpec.ofChange linearZeroWrong)

/-- 'specielaw19.ChoiceChecks': WHATEVER THE INPUT: true; the input reads as it did. -/
def choiceChecksSpec : ChangeSpec := { name := "choiceChecks", fn := fun _ => fun
  | [d1, d2, d3, d4, d5] => { results := [.lit (.bool true)], args := [d1, d2, d3, d4, d5] }
  | _ => none }
def choiceChecksRow : OpenClaim := { program := "ytijedphpcocfnaadoor", sum := "4ff0be8bfa4854f4226eddb52b10d480813b02aa7f60c1a1a1f26936f8ebf276", func := "specie/specielaw19.ChoiceChecks", spec := "choiceChecks", unfollowed := true, recurses := true, named := ["specie/prime.bases", "math/bits.deBruijn64tab", "math/bits.divideError", "math/bits.overflowError"], apart := false, laid := [("math/bits.deBruijn64tab", laid_math_bits_deBruijn64tab), ("specie/prime.bases", laid_specie_prime_bases)] }
def ChoiceChecksSaid : Prop := choiceChecksRow.holds Tryd.pinned (OpenSpec.ofChange choiceChecksSpec)

/-- ITS FALSE NEIGHBOUR: 'it returns false'. Refute it at one input. -/
def choiceChecksWrong : ChangeSpec := { name := "choiceChecks", fn := fun _ => fun
  | [d1, d2, d3, d4, d5] => { results := [.lit (.bool false)], args := [d1, d2, d3, d4, d5] }
  | _ => none }
def ChoiceChecksWrongFalsely : Prop := choiceChecksRow.holds Tryd.pinned (OpenSpec.ofChange choiceChecksWrong)

/-- 'specielaw19.ChoiceHides': WHATEVER THE INPUT: true; the input reads as it did. -/
def choiceHidesSpec : ChangeSpec := { name := "choiceHides", fn := fun _ => fun
  | [d1, d2, d3, d4] => { results := [.lit (.bool true)], args := [d1, d2, d3, d4] }
  | _ => none }
def choiceHidesRow : OpenClaim := { program := "ytijedphpcocfnaadoor", sum := "4ff0be8bfa4854f4226eddb52b10d480813b02aa7f60c1a1a1f26936f8ebf276", func := "specie/specielaw19.ChoiceHides", spec := "choiceHides", unfollowed := true, recurses := true, named := ["specie/prime.bases", "math/bits.deBruijn64tab", "math/bits.divideError", "math/bits.overflowError"], apart := false, laid := [("math/bits.deBruijn64tab", laid_math_bits_deBruijn64tab), ("specie/prime.bases", laid_specie_prime_bases)] }
def ChoiceHidesSaid : Prop := choiceHidesRow.holds Tryd.pinned (OpenSpec.ofChange choiceHidesSpec)

/-- ITS FALSE NEIGHBOUR: 'it returns false'. Refute it at one input. -/
def choiceHidesWrong : ChangeSpec := { name := "choiceHides", fn := fun _ => fun
  | [d1, d2, d3, d4] => { results := [.lit (.bool false)], args := [d1, d2, d3, d4] }
  | _ => none }
def ChoiceHidesWrongFalsely : Prop := choiceHidesRow.holds Tryd.pinned (OpenSpec.ofChange choiceHidesWrong)

/-- 'specielaw19.ChoiceSimulates': WHATEVER THE INPUT: true; the input reads as it did. -/
def choiceSimulatesSpec : ChangeSpec := { name := "choiceSimulates", fn := fun _ => fun
  | [d1, d2, d3, d4, d5] => { results := [.lit (.bool true)], args := [d1, d2, d3, d4, d5] }
  | _ => none }
def choiceSimulatesRow : OpenClaim := { program := "ytijedphpcocfnaadoor", sum := "4ff0be8bfa4854f4226eddb52b10d480813b02aa7f60c1a1a1f26936f8ebf276", func := "specie/specielaw19.ChoiceSimulates", spec := "choiceSimulates", unfollowed := true, recurses := true, named := ["specie/prime.bases", "math/bits.deBruijn64tab", "math/bits.divideError", "math/bits.overflowError"], apart := false, laid := [("math/bits.deBruijn64tab", laid_math_bits_deBruijn64tab), ("specie/prime.bases", laid_specie_prime_bases)] }
def ChoiceSimulatesSaid : Prop := choiceSimulatesRow.holds Tryd.pinned (OpenSpec.ofChange choiceSimulatesSpec)

/-- ITS FALSE NEIGHBOUR: 'it returns false'. Refute it at one input. -/
def choiceSimulatesWrong : ChangeSpec := { name := "choiceSimulates", fn := fun _ => fun
  | [d1, d2, d3, d4, d5] => { results := [.lit (.bool false)], args := [d1, d2, d3, d4, d5] }
  | _ => none }
def ChoiceSimulatesWrongFalsely : Prop := choiceSimulatesRow.holds Tryd.pinned (OpenSpec.ofChange choiceSimulatesWrong)

/-- 'specielaw19.ChoiceExtracts': WHATEVER THE INPUT: true; the input reads as it did. -/
def choiceExtractsSpec : ChangeSpec := { name := "choiceExtracts", fn := fun _ => fun
  | [d1, d2, d3, d4, d5] => { results := [.lit (.bool true)], args := [d1, d2, d3, d4, d5] }
  | _ => none }
def choiceExtractsRow : OpenClaim := { program := "ytijedphpcocfnaadoor", sum := "4ff0be8bfa4854f4226eddb52b10d480813b02aa7f60c1a1a1f26936f8ebf276", func := "specie/specielaw19.ChoiceExtracts", spec := "choiceExtracts", unfollowed := true, recurses := true, named := ["specie/prime.bases", "math/bits.deBruijn64tab", "math/bits.divideError", "math/bits.overflowError"], apart := false, laid := [("math/bits.deBruijn64tab", laid_math_bits_deBruijn64tab), ("specie/prime.bases", laid_specie_prime_bases)] }
def ChoiceExtractsSaid : Prop := choiceExtractsRow.holds Tryd.pinned (OpenSpec.ofChange choiceExtractsSpec)

/-- ITS FALSE NEIGHBOUR: 'it returns false'. Refute it at one input. -/
def choiceExtractsWrong : ChangeSpec := { name := "choiceExtracts", fn := fun _ => fun
  | [d1, d2, d3, d4, d5] => { results := [.lit (.bool false)], args := [d1, d2, d3, d4, d5] }
  | _ => none }
def ChoiceExtractsWrongFalsely : Prop := choiceExtractsRow.holds Tryd.pinned (OpenSpec.ofChange choiceExtractsWrong)

/- THE SECOND FORM. 'bulk': how many values and letters a reading holds, each counted each time it is reached (what is shared counts as often as it is met; a slice's spare places count too). A statement '..UptoSaid' is the law's where the arguments, and the package variables that the reading takes, are together of bulk at most 1048576: NARROWER than '..Said'. Prove '..Said' where nothing that the law and all that it calls make is longer than what came in: it says more and counts as full. Else prove '..UptoSaid'. A law counts once. -/
mutual
def uptoBulk {H : Type} : DataW H → Nat
  | .lit (.string bytes) => bytes.length + 1
  | .lit _ => 1
  | .nil => 1
  | .ptr d => uptoBulk d + 1
  | .slice elems spare => uptoBulkAll elems + uptoBulkAll spare + 1
  | .agg parts => uptoBulkAll parts + 1
  | .iface _ d => uptoBulk d + 1
  | .map entries => uptoBulkEntries entries + 1
  | .held _ => 1
def uptoBulkAll {H : Type} : List (DataW H) → Nat
  | [] => 0
  | d :: r => uptoBulk d + uptoBulkAll r
def uptoBulkEntries {H : Type} : List (Lit × DataW H) → Nat
  | [] => 0
  | x :: r => uptoBulkEntry x + uptoBulkEntries r
def uptoBulkEntry {H : Type} : Lit × DataW H → Nat
  | (.string bytes, d) => bytes.length + uptoBulk d + 1
  | (_, d) => uptoBulk d + 1
 end
def uptoSmall : (H : Type) → List (DataW H) → Bool := fun _ ds => decide (uptoBulkAll ds ≤ 1048576)
def OpenSpec.upto (s : _root_.Go.ChangeSpec) : _root_.Go.OpenSpec := { _root_.Go.OpenSpec.ofChange s with cond := some uptoSmall }

/-- 'specielaw17.LinearHolds', WHERE WHAT IT READS IS OF BULK AT MOST 1048576: true; the input reads as it did. -/
def linearHoldsUptoRow : OpenClaim := { program := "ytijedphpcocfnaadoor", sum := "4ff0be8bfa4854f4226eddb52b10d480813b02aa7f60c1a1a1f26936f8ebf276", func := "specie/specielaw17.LinearHolds", spec := "linearHolds", unfollowed := true, recurses := true, named := ["specie/prime.bases", "math/bits.deBruijn64tab", "math/bits.divideError", "math/bits.overflowError"], apart := false, laid := [("math/bits.deBruijn64tab", laid_math_bits_deBruijn64tab), ("specie/prime.bases", laid_specie_prime_bases)], narrowed := true }
def LinearHoldsUptoSaid : Prop := linearHoldsUptoRow.holds Tryd.pinned (OpenSpec.upto linearHoldsSpec)

/-- 'specielaw17.LinearResponds', WHERE WHAT IT READS IS OF BULK AT MOST 1048576: true; the input reads as it did. -/
def linearRespondsUptoRow : OpenClaim := { program := "ytijedphpcocfnaadoor", sum := "4ff0be8bfa4854f4226eddb52b10d480813b02aa7f60c1a1a1f26936f8ebf276", func := "specie/specielaw17.LinearResponds", spec := "linearResponds", unfollowed := true, recurses := true, named := ["specie/prime.bases", "math/bits.deBruijn64tab", "math/bits.divideError", "math/bits.overflowError"], apart := false, laid := [("math/bits.deBruijn64tab", laid_math_bits_deBruijn64tab), ("specie/prime.bases", laid_specie_prime_bases)], narrowed := true }
def LinearRespondsUptoSaid : Prop := linearRespondsUptoRow.holds Tryd.pinned (OpenSpec.upto linearRespondsSpec)

/-- 'specielaw17.LinearZero', WHERE WHAT IT READS IS OF BULK AT MOST 1048576: true; the input reads as it did. -/
def linearZeroUptoRow : OpenClaim := { program := "ytijedphpcocfnaadoor", sum := "4ff0be8bfa4854f4226eddb52b10d480813b02aa7f60c1a1a1f26936f8ebf276", func := "specie/specielaw17.LinearZero", spec := "linearZero", unfollowed := true, recurses := true, named := ["specie/prime.bases", "math/bits.deBruijn64tab", "math/bits.divideError", "math/bits.overflowError"], apart := false, laid := [("math/bits.deBruijn64tab", laid_math_bits_deBruijn64tab), ("specie/prime.bases", laid_specie_prime_bases)], narrowed := true }
def LinearZeroUptoSaid : Prop := linearZeroUptoRow.holds Tryd.pinned (OpenSpec.upto linearZeroSpec)

/-- 'specielaw19.ChoiceChecks', WHERE WHAT IT READS IS OF BULK AT MOST 1048576: true; the input reads as it did. -/
def choiceChecksUptoRow : OpenClaim := { program := "ytijedphpcocfnaadoor", sum := "4ff0be8bfa4854f4226eddb52b10d480813b02aa7f60c1a1a1f26936f8ebf276", func := "specie/specielaw19.ChoiceChecks", spec := "choiceChecks", unfollowed := true, recurses := true, named := ["specie/prime.bases", "math/bits.deBruijn64tab", "math/bits.divideError", "math/bits.overflowError"], apart := false, laid := [("math/bits.deBruijn64tab", laid_math_bits_deBruijn64tab), ("specie/prime.bases", laid_specie_prime_bases)], narrowed := true }
def ChoiceChecksUptoSaid : Prop := choiceChecksUptoRow.holds Tryd.pinned (OpenSpec.upto choiceChecksSpec)

/-- 'specielaw19.ChoiceHides', WHERE WHAT IT READS IS OF BULK AT MOST 1048576: true; the input reads as it did. -/
def choiceHidesUptoRow : OpenClaim := { program := "ytijedphpcocfnaadoor", sum := "4ff0be8bfa4854f4226eddb52b10d480813b02aa7f60c1a1a1f26936f8ebf276", func := "specie/specielaw19.ChoiceHides", spec := "choiceHides", unfollowed := true, recurses := true, named := ["specie/prime.bases", "math/bits.deBruijn64tab", "math/bits.divideError", "math/bits.overflowError"], apart := false, laid := [("math/bits.deBruijn64tab", laid_math_bits_deBruijn64tab), ("specie/prime.bases", laid_specie_prime_bases)], narrowed := true }
def ChoiceHidesUptoSaid : Prop := choiceHidesUptoRow.holds Tryd.pinned (OpenSpec.upto choiceHidesSpec)

/-- 'specielaw19.ChoiceSimulates', WHERE WHAT IT READS IS OF BULK AT MOST 1048576: true; the input reads as it did. -/
def choiceSimulatesUptoRow : OpenClaim := { program := "ytijedphpcocfnaadoor", sum := "4ff0be8bfa4854f4226eddb52b10d480813b02aa7f60c1a1a1f26936f8ebf276", func := "specie/specielaw19.ChoiceSimulates", spec := "choiceSimulates", unfollowed := true, recurses := true, named := ["specie/prime.bases", "math/bits.deBruijn64tab", "math/bits.divideError", "math/bits.overflowError"], apart := false, laid := [("math/bits.deBruijn64tab", laid_math_bits_deBruijn64tab), ("specie/prime.bases", laid_specie_prime_bases)], narrowed := true }
def ChoiceSimulatesUptoSaid : Prop := choiceSimulatesUptoRow.holds Tryd.pinned (OpenSpec.upto choiceSimulatesSpec)

/-- 'specielaw19.ChoiceExtracts', WHERE WHAT IT READS IS OF BULK AT MOST 1048576: true; the input reads as it did. -/
def choiceExtractsUptoRow : OpenClaim := { program := "ytijedphpcocfnaadoor", sum := "4ff0be8bfa4854f4226eddb52b10d480813b02aa7f60c1a1a1f26936f8ebf276", func := "specie/specielaw19.ChoiceExtracts", spec := "choiceExtracts", unfollowed := true, recurses := true, named := ["specie/prime.bases", "math/bits.deBruijn64tab", "math/bits.divideError", "math/bits.overflowError"], apart := false, laid := [("math/bits.deBruijn64tab", laid_math_bits_deBruijn64tab), ("specie/prime.bases", laid_specie_prime_bases)], narrowed := true }
def ChoiceExtractsUptoSaid : Prop := choiceExtractsUptoRow.holds Tryd.pinned (OpenSpec.upto choiceExtractsSpec)

end Rows
end Go.Proofs.YtijedphpcocfnaaDoor
