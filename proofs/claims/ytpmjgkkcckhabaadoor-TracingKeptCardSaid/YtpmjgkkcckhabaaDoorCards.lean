/-
  DERIVED. GIVEN WITH THE SEED: THE CARDS: each row of YtpmjgkkcckhabaaDoorRows.lean that lists a variable, with what it lists TIED to the program's text (the seventh form; the later family's looks); each row that meets fmt, with fmt's text TOLD by the authors' own Lean function (tested against real Go, not proved from fmt's source: count such statements apart). THE CARD IS WHAT COUNTS. Prove the row's statement (the work); the ties are given (YtpmjgkkcckhabaaDoorTie.lean); close each card by the builder's one call (the guide's Derived/Test/ToyasCard.lean, 'card_holds'). Laid BY PROGRAM, IN A SANDBOX (cutbox-door.mjs). By AI agents, Wed Nov 11 2026. No macro, syntax, notation, axiom, sorry.
-/
import Derived.Test.YtpmjgkkcckhabaaDoorRows
import GoSem.ClaimSeven
namespace Go.Proofs.YtpmjgkkcckhabaaDoor
namespace Rows

/-- THE TIED CARD OF 'specielaw51.TracingKept'. -/
def tracingKeptCard : Claim7 := { stood := { row := tracingKeptRow, standIns := [], harness := (true, "fd64867a4c4049d30ad429864c07a73e60c4b98df70e5b4d2ba91209998dc0ee"), looks := false }, kinds := [], alts := [], laidByText := true, laidKinds := [.data, .data], laidTests := true, laidLooks := .later }
def TracingKeptCardSaid : Prop := Claim7.holds Tryd.pinned (.plain (OpenSpec.ofChange tracingKeptSpec)) tracingKeptCard

/-- THE TIED CARD OF 'specielaw51.TracingOpens'. -/
def tracingOpensCard : Claim7 := { stood := { row := tracingOpensRow, standIns := [], harness := (true, "fd64867a4c4049d30ad429864c07a73e60c4b98df70e5b4d2ba91209998dc0ee"), looks := false }, kinds := [], alts := [], laidByText := true, laidKinds := [.data, .data], laidTests := true, laidLooks := .later }
def TracingOpensCardSaid : Prop := Claim7.holds Tryd.pinned (.plain (OpenSpec.ofChange tracingOpensSpec)) tracingOpensCard

/-- THE SECOND FORM's CARD OF 'specielaw51.TracingKept'. -/
def tracingKeptUptoCard : Claim7 := { stood := { row := tracingKeptUptoRow, standIns := [], harness := (true, "fd64867a4c4049d30ad429864c07a73e60c4b98df70e5b4d2ba91209998dc0ee"), looks := false }, kinds := [], alts := [], laidByText := true, laidKinds := [.data, .data], laidTests := true, laidLooks := .later }
def TracingKeptUptoCardSaid : Prop := Claim7.holds Tryd.pinned (.plain (OpenSpec.upto tracingKeptSpec)) tracingKeptUptoCard

/-- THE SECOND FORM's CARD OF 'specielaw51.TracingOpens'. -/
def tracingOpensUptoCard : Claim7 := { stood := { row := tracingOpensUptoRow, standIns := [], harness := (true, "fd64867a4c4049d30ad429864c07a73e60c4b98df70e5b4d2ba91209998dc0ee"), looks := false }, kinds := [], alts := [], laidByText := true, laidKinds := [.data, .data], laidTests := true, laidLooks := .later }
def TracingOpensUptoCardSaid : Prop := Claim7.holds Tryd.pinned (.plain (OpenSpec.upto tracingOpensSpec)) tracingOpensUptoCard
end Rows
end Go.Proofs.YtpmjgkkcckhabaaDoor
