/-
  DERIVED. GIVEN WITH THE SEED: THE CARDS: each row of YtofkihlpbfcdkaaDoorRows.lean that lists a variable, with what it lists TIED to the program's text (the seventh form; the later family's looks); each row that meets fmt, with fmt's text TOLD by the authors' own Lean function (tested against real Go, not proved from fmt's source: count such statements apart). THE CARD IS WHAT COUNTS. Prove the row's statement (the work); the ties are given (YtofkihlpbfcdkaaDoorTie.lean); close each card by the builder's one call (the guide's Derived/Test/ToyasCard.lean, 'card_holds'). Laid BY PROGRAM, IN A SANDBOX (cutbox-door.mjs). By AI agents, Wed Nov 11 2026. No macro, syntax, notation, axiom, sorry.
-/
import Derived.Test.YtofkihlpbfcdkaaDoorRows
import GoSem.ClaimSeven
namespace Go.Proofs.YtofkihlpbfcdkaaDoor
namespace Rows

/-- THE TIED CARD OF 'specielaw51.TracingOpens'. -/
def tracingOpensCard : Claim7 := { stood := { row := tracingOpensRow, standIns := [], harness := (true, "1dec3ab3f27f1c4acf67ccb64b9c33cae6dcfed4cc4e1693870c9a7e07526f1b"), looks := false }, kinds := [], alts := [], laidByText := true, laidKinds := [.data, .data], laidTests := true, laidLooks := .later }
def TracingOpensCardSaid : Prop := Claim7.holds Tryd.pinned (.plain (OpenSpec.ofChange tracingOpensSpec)) tracingOpensCard

/-- THE SECOND FORM's CARD OF 'specielaw51.TracingOpens'. -/
def tracingOpensUptoCard : Claim7 := { stood := { row := tracingOpensUptoRow, standIns := [], harness := (true, "1dec3ab3f27f1c4acf67ccb64b9c33cae6dcfed4cc4e1693870c9a7e07526f1b"), looks := false }, kinds := [], alts := [], laidByText := true, laidKinds := [.data, .data], laidTests := true, laidLooks := .later }
def TracingOpensUptoCardSaid : Prop := Claim7.holds Tryd.pinned (.plain (OpenSpec.upto tracingOpensSpec)) tracingOpensUptoCard
end Rows
end Go.Proofs.YtofkihlpbfcdkaaDoor
