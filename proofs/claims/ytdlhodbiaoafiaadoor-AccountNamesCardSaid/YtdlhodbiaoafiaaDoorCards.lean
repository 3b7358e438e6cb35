/-
  DERIVED. GIVEN WITH THE SEED: THE CARDS: each row of YtdlhodbiaoafiaaDoorRows.lean that lists a variable, with what it lists TIED to the program's text (the seventh form; the later family's looks); each row that meets fmt, with fmt's text TOLD by the authors' own Lean function (tested against real Go, not proved from fmt's source: count such statements apart). THE CARD IS WHAT COUNTS. Prove the row's statement (the work); the ties are given (YtdlhodbiaoafiaaDoorTie.lean); close each card by the builder's one call (the guide's Derived/Test/ToyasCard.lean, 'card_holds'). Laid BY PROGRAM, IN A SANDBOX (cutbox-door.mjs). By AI agents, Wed Nov 11 2026. No macro, syntax, notation, axiom, sorry.
-/
import Derived.Test.YtdlhodbiaoafiaaDoorRows
import GoSem.ClaimSeven
namespace Go.Proofs.YtdlhodbiaoafiaaDoor
namespace Rows

/-- THE TIED CARD OF 'specielaw51.TracingKept'. -/
def tracingKeptCard : Claim7 := { stood := { row := tracingKeptRow, standIns := [], harness := (true, "6c6ace14759dc881c9010eb9b120fc686be0bebc457aa034d6e41ab5672da890"), looks := false }, kinds := [], alts := [], laidByText := true, laidKinds := [.data, .data], laidTests := true, laidLooks := .later }
def TracingKeptCardSaid : Prop := Claim7.holds Tryd.pinned (.plain (OpenSpec.ofChange tracingKeptSpec)) tracingKeptCard

/-- THE TIED CARD OF 'specielaw51.TracingOpens'. -/
def tracingOpensCard : Claim7 := { stood := { row := tracingOpensRow, standIns := [], harness := (true, "6c6ace14759dc881c9010eb9b120fc686be0bebc457aa034d6e41ab5672da890"), looks := false }, kinds := [], alts := [], laidByText := true, laidKinds := [.data, .data], laidTests := true, laidLooks := .later }
def TracingOpensCardSaid : Prop := Claim7.holds Tryd.pinned (.plain (OpenSpec.ofChange tracingOpensSpec)) tracingOpensCard

/-- THE TIED CARD OF 'specielaw29.AccountNames'. -/
def accountNamesCard : Claim7 := { stood := { row := accountNamesRow, standIns := [], harness := (true, "6c6ace14759dc881c9010eb9b120fc686be0bebc457aa034d6e41ab5672da890"), looks := false }, kinds := [], alts := [], laidByText := true, laidKinds := [.data, .data, .data, .data], laidTests := true, laidLooks := .later }
def AccountNamesCardSaid : Prop := Claim7.holds Tryd.pinned (.plain (OpenSpec.ofChange accountNamesSpec)) accountNamesCard

/-- THE TIED CARD OF 'specielaw16.KnowledgeComplete'. -/
def knowledgeCompleteCard : Claim7 := { stood := { row := knowledgeCompleteRow, standIns := [], harness := (true, "6c6ace14759dc881c9010eb9b120fc686be0bebc457aa034d6e41ab5672da890"), looks := false }, kinds := [], alts := [], laidByText := true, laidKinds := [.data, .data, .data, .data], laidTests := true, laidLooks := .later }
def KnowledgeCompleteCardSaid : Prop := Claim7.holds Tryd.pinned (.plain (OpenSpec.ofChange knowledgeCompleteSpec)) knowledgeCompleteCard

/-- THE SECOND FORM's CARD OF 'specielaw51.TracingKept'. -/
def tracingKeptUptoCard : Claim7 := { stood := { row := tracingKeptUptoRow, standIns := [], harness := (true, "6c6ace14759dc881c9010eb9b120fc686be0bebc457aa034d6e41ab5672da890"), looks := false }, kinds := [], alts := [], laidByText := true, laidKinds := [.data, .data], laidTests := true, laidLooks := .later }
def TracingKeptUptoCardSaid : Prop := Claim7.holds Tryd.pinned (.plain (OpenSpec.upto tracingKeptSpec)) tracingKeptUptoCard

/-- THE SECOND FORM's CARD OF 'specielaw51.TracingOpens'. -/
def tracingOpensUptoCard : Claim7 := { stood := { row := tracingOpensUptoRow, standIns := [], harness := (true, "6c6ace14759dc881c9010eb9b120fc686be0bebc457aa034d6e41ab5672da890"), looks := false }, kinds := [], alts := [], laidByText := true, laidKinds := [.data, .data], laidTests := true, laidLooks := .later }
def TracingOpensUptoCardSaid : Prop := Claim7.holds Tryd.pinned (.plain (OpenSpec.upto tracingOpensSpec)) tracingOpensUptoCard

/-- THE SECOND FORM's CARD OF 'specielaw29.AccountNames'. -/
def accountNamesUptoCard : Claim7 := { stood := { row := accountNamesUptoRow, standIns := [], harness := (true, "6c6ace14759dc881c9010eb9b120fc686be0bebc457aa034d6e41ab5672da890"), looks := false }, kinds := [], alts := [], laidByText := true, laidKinds := [.data, .data, .data, .data], laidTests := true, laidLooks := .later }
def AccountNamesUptoCardSaid : Prop := Claim7.holds Tryd.pinned (.plain (OpenSpec.upto accountNamesSpec)) accountNamesUptoCard

/-- THE SECOND FORM's CARD OF 'specielaw16.KnowledgeComplete'. -/
def knowledgeCompleteUptoCard : Claim7 := { stood := { row := knowledgeCompleteUptoRow, standIns := [], harness := (true, "6c6ace14759dc881c9010eb9b120fc686be0bebc457aa034d6e41ab5672da890"), looks := false }, kinds := [], alts := [], laidByText := true, laidKinds := [.data, .data, .data, .data], laidTests := true, laidLooks := .later }
def KnowledgeCompleteUptoCardSaid : Prop := Claim7.holds Tryd.pinned (.plain (OpenSpec.upto knowledgeCompleteSpec)) knowledgeCompleteUptoCard
end Rows
end Go.Proofs.YtdlhodbiaoafiaaDoor
