/-
  DERIVED. GIVEN WITH THE SEED: THE CARDS: each row of YtdlhodbiaoafiaaGreatDoorRows.lean that lists a variable, with what it lists TIED to the program's text (the seventh form; the later family's looks); each row that meets fmt, with fmt's text TOLD by the authors' own Lean function (tested against real Go, not proved from fmt's source: count such statements apart). THE CARD IS WHAT COUNTS. Prove the row's statement (the work); the ties are given (YtdlhodbiaoafiaaGreatDoorTie.lean); close each card by the builder's one call (the guide's Derived/Test/ToyasCard.lean, 'card_holds'). Laid BY PROGRAM, IN A SANDBOX (cutbox-door.mjs). By AI agents, Wed Nov 11 2026. No macro, syntax, notation, axiom, sorry.
-/
import Derived.Test.YtdlhodbiaoafiaaGreatDoorRows
import GoSem.ClaimSeven
namespace Go.Proofs.YtdlhodbiaoafiaaGreatDoor
namespace Rows

/-- THE TIED CARD OF 'specielaw29.AccountProofs'. -/
def accountProofsCard : Claim7 := { stood := { row := accountProofsRow, standIns := [], harness := (true, "51dded3353d7e0937d25129da4ab8736cc188d7cfc2cfaf5cbacbd2560fb1226"), looks := false }, kinds := [], alts := [], laidByText := true, laidKinds := [.data, .data, .data, .data], laidTests := true, laidLooks := .later }
def AccountProofsCardSaid : Prop := Claim7.holds Tryz.pinned (.plain (OpenSpec.ofChange accountProofsSpec)) accountProofsCard

/-- THE TIED CARD OF 'specielaw18.EqualityChecks'. -/
def equalityChecksCard : Claim7 := { stood := { row := equalityChecksRow, standIns := [], harness := (true, "51dded3353d7e0937d25129da4ab8736cc188d7cfc2cfaf5cbacbd2560fb1226"), looks := false }, kinds := [], alts := [], laidByText := true, laidKinds := [.data, .data, .data, .data], laidTests := true, laidLooks := .later }
def EqualityChecksCardSaid : Prop := Claim7.holds Tryz.pinned (.plain (OpenSpec.ofChange equalityChecksSpec)) equalityChecksCard

/-- THE TIED CARD OF 'specielaw18.EqualityProves'. -/
def equalityProvesCard : Claim7 := { stood := { row := equalityProvesRow, standIns := [], harness := (true, "51dded3353d7e0937d25129da4ab8736cc188d7cfc2cfaf5cbacbd2560fb1226"), looks := false }, kinds := [], alts := [], laidByText := true, laidKinds := [.data, .data, .data, .data], laidTests := true, laidLooks := .later }
def EqualityProvesCardSaid : Prop := Claim7.holds Tryz.pinned (.plain (OpenSpec.ofChange equalityProvesSpec)) equalityProvesCard

/-- THE TIED CARD OF 'specielaw18.EqualityBound'. -/
def equalityBoundCard : Claim7 := { stood := { row := equalityBoundRow, standIns := [], harness := (true, "51dded3353d7e0937d25129da4ab8736cc188d7cfc2cfaf5cbacbd2560fb1226"), looks := false }, kinds := [], alts := [], laidByText := true, laidKinds := [.data, .data, .data, .data], laidTests := true, laidLooks := .later }
def EqualityBoundCardSaid : Prop := Claim7.holds Tryz.pinned (.plain (OpenSpec.ofChange equalityBoundSpec)) equalityBoundCard

/-- THE SECOND FORM's CARD OF 'specielaw29.AccountProofs'. -/
def accountProofsUptoCard : Claim7 := { stood := { row := accountProofsUptoRow, standIns := [], harness := (true, "51dded3353d7e0937d25129da4ab8736cc188d7cfc2cfaf5cbacbd2560fb1226"), looks := false }, kinds := [], alts := [], laidByText := true, laidKinds := [.data, .data, .data, .data], laidTests := true, laidLooks := .later }
def AccountProofsUptoCardSaid : Prop := Claim7.holds Tryz.pinned (.plain (OpenSpec.upto accountProofsSpec)) accountProofsUptoCard

/-- THE SECOND FORM's CARD OF 'specielaw18.EqualityChecks'. -/
def equalityChecksUptoCard : Claim7 := { stood := { row := equalityChecksUptoRow, standIns := [], harness := (true, "51dded3353d7e0937d25129da4ab8736cc188d7cfc2cfaf5cbacbd2560fb1226"), looks := false }, kinds := [], alts := [], laidByText := true, laidKinds := [.data, .data, .data, .data], laidTests := true, laidLooks := .later }
def EqualityChecksUptoCardSaid : Prop := Claim7.holds Tryz.pinned (.plain (OpenSpec.upto equalityChecksSpec)) equalityChecksUptoCard

/-- THE SECOND FORM's CARD OF 'specielaw18.EqualityProves'. -/
def equalityProvesUptoCard : Claim7 := { stood := { row := equalityProvesUptoRow, standIns := [], harness := (true, "51dded3353d7e0937d25129da4ab8736cc188d7cfc2cfaf5cbacbd2560fb1226"), looks := false }, kinds := [], alts := [], laidByText := true, laidKinds := [.data, .data, .data, .data], laidTests := true, laidLooks := .later }
def EqualityProvesUptoCardSaid : Prop := Claim7.holds Tryz.pinned (.plain (OpenSpec.upto equalityProvesSpec)) equalityProvesUptoCard

/-- THE SECOND FORM's CARD OF 'specielaw18.EqualityBound'. -/
def equalityBoundUptoCard : Claim7 := { stood := { row := equalityBoundUptoRow, standIns := [], harness := (true, "51dded3353d7e0937d25129da4ab8736cc188d7cfc2cfaf5cbacbd2560fb1226"), looks := false }, kinds := [], alts := [], laidByText := true, laidKinds := [.data, .data, .data, .data], laidTests := true, laidLooks := .later }
def EqualityBoundUptoCardSaid : Prop := Claim7.holds Tryz.pinned (.plain (OpenSpec.upto equalityBoundSpec)) equalityBoundUptoCard
end Rows
end Go.Proofs.YtdlhodbiaoafiaaGreatDoor
