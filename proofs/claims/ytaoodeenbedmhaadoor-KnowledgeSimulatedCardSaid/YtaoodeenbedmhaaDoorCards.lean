/-
  DERIVED. GIVEN WITH THE SEED: THE CARDS: each row of YtaoodeenbedmhaaDoorRows.lean that lists a variable, with what it lists TIED to the program's text (the seventh form; the later family's looks); each row that meets fmt, with fmt's text TOLD by the authors' own Lean function (tested against real Go, not proved from fmt's source: count such statements apart). THE CARD IS WHAT COUNTS. Prove the row's statement (the work); the ties are given (YtaoodeenbedmhaaDoorTie.lean); close each card by the builder's one call (the guide's Derived/Test/ToyasCard.lean, 'card_holds'). Laid BY PROGRAM, IN A SANDBOX (cutbox-door.mjs). By AI agents, Wed Nov 11 2026. No macro, syntax, notation, axiom, sorry.
-/
import Derived.Test.YtaoodeenbedmhaaDoorRows
import GoSem.ClaimSeven
namespace Go.Proofs.YtaoodeenbedmhaaDoor
namespace Rows

/-- THE TIED CARD OF 'specielaw29.AccountKeys'. -/
def accountKeysCard : Claim7 := { stood := { row := accountKeysRow, standIns := [], harness := (true, "7149830451bafa81fdf0dd8d74a4cfae3eaa9f40d348df5be4b58d1919a07167"), looks := false }, kinds := [], alts := [], laidByText := true, laidKinds := [.data, .data], laidTests := true, laidLooks := .later }
def AccountKeysCardSaid : Prop := Claim7.holds Tryd.pinned (.plain (OpenSpec.ofChange accountKeysSpec)) accountKeysCard

/-- THE TIED CARD OF 'specielaw16.KnowledgeMoves'. -/
def knowledgeMovesCard : Claim7 := { stood := { row := knowledgeMovesRow, standIns := [], harness := (true, "7149830451bafa81fdf0dd8d74a4cfae3eaa9f40d348df5be4b58d1919a07167"), looks := false }, kinds := [], alts := [], laidByText := true, laidKinds := [.data, .data], laidTests := true, laidLooks := .later }
def KnowledgeMovesCardSaid : Prop := Claim7.holds Tryd.pinned (.plain (OpenSpec.ofChange knowledgeMovesSpec)) knowledgeMovesCard

/-- THE TIED CARD OF 'specielaw16.KnowledgeSimulated'. -/
def knowledgeSimulatedCard : Claim7 := { stood := { row := knowledgeSimulatedRow, standIns := [], harness := (true, "7149830451bafa81fdf0dd8d74a4cfae3eaa9f40d348df5be4b58d1919a07167"), looks := false }, kinds := [], alts := [], laidByText := true, laidKinds := [.data, .data], laidTests := true, laidLooks := .later }
def KnowledgeSimulatedCardSaid : Prop := Claim7.holds Tryd.pinned (.plain (OpenSpec.ofChange knowledgeSimulatedSpec)) knowledgeSimulatedCard

/-- THE TIED CARD OF 'specielaw29.AccountMessages'. -/
def accountMessagesCard : Claim7 := { stood := { row := accountMessagesRow, standIns := [], harness := (true, "7149830451bafa81fdf0dd8d74a4cfae3eaa9f40d348df5be4b58d1919a07167"), looks := false }, kinds := [], alts := [], laidByText := true, laidKinds := [.data, .data], laidTests := true, laidLooks := .later }
def AccountMessagesCardSaid : Prop := Claim7.holds Tryd.pinned (.plain (OpenSpec.ofChange accountMessagesSpec)) accountMessagesCard

/-- THE SECOND FORM's CARD OF 'specielaw29.AccountKeys'. -/
def accountKeysUptoCard : Claim7 := { stood := { row := accountKeysUptoRow, standIns := [], harness := (true, "7149830451bafa81fdf0dd8d74a4cfae3eaa9f40d348df5be4b58d1919a07167"), looks := false }, kinds := [], alts := [], laidByText := true, laidKinds := [.data, .data], laidTests := true, laidLooks := .later }
def AccountKeysUptoCardSaid : Prop := Claim7.holds Tryd.pinned (.plain (OpenSpec.upto accountKeysSpec)) accountKeysUptoCard

/-- THE SECOND FORM's CARD OF 'specielaw16.KnowledgeMoves'. -/
def knowledgeMovesUptoCard : Claim7 := { stood := { row := knowledgeMovesUptoRow, standIns := [], harness := (true, "7149830451bafa81fdf0dd8d74a4cfae3eaa9f40d348df5be4b58d1919a07167"), looks := false }, kinds := [], alts := [], laidByText := true, laidKinds := [.data, .data], laidTests := true, laidLooks := .later }
def KnowledgeMovesUptoCardSaid : Prop := Claim7.holds Tryd.pinned (.plain (OpenSpec.upto knowledgeMovesSpec)) knowledgeMovesUptoCard

/-- THE SECOND FORM's CARD OF 'specielaw16.KnowledgeSimulated'. -/
def knowledgeSimulatedUptoCard : Claim7 := { stood := { row := knowledgeSimulatedUptoRow, standIns := [], harness := (true, "7149830451bafa81fdf0dd8d74a4cfae3eaa9f40d348df5be4b58d1919a07167"), looks := false }, kinds := [], alts := [], laidByText := true, laidKinds := [.data, .data], laidTests := true, laidLooks := .later }
def KnowledgeSimulatedUptoCardSaid : Prop := Claim7.holds Tryd.pinned (.plain (OpenSpec.upto knowledgeSimulatedSpec)) knowledgeSimulatedUptoCard

/-- THE SECOND FORM's CARD OF 'specielaw29.AccountMessages'. -/
def accountMessagesUptoCard : Claim7 := { stood := { row := accountMessagesUptoRow, standIns := [], harness := (true, "7149830451bafa81fdf0dd8d74a4cfae3eaa9f40d348df5be4b58d1919a07167"), looks := false }, kinds := [], alts := [], laidByText := true, laidKinds := [.data, .data], laidTests := true, laidLooks := .later }
def AccountMessagesUptoCardSaid : Prop := Claim7.holds Tryd.pinned (.plain (OpenSpec.upto accountMessagesSpec)) accountMessagesUptoCard
end Rows
end Go.Proofs.YtaoodeenbedmhaaDoor
