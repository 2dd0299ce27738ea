/-
  DERIVED. GIVEN WITH THE SEED: THE CARDS: each row of YtcnaogdgjkpkmaaGreatDoorRows.lean that lists a variable, with what it lists TIED to the program's text (the seventh form; the later family's looks); each row that meets fmt, with fmt's text TOLD by the authors' own Lean function (tested against real Go, not proved from fmt's source: count such statements apart). THE CARD IS WHAT COUNTS. Prove the row's statement (the work); the ties are given (YtcnaogdgjkpkmaaGreatDoorTie.lean); close each card by the builder's one call (the guide's Derived/Test/ToyasCard.lean, 'card_holds'). Laid BY PROGRAM, IN A SANDBOX (cutbox-door.mjs). By AI agents, Wed Nov 11 2026. No macro, syntax, notation, axiom, sorry.
-/
import Derived.Test.YtcnaogdgjkpkmaaGreatDoorRows
import GoSem.ClaimSeven
namespace Go.Proofs.YtcnaogdgjkpkmaaGreatDoor
namespace Rows

/-- THE TIED CARD OF 'etchantlaw29.ProofChecks'. -/
def proofChecksCard : Claim7 := { stood := { row := proofChecksRow, standIns := [], harness := (true, "b31204fa1a97c045df346f07d6a55e8709810c9c1e9fd09b7b5ef7f92c9faf78"), looks := true }, kinds := [], alts := [], laidByText := true, laidKinds := [.data, .data, .data, .sentinel, .sentinel], laidTests := true, laidLooks := .later }
def ProofChecksCardSaid : Prop := Claim7.holds Tryz.pinned (.plain (OpenSpec.ofChange proofChecksSpec)) proofChecksCard

/-- THE TIED CARD OF 'etchantlaw29.ProofCodes'. -/
def proofCodesCard : Claim7 := { stood := { row := proofCodesRow, standIns := [], harness := (true, "b31204fa1a97c045df346f07d6a55e8709810c9c1e9fd09b7b5ef7f92c9faf78"), looks := true }, kinds := [], alts := [], laidByText := true, laidKinds := [.data, .data, .data, .sentinel, .sentinel], laidTests := true, laidLooks := .later }
def ProofCodesCardSaid : Prop := Claim7.holds Tryz.pinned (.plain (OpenSpec.ofChange proofCodesSpec)) proofCodesCard

/-- THE TIED CARD OF 'etchantlaw29.ProofSound'. -/
def proofSoundCard : Claim7 := { stood := { row := proofSoundRow, standIns := [], harness := (true, "b31204fa1a97c045df346f07d6a55e8709810c9c1e9fd09b7b5ef7f92c9faf78"), looks := true }, kinds := [], alts := [], laidByText := true, laidKinds := [.data, .data, .data, .sentinel, .sentinel], laidTests := true, laidLooks := .later }
def ProofSoundCardSaid : Prop := Claim7.holds Tryz.pinned (.plain (OpenSpec.ofChange proofSoundSpec)) proofSoundCard

/-- THE TIED CARD OF 'etchantlaw29.ProofPaths'. -/
def proofPathsCard : Claim7 := { stood := { row := proofPathsRow, standIns := [], harness := (true, "b31204fa1a97c045df346f07d6a55e8709810c9c1e9fd09b7b5ef7f92c9faf78"), looks := true }, kinds := [], alts := [], laidByText := true, laidKinds := [.data, .data, .data, .sentinel, .sentinel], laidTests := true, laidLooks := .later }
def ProofPathsCardSaid : Prop := Claim7.holds Tryz.pinned (.plain (OpenSpec.ofChange proofPathsSpec)) proofPathsCard

/-- THE SECOND FORM's CARD OF 'etchantlaw29.ProofChecks'. -/
def proofChecksUptoCard : Claim7 := { stood := { row := proofChecksUptoRow, standIns := [], harness := (true, "b31204fa1a97c045df346f07d6a55e8709810c9c1e9fd09b7b5ef7f92c9faf78"), looks := true }, kinds := [], alts := [], laidByText := true, laidKinds := [.data, .data, .data, .sentinel, .sentinel], laidTests := true, laidLooks := .later }
def ProofChecksUptoCardSaid : Prop := Claim7.holds Tryz.pinned (.plain (OpenSpec.upto proofChecksSpec)) proofChecksUptoCard

/-- THE SECOND FORM's CARD OF 'etchantlaw29.ProofCodes'. -/
def proofCodesUptoCard : Claim7 := { stood := { row := proofCodesUptoRow, standIns := [], harness := (true, "b31204fa1a97c045df346f07d6a55e8709810c9c1e9fd09b7b5ef7f92c9faf78"), looks := true }, kinds := [], alts := [], laidByText := true, laidKinds := [.data, .data, .data, .sentinel, .sentinel], laidTests := true, laidLooks := .later }
def ProofCodesUptoCardSaid : Prop := Claim7.holds Tryz.pinned (.plain (OpenSpec.upto proofCodesSpec)) proofCodesUptoCard

/-- THE SECOND FORM's CARD OF 'etchantlaw29.ProofSound'. -/
def proofSoundUptoCard : Claim7 := { stood := { row := proofSoundUptoRow, standIns := [], harness := (true, "b31204fa1a97c045df346f07d6a55e8709810c9c1e9fd09b7b5ef7f92c9faf78"), looks := true }, kinds := [], alts := [], laidByText := true, laidKinds := [.data, .data, .data, .sentinel, .sentinel], laidTests := true, laidLooks := .later }
def ProofSoundUptoCardSaid : Prop := Claim7.holds Tryz.pinned (.plain (OpenSpec.upto proofSoundSpec)) proofSoundUptoCard

/-- THE SECOND FORM's CARD OF 'etchantlaw29.ProofPaths'. -/
def proofPathsUptoCard : Claim7 := { stood := { row := proofPathsUptoRow, standIns := [], harness := (true, "b31204fa1a97c045df346f07d6a55e8709810c9c1e9fd09b7b5ef7f92c9faf78"), looks := true }, kinds := [], alts := [], laidByText := true, laidKinds := [.data, .data, .data, .sentinel, .sentinel], laidTests := true, laidLooks := .later }
def ProofPathsUptoCardSaid : Prop := Claim7.holds Tryz.pinned (.plain (OpenSpec.upto proofPathsSpec)) proofPathsUptoCard
end Rows
end Go.Proofs.YtcnaogdgjkpkmaaGreatDoor
