/-
  DERIVED. GIVEN WITH THE SEED: THE CARDS: each row of YtnmkmhpgnpojbaaGreatDoorRows.lean that lists a variable, with what it lists TIED to the program's text (the seventh form; the later family's looks); each row that meets fmt, with fmt's text TOLD by the authors' own Lean function (tested against real Go, not proved from fmt's source: count such statements apart). THE CARD IS WHAT COUNTS. Prove the row's statement (the work); the ties are given (YtnmkmhpgnpojbaaGreatDoorTie.lean); close each card by the builder's one call (the guide's Derived/Test/ToyasCard.lean, 'card_holds'). Laid BY PROGRAM, IN A SANDBOX (cutbox-door.mjs). By AI agents, Wed Nov 11 2026. No macro, syntax, notation, axiom, sorry.
-/
import Derived.Test.YtnmkmhpgnpojbaaGreatDoorRows
import GoSem.ClaimSeven
namespace Go.Proofs.YtnmkmhpgnpojbaaGreatDoor
namespace Rows

/-- THE TIED CARD OF 'etchantlaw31.ShoveAdds'. -/
def shoveAddsCard : Claim7 := { stood := { row := shoveAddsRow, standIns := [], harness := (true, "0d302d68ecd5346c100f878df95a82895cb53b0cde64956b3b3f9fd36717de73"), looks := true }, kinds := [], alts := [], laidByText := true, laidKinds := [.data, .data, .data], laidTests := true, laidLooks := .later }
def ShoveAddsCardSaid : Prop := Claim7.holds Tryz.pinned (.plain (OpenSpec.ofChange shoveAddsSpec)) shoveAddsCard

/-- THE TIED CARD OF 'etchantlaw29.ProofChecks'. -/
def proofChecksCard : Claim7 := { stood := { row := proofChecksRow, standIns := [], harness := (true, "0d302d68ecd5346c100f878df95a82895cb53b0cde64956b3b3f9fd36717de73"), looks := true }, kinds := [], alts := [], laidByText := true, laidKinds := [.data, .data, .data, .sentinel, .sentinel], laidTests := true, laidLooks := .later }
def ProofChecksCardSaid : Prop := Claim7.holds Tryz.pinned (.plain (OpenSpec.ofChange proofChecksSpec)) proofChecksCard

/-- THE TIED CARD OF 'etchantlaw29.ProofCodes'. -/
def proofCodesCard : Claim7 := { stood := { row := proofCodesRow, standIns := [], harness := (true, "0d302d68ecd5346c100f878df95a82895cb53b0cde64956b3b3f9fd36717de73"), looks := true }, kinds := [], alts := [], laidByText := true, laidKinds := [.data, .data, .data, .sentinel, .sentinel], laidTests := true, laidLooks := .later }
def ProofCodesCardSaid : Prop := Claim7.holds Tryz.pinned (.plain (OpenSpec.ofChange proofCodesSpec)) proofCodesCard

/-- THE TIED CARD OF 'etchantlaw29.ProofSound'. -/
def proofSoundCard : Claim7 := { stood := { row := proofSoundRow, standIns := [], harness := (true, "0d302d68ecd5346c100f878df95a82895cb53b0cde64956b3b3f9fd36717de73"), looks := true }, kinds := [], alts := [], laidByText := true, laidKinds := [.data, .data, .data, .sentinel, .sentinel], laidTests := true, laidLooks := .later }
def ProofSoundCardSaid : Prop := Claim7.holds Tryz.pinned (.plain (OpenSpec.ofChange proofSoundSpec)) proofSoundCard

/-- THE TIED CARD OF 'etchantlaw29.ProofWhole'. -/
def proofWholeCard : Claim7 := { stood := { row := proofWholeRow, standIns := [], harness := (true, "0d302d68ecd5346c100f878df95a82895cb53b0cde64956b3b3f9fd36717de73"), looks := true }, kinds := [], alts := [], laidByText := true, laidKinds := [.data, .data, .data, .sentinel, .sentinel], laidTests := true, laidLooks := .later }
def ProofWholeCardSaid : Prop := Claim7.holds Tryz.pinned (.plain (OpenSpec.ofChange proofWholeSpec)) proofWholeCard

/-- THE TIED CARD OF 'etchantlaw29.ProofPaths'. -/
def proofPathsCard : Claim7 := { stood := { row := proofPathsRow, standIns := [], harness := (true, "0d302d68ecd5346c100f878df95a82895cb53b0cde64956b3b3f9fd36717de73"), looks := true }, kinds := [], alts := [], laidByText := true, laidKinds := [.data, .data, .data, .sentinel, .sentinel], laidTests := true, laidLooks := .later }
def ProofPathsCardSaid : Prop := Claim7.holds Tryz.pinned (.plain (OpenSpec.ofChange proofPathsSpec)) proofPathsCard

/-- THE TIED CARD OF 'etchantlaw30.JournalRuns'. -/
def journalRunsCard : Claim7 := { stood := { row := journalRunsRow, standIns := [], harness := (true, "0d302d68ecd5346c100f878df95a82895cb53b0cde64956b3b3f9fd36717de73"), looks := true }, kinds := [], alts := [], laidByText := true, laidKinds := [.data, .data, .data, .sentinel, .sentinel], laidTests := true, laidLooks := .later }
def JournalRunsCardSaid : Prop := Claim7.holds Tryz.pinned (.plain (OpenSpec.ofChange journalRunsSpec)) journalRunsCard

/-- THE TIED CARD OF 'etchantlaw30.JournalMazes'. -/
def journalMazesCard : Claim7 := { stood := { row := journalMazesRow, standIns := [], harness := (true, "0d302d68ecd5346c100f878df95a82895cb53b0cde64956b3b3f9fd36717de73"), looks := true }, kinds := [], alts := [], laidByText := true, laidKinds := [.data, .data, .data, .sentinel, .sentinel], laidTests := true, laidLooks := .later }
def JournalMazesCardSaid : Prop := Claim7.holds Tryz.pinned (.plain (OpenSpec.ofChange journalMazesSpec)) journalMazesCard

/-- THE TIED CARD OF 'etchantlaw30.JournalTorn'. -/
def journalTornCard : Claim7 := { stood := { row := journalTornRow, standIns := [], harness := (true, "0d302d68ecd5346c100f878df95a82895cb53b0cde64956b3b3f9fd36717de73"), looks := true }, kinds := [], alts := [], laidByText := true, laidKinds := [.data, .data, .data, .sentinel, .sentinel], laidTests := true, laidLooks := .later }
def JournalTornCardSaid : Prop := Claim7.holds Tryz.pinned (.plain (OpenSpec.ofChange journalTornSpec)) journalTornCard

/-- THE TIED CARD OF 'etchantlaw30.JournalIgnores'. -/
def journalIgnoresCard : Claim7 := { stood := { row := journalIgnoresRow, standIns := [], harness := (true, "0d302d68ecd5346c100f878df95a82895cb53b0cde64956b3b3f9fd36717de73"), looks := true }, kinds := [], alts := [], laidByText := true, laidKinds := [.data, .data, .data, .sentinel, .sentinel], laidTests := true, laidLooks := .later }
def JournalIgnoresCardSaid : Prop := Claim7.holds Tryz.pinned (.plain (OpenSpec.ofChange journalIgnoresSpec)) journalIgnoresCard

/-- THE TIED CARD OF 'etchantlaw30.JournalSteps'. -/
def journalStepsCard : Claim7 := { stood := { row := journalStepsRow, standIns := [], harness := (true, "0d302d68ecd5346c100f878df95a82895cb53b0cde64956b3b3f9fd36717de73"), looks := true }, kinds := [], alts := [], laidByText := true, laidKinds := [.data, .data, .data, .sentinel, .sentinel], laidTests := true, laidLooks := .later }
def JournalStepsCardSaid : Prop := Claim7.holds Tryz.pinned (.plain (OpenSpec.ofChange journalStepsSpec)) journalStepsCard

/-- THE SECOND FORM's CARD OF 'etchantlaw31.ShoveAdds'. -/
def shoveAddsUptoCard : Claim7 := { stood := { row := shoveAddsUptoRow, standIns := [], harness := (true, "0d302d68ecd5346c100f878df95a82895cb53b0cde64956b3b3f9fd36717de73"), looks := true }, kinds := [], alts := [], laidByText := true, laidKinds := [.data, .data, .data], laidTests := true, laidLooks := .later }
def ShoveAddsUptoCardSaid : Prop := Claim7.holds Tryz.pinned (.plain (OpenSpec.upto shoveAddsSpec)) shoveAddsUptoCard

/-- THE SECOND FORM's CARD OF 'etchantlaw29.ProofChecks'. -/
def proofChecksUptoCard : Claim7 := { stood := { row := proofChecksUptoRow, standIns := [], harness := (true, "0d302d68ecd5346c100f878df95a82895cb53b0cde64956b3b3f9fd36717de73"), looks := true }, kinds := [], alts := [], laidByText := true, laidKinds := [.data, .data, .data, .sentinel, .sentinel], laidTests := true, laidLooks := .later }
def ProofChecksUptoCardSaid : Prop := Claim7.holds Tryz.pinned (.plain (OpenSpec.upto proofChecksSpec)) proofChecksUptoCard

/-- THE SECOND FORM's CARD OF 'etchantlaw29.ProofCodes'. -/
def proofCodesUptoCard : Claim7 := { stood := { row := proofCodesUptoRow, standIns := [], harness := (true, "0d302d68ecd5346c100f878df95a82895cb53b0cde64956b3b3f9fd36717de73"), looks := true }, kinds := [], alts := [], laidByText := true, laidKinds := [.data, .data, .data, .sentinel, .sentinel], laidTests := true, laidLooks := .later }
def ProofCodesUptoCardSaid : Prop := Claim7.holds Tryz.pinned (.plain (OpenSpec.upto proofCodesSpec)) proofCodesUptoCard

/-- THE SECOND FORM's CARD OF 'etchantlaw29.ProofSound'. -/
def proofSoundUptoCard : Claim7 := { stood := { row := proofSoundUptoRow, standIns := [], harness := (true, "0d302d68ecd5346c100f878df95a82895cb53b0cde64956b3b3f9fd36717de73"), looks := true }, kinds := [], alts := [], laidByText := true, laidKinds := [.data, .data, .data, .sentinel, .sentinel], laidTests := true, laidLooks := .later }
def ProofSoundUptoCardSaid : Prop := Claim7.holds Tryz.pinned (.plain (OpenSpec.upto proofSoundSpec)) proofSoundUptoCard

/-- THE SECOND FORM's CARD OF 'etchantlaw29.ProofWhole'. -/
def proofWholeUptoCard : Claim7 := { stood := { row := proofWholeUptoRow, standIns := [], harness := (true, "0d302d68ecd5346c100f878df95a82895cb53b0cde64956b3b3f9fd36717de73"), looks := true }, kinds := [], alts := [], laidByText := true, laidKinds := [.data, .data, .data, .sentinel, .sentinel], laidTests := true, laidLooks := .later }
def ProofWholeUptoCardSaid : Prop := Claim7.holds Tryz.pinned (.plain (OpenSpec.upto proofWholeSpec)) proofWholeUptoCard

/-- THE SECOND FORM's CARD OF 'etchantlaw29.ProofPaths'. -/
def proofPathsUptoCard : Claim7 := { stood := { row := proofPathsUptoRow, standIns := [], harness := (true, "0d302d68ecd5346c100f878df95a82895cb53b0cde64956b3b3f9fd36717de73"), looks := true }, kinds := [], alts := [], laidByText := true, laidKinds := [.data, .data, .data, .sentinel, .sentinel], laidTests := true, laidLooks := .later }
def ProofPathsUptoCardSaid : Prop := Claim7.holds Tryz.pinned (.plain (OpenSpec.upto proofPathsSpec)) proofPathsUptoCard

/-- THE SECOND FORM's CARD OF 'etchantlaw30.JournalRuns'. -/
def journalRunsUptoCard : Claim7 := { stood := { row := journalRunsUptoRow, standIns := [], harness := (true, "0d302d68ecd5346c100f878df95a82895cb53b0cde64956b3b3f9fd36717de73"), looks := true }, kinds := [], alts := [], laidByText := true, laidKinds := [.data, .data, .data, .sentinel, .sentinel], laidTests := true, laidLooks := .later }
def JournalRunsUptoCardSaid : Prop := Claim7.holds Tryz.pinned (.plain (OpenSpec.upto journalRunsSpec)) journalRunsUptoCard

/-- THE SECOND FORM's CARD OF 'etchantlaw30.JournalMazes'. -/
def journalMazesUptoCard : Claim7 := { stood := { row := journalMazesUptoRow, standIns := [], harness := (true, "0d302d68ecd5346c100f878df95a82895cb53b0cde64956b3b3f9fd36717de73"), looks := true }, kinds := [], alts := [], laidByText := true, laidKinds := [.data, .data, .data, .sentinel, .sentinel], laidTests := true, laidLooks := .later }
def JournalMazesUptoCardSaid : Prop := Claim7.holds Tryz.pinned (.plain (OpenSpec.upto journalMazesSpec)) journalMazesUptoCard

/-- THE SECOND FORM's CARD OF 'etchantlaw30.JournalTorn'. -/
def journalTornUptoCard : Claim7 := { stood := { row := journalTornUptoRow, standIns := [], harness := (true, "0d302d68ecd5346c100f878df95a82895cb53b0cde64956b3b3f9fd36717de73"), looks := true }, kinds := [], alts := [], laidByText := true, laidKinds := [.data, .data, .data, .sentinel, .sentinel], laidTests := true, laidLooks := .later }
def JournalTornUptoCardSaid : Prop := Claim7.holds Tryz.pinned (.plain (OpenSpec.upto journalTornSpec)) journalTornUptoCard

/-- THE SECOND FORM's CARD OF 'etchantlaw30.JournalIgnores'. -/
def journalIgnoresUptoCard : Claim7 := { stood := { row := journalIgnoresUptoRow, standIns := [], harness := (true, "0d302d68ecd5346c100f878df95a82895cb53b0cde64956b3b3f9fd36717de73"), looks := true }, kinds := [], alts := [], laidByText := true, laidKinds := [.data, .data, .data, .sentinel, .sentinel], laidTests := true, laidLooks := .later }
def JournalIgnoresUptoCardSaid : Prop := Claim7.holds Tryz.pinned (.plain (OpenSpec.upto journalIgnoresSpec)) journalIgnoresUptoCard

/-- THE SECOND FORM's CARD OF 'etchantlaw30.JournalSteps'. -/
def journalStepsUptoCard : Claim7 := { stood := { row := journalStepsUptoRow, standIns := [], harness := (true, "0d302d68ecd5346c100f878df95a82895cb53b0cde64956b3b3f9fd36717de73"), looks := true }, kinds := [], alts := [], laidByText := true, laidKinds := [.data, .data, .data, .sentinel, .sentinel], laidTests := true, laidLooks := .later }
def JournalStepsUptoCardSaid : Prop := Claim7.holds Tryz.pinned (.plain (OpenSpec.upto journalStepsSpec)) journalStepsUptoCard
end Rows
end Go.Proofs.YtnmkmhpgnpojbaaGreatDoor
