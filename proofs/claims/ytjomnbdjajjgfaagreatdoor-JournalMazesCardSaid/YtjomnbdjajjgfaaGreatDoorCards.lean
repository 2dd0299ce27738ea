/-
  DERIVED. GIVEN WITH THE SEED: THE CARDS: each row of YtjomnbdjajjgfaaGreatDoorRows.lean that lists a variable, with what it lists TIED to the program's text (the seventh form; the later family's looks); each row that meets fmt, with fmt's text TOLD by the authors' own Lean function (tested against real Go, not proved from fmt's source: count such statements apart). THE CARD IS WHAT COUNTS. Prove the row's statement (the work); the ties are given (YtjomnbdjajjgfaaGreatDoorTie.lean); close each card by the builder's one call (the guide's Derived/Test/ToyasCard.lean, 'card_holds'). Laid BY PROGRAM, IN A SANDBOX (cutbox-door.mjs). By AI agents, Wed Nov 11 2026. No macro, syntax, notation, axiom, sorry.
-/
import Derived.Test.YtjomnbdjajjgfaaGreatDoorRows
import GoSem.ClaimSeven
namespace Go.Proofs.YtjomnbdjajjgfaaGreatDoor
namespace Rows

/-- THE TIED CARD OF 'etchantlaw31.ShoveAdds'. -/
def shoveAddsCard : Claim7 := { stood := { row := shoveAddsRow, standIns := [], harness := (true, "362723af805b14424097f26cf684e284da7714f75a48d1dbea9845ced6e4a398"), looks := true }, kinds := [], alts := [], laidByText := true, laidKinds := [.data, .data, .data], laidTests := true, laidLooks := .later }
def ShoveAddsCardSaid : Prop := Claim7.holds Tryz.pinned (.plain (OpenSpec.ofChange shoveAddsSpec)) shoveAddsCard

/-- THE TIED CARD OF 'etchantlaw29.ProofChecks'. -/
def proofChecksCard : Claim7 := { stood := { row := proofChecksRow, standIns := [], harness := (true, "362723af805b14424097f26cf684e284da7714f75a48d1dbea9845ced6e4a398"), looks := true }, kinds := [], alts := [], laidByText := true, laidKinds := [.data, .data, .data, .sentinel, .sentinel], laidTests := true, laidLooks := .later }
def ProofChecksCardSaid : Prop := Claim7.holds Tryz.pinned (.plain (OpenSpec.ofChange proofChecksSpec)) proofChecksCard

/-- THE TIED CARD OF 'etchantlaw30.JournalRuns'. -/
def journalRunsCard : Claim7 := { stood := { row := journalRunsRow, standIns := [], harness := (true, "362723af805b14424097f26cf684e284da7714f75a48d1dbea9845ced6e4a398"), looks := true }, kinds := [], alts := [], laidByText := true, laidKinds := [.data, .data, .data, .sentinel, .sentinel], laidTests := true, laidLooks := .later }
def JournalRunsCardSaid : Prop := Claim7.holds Tryz.pinned (.plain (OpenSpec.ofChange journalRunsSpec)) journalRunsCard

/-- THE TIED CARD OF 'etchantlaw30.JournalMazes'. -/
def journalMazesCard : Claim7 := { stood := { row := journalMazesRow, standIns := [], harness := (true, "362723af805b14424097f26cf684e284da7714f75a48d1dbea9845ced6e4a398"), looks := true }, kinds := [], alts := [], laidByText := true, laidKinds := [.data, .data, .data, .sentinel, .sentinel], laidTests := true, laidLooks := .later }
def JournalMazesCardSaid : Prop := Claim7.holds Tryz.pinned (.plain (OpenSpec.ofChange journalMazesSpec)) journalMazesCard

/-- THE TIED CARD OF 'etchantlaw30.JournalIgnores'. -/
def journalIgnoresCard : Claim7 := { stood := { row := journalIgnoresRow, standIns := [], harness := (true, "362723af805b14424097f26cf684e284da7714f75a48d1dbea9845ced6e4a398"), looks := true }, kinds := [], alts := [], laidByText := true, laidKinds := [.data, .data, .data, .sentinel, .sentinel], laidTests := true, laidLooks := .later }
def JournalIgnoresCardSaid : Prop := Claim7.holds Tryz.pinned (.plain (OpenSpec.ofChange journalIgnoresSpec)) journalIgnoresCard

/-- THE SECOND FORM's CARD OF 'etchantlaw31.ShoveAdds'. -/
def shoveAddsUptoCard : Claim7 := { stood := { row := shoveAddsUptoRow, standIns := [], harness := (true, "362723af805b14424097f26cf684e284da7714f75a48d1dbea9845ced6e4a398"), looks := true }, kinds := [], alts := [], laidByText := true, laidKinds := [.data, .data, .data], laidTests := true, laidLooks := .later }
def ShoveAddsUptoCardSaid : Prop := Claim7.holds Tryz.pinned (.plain (OpenSpec.upto shoveAddsSpec)) shoveAddsUptoCard

/-- THE SECOND FORM's CARD OF 'etchantlaw29.ProofChecks'. -/
def proofChecksUptoCard : Claim7 := { stood := { row := proofChecksUptoRow, standIns := [], harness := (true, "362723af805b14424097f26cf684e284da7714f75a48d1dbea9845ced6e4a398"), looks := true }, kinds := [], alts := [], laidByText := true, laidKinds := [.data, .data, .data, .sentinel, .sentinel], laidTests := true, laidLooks := .later }
def ProofChecksUptoCardSaid : Prop := Claim7.holds Tryz.pinned (.plain (OpenSpec.upto proofChecksSpec)) proofChecksUptoCard

/-- THE SECOND FORM's CARD OF 'etchantlaw30.JournalRuns'. -/
def journalRunsUptoCard : Claim7 := { stood := { row := journalRunsUptoRow, standIns := [], harness := (true, "362723af805b14424097f26cf684e284da7714f75a48d1dbea9845ced6e4a398"), looks := true }, kinds := [], alts := [], laidByText := true, laidKinds := [.data, .data, .data, .sentinel, .sentinel], laidTests := true, laidLooks := .later }
def JournalRunsUptoCardSaid : Prop := Claim7.holds Tryz.pinned (.plain (OpenSpec.upto journalRunsSpec)) journalRunsUptoCard

/-- THE SECOND FORM's CARD OF 'etchantlaw30.JournalMazes'. -/
def journalMazesUptoCard : Claim7 := { stood := { row := journalMazesUptoRow, standIns := [], harness := (true, "362723af805b14424097f26cf684e284da7714f75a48d1dbea9845ced6e4a398"), looks := true }, kinds := [], alts := [], laidByText := true, laidKinds := [.data, .data, .data, .sentinel, .sentinel], laidTests := true, laidLooks := .later }
def JournalMazesUptoCardSaid : Prop := Claim7.holds Tryz.pinned (.plain (OpenSpec.upto journalMazesSpec)) journalMazesUptoCard

/-- THE SECOND FORM's CARD OF 'etchantlaw30.JournalIgnores'. -/
def journalIgnoresUptoCard : Claim7 := { stood := { row := journalIgnoresUptoRow, standIns := [], harness := (true, "362723af805b14424097f26cf684e284da7714f75a48d1dbea9845ced6e4a398"), looks := true }, kinds := [], alts := [], laidByText := true, laidKinds := [.data, .data, .data, .sentinel, .sentinel], laidTests := true, laidLooks := .later }
def JournalIgnoresUptoCardSaid : Prop := Claim7.holds Tryz.pinned (.plain (OpenSpec.upto journalIgnoresSpec)) journalIgnoresUptoCard
end Rows
end Go.Proofs.YtjomnbdjajjgfaaGreatDoor
