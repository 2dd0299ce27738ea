/-
  DERIVED. GIVEN WITH THE SEED: THE CARDS: each row of YtfjjdmpndmbfoaaGreatDoorRows.lean that lists a variable, with what it lists TIED to the program's text (the seventh form; the later family's looks); each row that meets fmt, with fmt's text TOLD by the authors' own Lean function (tested against real Go, not proved from fmt's source: count such statements apart). THE CARD IS WHAT COUNTS. Prove the row's statement (the work); the ties are given (YtfjjdmpndmbfoaaGreatDoorTie.lean); close each card by the builder's one call (the guide's Derived/Test/ToyasCard.lean, 'card_holds'). Laid BY PROGRAM, IN A SANDBOX (cutbox-door.mjs). By AI agents, Wed Nov 11 2026. No macro, syntax, notation, axiom, sorry.
-/
import Derived.Test.YtfjjdmpndmbfoaaGreatDoorRows
import GoSem.ClaimSeven
namespace Go.Proofs.YtfjjdmpndmbfoaaGreatDoor
namespace Rows

/-- THE TIED CARD OF 'etchantlaw30.JournalTorn'. -/
def journalTornCard : Claim7 := { stood := { row := journalTornRow, standIns := [], harness := (true, "e568fbb0000dbbd9bba6e0f5ce9338678a1deabd0edd6a7b5767815f359fd01e"), looks := true }, kinds := [], alts := [], laidByText := true, laidKinds := [.data, .data, .data, .sentinel, .sentinel], laidTests := true, laidLooks := .later }
def JournalTornCardSaid : Prop := Claim7.holds Tryz.pinned (.plain (OpenSpec.ofChange journalTornSpec)) journalTornCard

/-- THE TIED CARD OF 'etchantlaw30.JournalIgnores'. -/
def journalIgnoresCard : Claim7 := { stood := { row := journalIgnoresRow, standIns := [], harness := (true, "e568fbb0000dbbd9bba6e0f5ce9338678a1deabd0edd6a7b5767815f359fd01e"), looks := true }, kinds := [], alts := [], laidByText := true, laidKinds := [.data, .data, .data, .sentinel, .sentinel], laidTests := true, laidLooks := .later }
def JournalIgnoresCardSaid : Prop := Claim7.holds Tryz.pinned (.plain (OpenSpec.ofChange journalIgnoresSpec)) journalIgnoresCard

/-- THE TIED CARD OF 'etchantlaw30.JournalSteps'. -/
def journalStepsCard : Claim7 := { stood := { row := journalStepsRow, standIns := [], harness := (true, "e568fbb0000dbbd9bba6e0f5ce9338678a1deabd0edd6a7b5767815f359fd01e"), looks := true }, kinds := [], alts := [], laidByText := true, laidKinds := [.data, .data, .data, .sentinel, .sentinel], laidTests := true, laidLooks := .later }
def JournalStepsCardSaid : Prop := Claim7.holds Tryz.pinned (.plain (OpenSpec.ofChange journalStepsSpec)) journalStepsCard

/-- THE SECOND FORM's CARD OF 'etchantlaw30.JournalTorn'. -/
def journalTornUptoCard : Claim7 := { stood := { row := journalTornUptoRow, standIns := [], harness := (true, "e568fbb0000dbbd9bba6e0f5ce9338678a1deabd0edd6a7b5767815f359fd01e"), looks := true }, kinds := [], alts := [], laidByText := true, laidKinds := [.data, .data, .data, .sentinel, .sentinel], laidTests := true, laidLooks := .later }
def JournalTornUptoCardSaid : Prop := Claim7.holds Tryz.pinned (.plain (OpenSpec.upto journalTornSpec)) journalTornUptoCard

/-- THE SECOND FORM's CARD OF 'etchantlaw30.JournalIgnores'. -/
def journalIgnoresUptoCard : Claim7 := { stood := { row := journalIgnoresUptoRow, standIns := [], harness := (true, "e568fbb0000dbbd9bba6e0f5ce9338678a1deabd0edd6a7b5767815f359fd01e"), looks := true }, kinds := [], alts := [], laidByText := true, laidKinds := [.data, .data, .data, .sentinel, .sentinel], laidTests := true, laidLooks := .later }
def JournalIgnoresUptoCardSaid : Prop := Claim7.holds Tryz.pinned (.plain (OpenSpec.upto journalIgnoresSpec)) journalIgnoresUptoCard

/-- THE SECOND FORM's CARD OF 'etchantlaw30.JournalSteps'. -/
def journalStepsUptoCard : Claim7 := { stood := { row := journalStepsUptoRow, standIns := [], harness := (true, "e568fbb0000dbbd9bba6e0f5ce9338678a1deabd0edd6a7b5767815f359fd01e"), looks := true }, kinds := [], alts := [], laidByText := true, laidKinds := [.data, .data, .data, .sentinel, .sentinel], laidTests := true, laidLooks := .later }
def JournalStepsUptoCardSaid : Prop := Claim7.holds Tryz.pinned (.plain (OpenSpec.upto journalStepsSpec)) journalStepsUptoCard
end Rows
end Go.Proofs.YtfjjdmpndmbfoaaGreatDoor
