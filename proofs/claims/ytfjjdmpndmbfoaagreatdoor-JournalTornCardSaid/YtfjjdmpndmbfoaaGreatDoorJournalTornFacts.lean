/- Closed facts on the row of etchantlaw30.JournalTorn, each by the kernel. -/
import Derived.Test.YtfjjdmpndmbfoaaGreatDoorCards
import Derived.Test.YtfjjdmpndmbfoaaGreatDoorTie
import Derived.ProofKit
import Derived.LaidMore
import Derived.OpenShut
import Derived.Below
import Derived.WalkKit
import Derived.ShutString
import Derived.ChangeOld
import Derived.Stop.Joined
import Derived.SevenTiedAt
namespace Go.Proofs.YtfjjdmpndmbfoaaGreatDoor.journalTorn
open Go.ChangeShapes Go.WideShapes Go.ChangeAt Go.RowKit
set_option linter.unusedVariables false

theorem own : ownKnob Tryz.prog.godebug = none := by kernel_rfl
theorem laidOut : laidOutB Tryz.prog = true := by kernel_rfl
theorem met (os : Os) (args : Array Value) : laidMetH Tryz.prog Rows.journalTornRow.laid ((World.doorLaid Tryz.prog 400 os).forCall (fun _ _ => 0) ⟨#[], args, []⟩).memory :=
  laidMetH_of_parts3 (fuel := 8) (laidMet_of_run' 8 (by kernel_rfl) (by kernel_rfl)) (by kernel_rfl) (by kernel_rfl)

theorem c1 : Rows.journalTornRow.wf (OpenSpec.ofChange Rows.journalTornSpec) = true := by kernel_rfl
theorem c2 : laidOutB Tryz.prog = true := laidOut
theorem c3 : mapsRowed Tryz.prog = true := by kernel_rfl
theorem c4 : (Rows.journalTornRow.inPlace == Tryz.prog.inPlace 3) = true := by kernel_rfl
theorem c5 : (Rows.journalTornRow.unfollowed == Tryz.prog.unfollowed 3) = true := by kernel_rfl
theorem c6 : (Rows.journalTornRow.recurses == Tryz.prog.recurses 3) = true := by kernel_rfl
theorem c7 : (Rows.journalTornRow.named == Tryz.prog.varsNamed 3) = true := by kernel_rfl
theorem c8 : Tryz.prog.mayEnter = true := by kernel_rfl
theorem c9 : Tryz.prog.stopsHeard = true := by kernel_rfl
theorem c10 : (Rows.journalTornRow.lifted == Tryz.prog.liftsFinal) = true := by kernel_rfl
theorem closed : joinedFacts Tryz.prog 3 Tryz.f3 Rows.journalTornSpec Rows.journalTornRow = true := by
  unfold joinedFacts
  rw [c1, c2, c3, c4, c5, c6, c7, c8, c9, c10]
  kernel_rfl
theorem named : Tryz.prog.funcNamed "etchant/etchantlaw30.JournalTorn" = some 3 := by kernel_rfl
theorem inst : Tryz.f3.isInstance Tryz.prog Rows.journalTornRow.origin Rows.journalTornRow.targs := of_decide_eq_true (by kernel_rfl)
theorem wrap : Tryz.f3.isWrapper Tryz.prog Rows.journalTornRow.wrapper Rows.journalTornRow.mainSum := by
  unfold Func.isWrapper
  first | (rw [if_pos (by decide +kernel)]; kernel_rfl) | (rw [if_neg (by decide +kernel)]; exact ⟨rfl, rfl⟩)
theorem wfText : Rows.journalTornRow.wfByText (OpenSpec.ofChange Rows.journalTornSpec) = true := by kernel_rfl
theorem mainIs : Tryz.prog.mainIs = some (true, "e568fbb0000dbbd9bba6e0f5ce9338678a1deabd0edd6a7b5767815f359fd01e".toList) := by kernel_rfl
theorem looks : true = Tryz.prog.looks [] := by kernel_rfl
theorem stand : ([22, 23].all fun u => !Tryz.prog.wantsStandIn u) = true := by kernel_rfl
theorem goes : false = Rows.journalTornRow.goesBy Tryz.prog := by kernel_rfl

end Go.Proofs.YtfjjdmpndmbfoaaGreatDoor.journalTorn
