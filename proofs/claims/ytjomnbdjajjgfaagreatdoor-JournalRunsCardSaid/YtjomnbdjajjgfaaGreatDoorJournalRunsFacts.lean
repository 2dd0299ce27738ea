/- Closed facts on the row of etchantlaw30.JournalRuns, each by the kernel. -/
import Derived.Test.YtjomnbdjajjgfaaGreatDoorCards
import Derived.Test.YtjomnbdjajjgfaaGreatDoorTie
import Derived.ProofKit
import Derived.LaidMore
import Derived.OpenShut
import Derived.Below
import Derived.WalkKit
import Derived.ShutString
import Derived.ChangeOld
import Derived.Stop.Joined
import Derived.SevenTiedAt
namespace Go.Proofs.YtjomnbdjajjgfaaGreatDoor.journalRuns
open Go.ChangeShapes Go.WideShapes Go.ChangeAt Go.RowKit
set_option linter.unusedVariables false

theorem own : ownKnob Tryz.prog.godebug = none := by kernel_rfl
theorem laidOut : laidOutB Tryz.prog = true := by kernel_rfl
theorem met (os : Os) (args : Array Value) : laidMetH Tryz.prog Rows.journalRunsRow.laid ((World.doorLaid Tryz.prog 400 os).forCall (fun _ _ => 0) ⟨#[], args, []⟩).memory :=
  laidMetH_of_parts3 (fuel := 8) (laidMet_of_run' 8 (by kernel_rfl) (by kernel_rfl)) (by kernel_rfl) (by kernel_rfl)

theorem c1 : Rows.journalRunsRow.wf (OpenSpec.ofChange Rows.journalRunsSpec) = true := by kernel_rfl
theorem c2 : laidOutB Tryz.prog = true := laidOut
theorem c3 : mapsRowed Tryz.prog = true := by kernel_rfl
theorem c4 : (Rows.journalRunsRow.inPlace == Tryz.prog.inPlace 5) = true := by kernel_rfl
theorem c5 : (Rows.journalRunsRow.unfollowed == Tryz.prog.unfollowed 5) = true := by kernel_rfl
theorem c6 : (Rows.journalRunsRow.recurses == Tryz.prog.recurses 5) = true := by kernel_rfl
theorem c7 : (Rows.journalRunsRow.named == Tryz.prog.varsNamed 5) = true := by kernel_rfl
theorem c8 : Tryz.prog.mayEnter = true := by kernel_rfl
theorem c9 : Tryz.prog.stopsHeard = true := by kernel_rfl
theorem c10 : (Rows.journalRunsRow.lifted == Tryz.prog.liftsFinal) = true := by kernel_rfl
theorem closed : joinedFacts Tryz.prog 5 Tryz.f5 Rows.journalRunsSpec Rows.journalRunsRow = true := by
  unfold joinedFacts
  rw [c1, c2, c3, c4, c5, c6, c7, c8, c9, c10]
  kernel_rfl
theorem named : Tryz.prog.funcNamed "etchant/etchantlaw30.JournalRuns" = some 5 := by kernel_rfl
theorem inst : Tryz.f5.isInstance Tryz.prog Rows.journalRunsRow.origin Rows.journalRunsRow.targs := of_decide_eq_true (by kernel_rfl)
theorem wrap : Tryz.f5.isWrapper Tryz.prog Rows.journalRunsRow.wrapper Rows.journalRunsRow.mainSum := by
  unfold Func.isWrapper
  first | (rw [if_pos (by decide +kernel)]; kernel_rfl) | (rw [if_neg (by decide +kernel)]; exact ⟨rfl, rfl⟩)
theorem wfText : Rows.journalRunsRow.wfByText (OpenSpec.ofChange Rows.journalRunsSpec) = true := by kernel_rfl
theorem mainIs : Tryz.prog.mainIs = some (true, "362723af805b14424097f26cf684e284da7714f75a48d1dbea9845ced6e4a398".toList) := by kernel_rfl
theorem looks : true = Tryz.prog.looks [] := by kernel_rfl
theorem stand : ([22, 59, 62, 5].all fun u => !Tryz.prog.wantsStandIn u) = true := by kernel_rfl
theorem goes : false = Rows.journalRunsRow.goesBy Tryz.prog := by kernel_rfl

end Go.Proofs.YtjomnbdjajjgfaaGreatDoor.journalRuns
