/- Closed facts on the row of etchantlaw30.JournalMazes, each by the kernel. -/
import Derived.Test.YtjomnbdjajjgfaaGreatDoorCards
import Derived.Test.YtjomnbdjajjgfaaGreatDoorTie
import Derived.ProofKit
import Derived.LaidMore
import Derived.OpenShut
import Derived.Below
import Derived.WalkKit
import Derived.ShutString
import Derived.ChangeOld
import Derived.Stop.Joined
import Derived.SevenTiedAt
namespace Go.Proofs.YtjomnbdjajjgfaaGreatDoor.journalMazes
open Go.ChangeShapes Go.WideShapes Go.ChangeAt Go.RowKit
set_option linter.unusedVariables false

theorem own : ownKnob Tryz.prog.godebug = none := by kernel_rfl
theorem laidOut : laidOutB Tryz.prog = true := by kernel_rfl
theorem met (os : Os) (args : Array Value) : laidMetH Tryz.prog Rows.journalMazesRow.laid ((World.doorLaid Tryz.prog 400 os).forCall (fun _ _ => 0) ⟨#[], args, []⟩).memory :=
  laidMetH_of_parts3 (fuel := 8) (laidMet_of_run' 8 (by kernel_rfl) (by kernel_rfl)) (by kernel_rfl) (by kernel_rfl)

theorem c1 : Rows.journalMazesRow.wf (OpenSpec.ofChange Rows.journalMazesSpec) = true := by kernel_rfl
theorem c2 : laidOutB Tryz.prog = true := laidOut
theorem c3 : mapsRowed Tryz.prog = true := by kernel_rfl
theorem c4 : (Rows.journalMazesRow.inPlace == Tryz.prog.inPlace 6) = true := by kernel_rfl
theorem c5 : (Rows.journalMazesRow.unfollowed == Tryz.prog.unfollowed 6) = true := by kernel_rfl
theorem c6 : (Rows.journalMazesRow.recurses == Tryz.prog.recurses 6) = true := by kernel_rfl
theorem c7 : (Rows.journalMazesRow.named == Tryz.prog.varsNamed 6) = true := by kernel_rfl
theorem c8 : Tryz.prog.mayEnter = true := by kernel_rfl
theorem c9 : Tryz.prog.stopsHeard = true := by kernel_rfl
theorem c10 : (Rows.journalMazesRow.lifted == Tryz.prog.liftsFinal) = true := by kernel_rfl
theorem closed : joinedFacts Tryz.prog 6 Tryz.f6 Rows.journalMazesSpec Rows.journalMazesRow = true := by
  unfold joinedFacts
  rw [c1, c2, c3, c4, c5, c6, c7, c8, c9, c10]
  kernel_rfl
theorem named : Tryz.prog.funcNamed "etchant/etchantlaw30.JournalMazes" = some 6 := by kernel_rfl
theorem inst : Tryz.f6.isInstance Tryz.prog Rows.journalMazesRow.origin Rows.journalMazesRow.targs := of_decide_eq_true (by kernel_rfl)
theorem wrap : Tryz.f6.isWrapper Tryz.prog Rows.journalMazesRow.wrapper Rows.journalMazesRow.mainSum := by
  unfold Func.isWrapper
  first | (rw [if_pos (by decide +kernel)]; kernel_rfl) | (rw [if_neg (by decide +kernel)]; exact ⟨rfl, rfl⟩)
theorem wfText : Rows.journalMazesRow.wfByText (OpenSpec.ofChange Rows.journalMazesSpec) = true := by kernel_rfl
theorem mainIs : Tryz.prog.mainIs = some (true, "362723af805b14424097f26cf684e284da7714f75a48d1dbea9845ced6e4a398".toList) := by kernel_rfl
theorem looks : true = Tryz.prog.looks [] := by kernel_rfl
theorem stand : ([22, 24, 59, 9, 69].all fun u => !Tryz.prog.wantsStandIn u) = true := by kernel_rfl
theorem goes : false = Rows.journalMazesRow.goesBy Tryz.prog := by kernel_rfl

end Go.Proofs.YtjomnbdjajjgfaaGreatDoor.journalMazes
