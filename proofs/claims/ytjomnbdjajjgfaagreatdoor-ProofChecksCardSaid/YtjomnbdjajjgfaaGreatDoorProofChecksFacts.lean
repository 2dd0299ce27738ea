/- Closed facts on the row of etchantlaw29.ProofChecks, each by the kernel. -/
import Derived.Test.YtjomnbdjajjgfaaGreatDoorCards
import Derived.Test.YtjomnbdjajjgfaaGreatDoorTie
import Derived.ProofKit
import Derived.LaidMore
import Derived.OpenShut
import Derived.Below
import Derived.WalkKit
import Derived.ShutString
import Derived.ChangeOld
import Derived.Stop.Joined
import Derived.SevenTiedAt
namespace Go.Proofs.YtjomnbdjajjgfaaGreatDoor.proofChecks
open Go.ChangeShapes Go.WideShapes Go.ChangeAt Go.RowKit
set_option linter.unusedVariables false

theorem own : ownKnob Tryz.prog.godebug = none := by kernel_rfl
theorem laidOut : laidOutB Tryz.prog = true := by kernel_rfl
theorem met (os : Os) (args : Array Value) : laidMetH Tryz.prog Rows.proofChecksRow.laid ((World.doorLaid Tryz.prog 400 os).forCall (fun _ _ => 0) ⟨#[], args, []⟩).memory :=
  laidMetH_of_parts3 (fuel := 8) (laidMet_of_run' 8 (by kernel_rfl) (by kernel_rfl)) (by kernel_rfl) (by kernel_rfl)

theorem c1 : Rows.proofChecksRow.wf (OpenSpec.ofChange Rows.proofChecksSpec) = true := by kernel_rfl
theorem c2 : laidOutB Tryz.prog = true := laidOut
theorem c3 : mapsRowed Tryz.prog = true := by kernel_rfl
theorem c4 : (Rows.proofChecksRow.inPlace == Tryz.prog.inPlace 4) = true := by kernel_rfl
theorem c5 : (Rows.proofChecksRow.unfollowed == Tryz.prog.unfollowed 4) = true := by kernel_rfl
theorem c6 : (Rows.proofChecksRow.recurses == Tryz.prog.recurses 4) = true := by kernel_rfl
theorem c7 : (Rows.proofChecksRow.named == Tryz.prog.varsNamed 4) = true := by kernel_rfl
theorem c8 : Tryz.prog.mayEnter = true := by kernel_rfl
theorem c9 : Tryz.prog.stopsHeard = true := by kernel_rfl
theorem c10 : (Rows.proofChecksRow.lifted == Tryz.prog.liftsFinal) = true := by kernel_rfl
theorem closed : joinedFacts Tryz.prog 4 Tryz.f4 Rows.proofChecksSpec Rows.proofChecksRow = true := by
  unfold joinedFacts
  rw [c1, c2, c3, c4, c5, c6, c7, c8, c9, c10]
  kernel_rfl
theorem named : Tryz.prog.funcNamed "etchant/etchantlaw29.ProofChecks" = some 4 := by kernel_rfl
theorem inst : Tryz.f4.isInstance Tryz.prog Rows.proofChecksRow.origin Rows.proofChecksRow.targs := of_decide_eq_true (by kernel_rfl)
theorem wrap : Tryz.f4.isWrapper Tryz.prog Rows.proofChecksRow.wrapper Rows.proofChecksRow.mainSum := by
  unfold Func.isWrapper
  first | (rw [if_pos (by decide +kernel)]; kernel_rfl) | (rw [if_neg (by decide +kernel)]; exact ⟨rfl, rfl⟩)
theorem wfText : Rows.proofChecksRow.wfByText (OpenSpec.ofChange Rows.proofChecksSpec) = true := by kernel_rfl
theorem mainIs : Tryz.prog.mainIs = some (true, "362723af805b14424097f26cf684e284da7714f75a48d1dbea9845ced6e4a398".toList) := by kernel_rfl
theorem looks : true = Tryz.prog.looks [] := by kernel_rfl
theorem stand : ([22, 22, 50].all fun u => !Tryz.prog.wantsStandIn u) = true := by kernel_rfl
theorem goes : false = Rows.proofChecksRow.goesBy Tryz.prog := by kernel_rfl

end Go.Proofs.YtjomnbdjajjgfaaGreatDoor.proofChecks
