/- Closed facts on the row of etchantlaw29.ProofSound, each by the kernel. -/
import Derived.Test.YtcnaogdgjkpkmaaGreatDoorCards
import Derived.Test.YtcnaogdgjkpkmaaGreatDoorTie
import Derived.ProofKit
import Derived.LaidMore
import Derived.OpenShut
import Derived.Below
import Derived.WalkKit
import Derived.ShutString
import Derived.ChangeOld
import Derived.Stop.Joined
import Derived.SevenTiedAt
namespace Go.Proofs.YtcnaogdgjkpkmaaGreatDoor.proofSound
open Go.ChangeShapes Go.WideShapes Go.ChangeAt Go.RowKit
set_option linter.unusedVariables false

theorem own : ownKnob Tryz.prog.godebug = none := by kernel_rfl
theorem laidOut : laidOutB Tryz.prog = true := by kernel_rfl
theorem met (os : Os) (args : Array Value) : laidMetH Tryz.prog Rows.proofSoundRow.laid ((World.doorLaid Tryz.prog 400 os).forCall (fun _ _ => 0) ⟨#[], args, []⟩).memory :=
  laidMetH_of_parts3 (fuel := 8) (laidMet_of_run' 8 (by kernel_rfl) (by kernel_rfl)) (by kernel_rfl) (by kernel_rfl)

theorem c1 : Rows.proofSoundRow.wf (OpenSpec.ofChange Rows.proofSoundSpec) = true := by kernel_rfl
theorem c2 : laidOutB Tryz.prog = true := laidOut
theorem c3 : mapsRowed Tryz.prog = true := by kernel_rfl
theorem c4 : (Rows.proofSoundRow.inPlace == Tryz.prog.inPlace 5) = true := by kernel_rfl
theorem c5 : (Rows.proofSoundRow.unfollowed == Tryz.prog.unfollowed 5) = true := by kernel_rfl
theorem c6 : (Rows.proofSoundRow.recurses == Tryz.prog.recurses 5) = true := by kernel_rfl
theorem c7 : (Rows.proofSoundRow.named == Tryz.prog.varsNamed 5) = true := by kernel_rfl
theorem c8 : Tryz.prog.mayEnter = true := by kernel_rfl
theorem c9 : Tryz.prog.stopsHeard = true := by kernel_rfl
theorem c10 : (Rows.proofSoundRow.lifted == Tryz.prog.liftsFinal) = true := by kernel_rfl
theorem closed : joinedFacts Tryz.prog 5 Tryz.f5 Rows.proofSoundSpec Rows.proofSoundRow = true := by
  unfold joinedFacts
  rw [c1, c2, c3, c4, c5, c6, c7, c8, c9, c10]
  kernel_rfl
theorem named : Tryz.prog.funcNamed "etchant/etchantlaw29.ProofSound" = some 5 := by kernel_rfl
theorem inst : Tryz.f5.isInstance Tryz.prog Rows.proofSoundRow.origin Rows.proofSoundRow.targs := of_decide_eq_true (by kernel_rfl)
theorem wrap : Tryz.f5.isWrapper Tryz.prog Rows.proofSoundRow.wrapper Rows.proofSoundRow.mainSum := by
  unfold Func.isWrapper
  first | (rw [if_pos (by decide +kernel)]; kernel_rfl) | (rw [if_neg (by decide +kernel)]; exact ⟨rfl, rfl⟩)
theorem wfText : Rows.proofSoundRow.wfByText (OpenSpec.ofChange Rows.proofSoundSpec) = true := by kernel_rfl
theorem mainIs : Tryz.prog.mainIs = some (true, "b31204fa1a97c045df346f07d6a55e8709810c9c1e9fd09b7b5ef7f92c9faf78".toList) := by kernel_rfl
theorem looks : true = Tryz.prog.looks [] := by kernel_rfl
theorem stand : ([22, 22, 23].all fun u => !Tryz.prog.wantsStandIn u) = true := by kernel_rfl
theorem goes : false = Rows.proofSoundRow.goesBy Tryz.prog := by kernel_rfl

end Go.Proofs.YtcnaogdgjkpkmaaGreatDoor.proofSound
