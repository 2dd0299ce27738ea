/- Closed facts on the row of etchantlaw29.ProofWhole, each by the kernel. -/
import Derived.Test.YtnmkmhpgnpojbaaGreatDoorCards
import Derived.Test.YtnmkmhpgnpojbaaGreatDoorTie
import Derived.ProofKit
import Derived.LaidMore
import Derived.OpenShut
import Derived.Below
import Derived.WalkKit
import Derived.ShutString
import Derived.ChangeOld
import Derived.Stop.Joined
import Derived.SevenTiedAt
namespace Go.Proofs.YtnmkmhpgnpojbaaGreatDoor.proofWhole
open Go.ChangeShapes Go.WideShapes Go.ChangeAt Go.RowKit
set_option linter.unusedVariables false

theorem own : ownKnob Tryz.prog.godebug = none := by kernel_rfl
theorem laidOut : laidOutB Tryz.prog = true := by kernel_rfl
theorem met (os : Os) (args : Array Value) : laidMetH Tryz.prog Rows.proofWholeRow.laid ((World.doorLaid Tryz.prog 400 os).forCall (fun _ _ => 0) ⟨#[], args, []⟩).memory :=
  laidMetH_of_parts3 (fuel := 8) (laidMet_of_run' 8 (by kernel_rfl) (by kernel_rfl)) (by kernel_rfl) (by kernel_rfl)

theorem c1 : Rows.proofWholeRow.wf (OpenSpec.ofChange Rows.proofWholeSpec) = true := by kernel_rfl
theorem c2 : laidOutB Tryz.prog = true := laidOut
theorem c3 : mapsRowed Tryz.prog = true := by kernel_rfl
theorem c4 : (Rows.proofWholeRow.inPlace == Tryz.prog.inPlace 7) = true := by kernel_rfl
theorem c5 : (Rows.proofWholeRow.unfollowed == Tryz.prog.unfollowed 7) = true := by kernel_rfl
theorem c6 : (Rows.proofWholeRow.recurses == Tryz.prog.recurses 7) = true := by kernel_rfl
theorem c7 : (Rows.proofWholeRow.named == Tryz.prog.varsNamed 7) = true := by kernel_rfl
theorem c8 : Tryz.prog.mayEnter = true := by kernel_rfl
theorem c9 : Tryz.prog.stopsHeard = true := by kernel_rfl
theorem c10 : (Rows.proofWholeRow.lifted == Tryz.prog.liftsFinal) = true := by kernel_rfl
theorem closed : joinedFacts Tryz.prog 7 Tryz.f7 Rows.proofWholeSpec Rows.proofWholeRow = true := by
  unfold joinedFacts
  rw [c1, c2, c3, c4, c5, c6, c7, c8, c9, c10]
  kernel_rfl
theorem named : Tryz.prog.funcNamed "etchant/etchantlaw29.ProofWhole" = some 7 := by kernel_rfl
theorem inst : Tryz.f7.isInstance Tryz.prog Rows.proofWholeRow.origin Rows.proofWholeRow.targs := of_decide_eq_true (by kernel_rfl)
theorem wrap : Tryz.f7.isWrapper Tryz.prog Rows.proofWholeRow.wrapper Rows.proofWholeRow.mainSum := by
  unfold Func.isWrapper
  first | (rw [if_pos (by decide +kernel)]; kernel_rfl) | (rw [if_neg (by decide +kernel)]; exact ⟨rfl, rfl⟩)
theorem wfText : Rows.proofWholeRow.wfByText (OpenSpec.ofChange Rows.proofWholeSpec) = true := by kernel_rfl
theorem mainIs : Tryz.prog.mainIs = some (true, "0d302d68ecd5346c100f878df95a82895cb53b0cde64956b3b3f9fd36717de73".toList) := by kernel_rfl
theorem looks : true = Tryz.prog.looks [] := by kernel_rfl
theorem stand : ([22].all fun u => !Tryz.prog.wantsStandIn u) = true := by kernel_rfl
theorem goes : false = Rows.proofWholeRow.goesBy Tryz.prog := by kernel_rfl

end Go.Proofs.YtnmkmhpgnpojbaaGreatDoor.proofWhole
