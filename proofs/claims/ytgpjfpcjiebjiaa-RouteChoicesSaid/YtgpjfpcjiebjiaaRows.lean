/-
  No cell of these rows narrows 'for every input' (looked for: loops, veiled, ifaces, maps, wideKeys, modest, calm, conditions, laid).
  DERIVED. THE GIVEN ROWS OF THIS SEAT. 8 by the template 'for every input the law returns true; each argument reads behind the call as it read before'; 0 by the template 'total and deterministic' (their statements: YtgpjfpcjiebjiaaTotals.lean).
  GIVEN WITH THE SEED: the statements are not yours to turn. If you find one false, say at which input.
  Laid BY PROGRAM, IN A SANDBOX (cutbox-rows.mjs): the forced cells as the released guide's own fill.sh prints them over the translation d8c7c84470b27d0f… (all of the seat's roots in one cut). By AI agents, Wed Nov 11 2026. No macro, syntax, notation, axiom, sorry.
-/
import Derived.Test.YtgpjfpcjiebjiaaChecked
import GoSem.Claim
import GoSem.ClaimJoined
import GoSem.ClaimMapViews
import Derived.JoinedTies
import Derived.KernelRfl
namespace Go.Proofs.Ytgpjfpcjiebjiaa
/- THE CELL 'sum', in the pinned program and in every row, IS THE sha256 OF THE DUMP (.gsa) THAT YtgpjfpcjiebjiaaProg.lean LOADS. Nothing in Lean hashes anything: it is a label: what it is worth is what the hold of that sum in a sandbox is worth. -/
noncomputable def Try.pinned : Pinned := { name := "ytgpjfpcjiebjiaa", sum := "d8c7c84470b27d0f4d9b20d5a31fa6d21b99c5f92aca6d4b339deba9a76c1590", checked := Try.checked }
namespace Rows
def none {H : Type} : Left H := { results := [], args := [] }

/-- 'etchantlaw28.RouteNexts': WHATEVER THE INPUT: true; the input reads as it did. -/
def routeNextsSpec : ChangeSpec := { name := "routeNexts", fn := fun _ => fun
  | [d1, d2, d3] => { results := [.lit (.bool true)], args := [d1, d2, d3] }
  | _ => none }
def routeNextsRow : OpenClaim := { program := "ytgpjfpcjiebjiaa", sum := "d8c7c84470b27d0f4d9b20d5a31fa6d21b99c5f92aca6d4b339deba9a76c1590", func := "etchant/etchantlaw28.RouteNexts", spec := "routeNexts", unfollowed := true, recurses := true, apart := false }
def RouteNextsSaid : Prop := routeNextsRow.holds Try.pinned (OpenSpec.ofChange routeNextsSpec)

/-- ITS FALSE NEIGHBOUR: 'it returns false'. Refute it at one input. -/
def routeNextsWrong : ChangeSpec := { name := "routeNexts", fn := fun _ => fun
  | [d1, d2, d3] => { results := [.lit (.bool false)], args := [d1, d2, d3] }
  | _ => none }
def RouteNextsWrongFalsely : Prop := routeNextsRow.holds Try.pinned (OpenSpec.ofChange routeNextsWrong)

/-- 'etchantlaw28.RouteRuns': WHATEVER THE INPUT: true; the input reads as it did. -/
def routeRunsSpec : ChangeSpec := { name := "routeRuns", fn := fun _ => fun
  | [d1, d2] => { results := [.lit (.bool true)], args := [d1, d2] }
  | _ => none }
def routeRunsRow : OpenClaim := { program := "ytgpjfpcjiebjiaa", sum := "d8c7c84470b27d0f4d9b20d5a31fa6d21b99c5f92aca6d4b339deba9a76c1590", func := "etchant/etchantlaw28.RouteRuns", spec := "routeRuns", unfollowed := true, recurses := true, apart := false }
def RouteRunsSaid : Prop := routeRunsRow.holds Try.pinned (OpenSpec.ofChange routeRunsSpec)

/-- ITS FALSE NEIGHBOUR: 'it returns false'. Refute it at one input. -/
def routeRunsWrong : ChangeSpec := { name := "routeRuns", fn := fun _ => fun
  | [d1, d2] => { results := [.lit (.bool false)], args := [d1, d2] }
  | _ => none }
def RouteRunsWrongFalsely : Prop := routeRunsRow.holds Try.pinned (OpenSpec.ofChange routeRunsWrong)

/-- 'etchantlaw28.RouteLoads': WHATEVER THE INPUT: true; the input reads as it did. -/
def routeLoadsSpec : ChangeSpec := { name := "routeLoads", fn := fun _ => fun
  | [d1, d2] => { results := [.lit (.bool true)], args := [d1, d2] }
  | _ => none }
def routeLoadsRow : OpenClaim := { program := "ytgpjfpcjiebjiaa", sum := "d8c7c84470b27d0f4d9b20d5a31fa6d21b99c5f92aca6d4b339deba9a76c1590", func := "etchant/etchantlaw28.RouteLoads", spec := "routeLoads", unfollowed := true, recurses := true, apart := false }
def RouteLoadsSaid : Prop := routeLoadsRow.holds Try.pinned (OpenSpec.ofChange routeLoadsSpec)

/-- ITS FALSE NEIGHBOUR: 'it returns false'. Refute it at one input. -/
def routeLoadsWrong : ChangeSpec := { name := "routeLoads", fn := fun _ => fun
  | [d1, d2] => { results := [.lit (.bool false)], args := [d1, d2] }
  | _ => none }
def RouteLoadsWrongFalsely : Prop := routeLoadsRow.holds Try.pinned (OpenSpec.ofChange routeLoadsWrong)

/-- 'etchantlaw28.RouteResumes': WHATEVER THE INPUT: true; the input reads as it did. -/
def routeResumesSpec : ChangeSpec := { name := "routeResumes", fn := fun _ => fun
  | [d1, d2] => { results := [.lit (.bool true)], args := [d1, d2] }
  | _ => none }
def routeResumesRow : OpenClaim := { program := "ytgpjfpcjiebjiaa", sum := "d8c7c84470b27d0f4d9b20d5a31fa6d21b99c5f92aca6d4b339deba9a76c1590", func := "etchant/etchantlaw28.RouteResumes", spec := "routeResumes", unfollowed := true, recurses := true, apart := false }
def RouteResumesSaid : Prop := routeResumesRow.holds Try.pinned (OpenSpec.ofChange routeResumesSpec)

/-- ITS FALSE NEIGHBOUR: 'it returns false'. Refute it at one input. -/
def routeResumesWrong : ChangeSpec := { name := "routeResumes", fn := fun _ => fun
  | [d1, d2] => { results := [.lit (.bool false)], args := [d1, d2] }
  | _ => none }
def RouteResumesWrongFalsely : Prop := routeResumesRow.holds Try.pinned (OpenSpec.ofChange routeResumesWrong)

/-- 'etchantlaw28.RouteComplete': WHATEVER THE INPUT: true; the input reads as it did. -/
def routeCompleteSpec : ChangeSpec := { name := "routeComplete", fn := fun _ => fun
  | [d] => { results := [.lit (.bool true)], args := [d] }
  | _ => none }
def routeCompleteRow : OpenClaim := { program := "ytgpjfpcjiebjiaa", sum := "d8c7c84470b27d0f4d9b20d5a31fa6d21b99c5f92aca6d4b339deba9a76c1590", func := "etchant/etchantlaw28.RouteComplete", spec := "routeComplete", unfollowed := true, recurses := true, apart := false }
def RouteCompleteSaid : Prop := routeCompleteRow.holds Try.pinned (OpenSpec.ofChange routeCompleteSpec)

/-- ITS FALSE NEIGHBOUR: 'it returns false'. Refute it at one input. -/
def routeCompleteWrong : ChangeSpec := { name := "routeComplete", fn := fun _ => fun
  | [d] => { results := [.lit (.bool false)], args := [d] }
  | _ => none }
def RouteCompleteWrongFalsely : Prop := routeCompleteRow.holds Try.pinned (OpenSpec.ofChange routeCompleteWrong)

/-- 'etchantlaw28.RouteGraph': WHATEVER THE INPUT: true; the input reads as it did. -/
def routeGraphSpec : ChangeSpec := { name := "routeGraph", fn := fun _ => fun
  | [d] => { results := [.lit (.bool true)], args := [d] }
  | _ => none }
def routeGraphRow : OpenClaim := { program := "ytgpjfpcjiebjiaa", sum := "d8c7c84470b27d0f4d9b20d5a31fa6d21b99c5f92aca6d4b339deba9a76c1590", func := "etchant/etchantlaw28.RouteGraph", spec := "routeGraph", unfollowed := true, recurses := true, apart := false }
def RouteGraphSaid : Prop := routeGraphRow.holds Try.pinned (OpenSpec.ofChange routeGraphSpec)

/-- ITS FALSE NEIGHBOUR: 'it returns false'. Refute it at one input. -/
def routeGraphWrong : ChangeSpec := { name := "routeGraph", fn := fun _ => fun
  | [d] => { results := [.lit (.bool false)], args := [d] }
  | _ => none }
def RouteGraphWrongFalsely : Prop := routeGraphRow.holds Try.pinned (OpenSpec.ofChange routeGraphWrong)

/-- 'etchantlaw28.RouteFinds': WHATEVER THE INPUT: true; the input reads as it did. -/
def routeFindsSpec : ChangeSpec := { name := "routeFinds", fn := fun _ => fun
  | [d1, d2] => { results := [.lit (.bool true)], args := [d1, d2] }
  | _ => none }
def routeFindsRow : OpenClaim := { program := "ytgpjfpcjiebjiaa", sum := "d8c7c84470b27d0f4d9b20d5a31fa6d21b99c5f92aca6d4b339deba9a76c1590", func := "etchant/etchantlaw28.RouteFinds", spec := "routeFinds", unfollowed := true, recurses := true, apart := false }
def RouteFindsSaid : Prop := routeFindsRow.holds Try.pinned (OpenSpec.ofChange routeFindsSpec)

/-- ITS FALSE NEIGHBOUR: 'it returns false'. Refute it at one input. -/
def routeFindsWrong : ChangeSpec := { name := "routeFinds", fn := fun _ => fun
  | [d1, d2] => { results := [.lit (.bool false)], args := [d1, d2] }
  | _ => none }
def RouteFindsWrongFalsely : Prop := routeFindsRow.holds Try.pinned (OpenSpec.ofChange routeFindsWrong)

/-- 'etchantlaw28.RouteChoices': WHATEVER THE INPUT: true; the input reads as it did. -/
def routeChoicesSpec : ChangeSpec := { name := "routeChoices", fn := fun _ => fun
  | [d] => { results := [.lit (.bool true)], args := [d] }
  | _ => none }
def routeChoicesRow : OpenClaim := { program := "ytgpjfpcjiebjiaa", sum := "d8c7c84470b27d0f4d9b20d5a31fa6d21b99c5f92aca6d4b339deba9a76c1590", func := "etchant/etchantlaw28.RouteChoices", spec := "routeChoices", unfollowed := true, recurses := true, apart := false }
def RouteChoicesSaid : Prop := routeChoicesRow.holds Try.pinned (OpenSpec.ofChange routeChoicesSpec)

/-- ITS FALSE NEIGHBOUR: 'it returns false'. Refute it at one input. -/
def routeChoicesWrong : ChangeSpec := { name := "routeChoices", fn := fun _ => fun
  | [d] => { results := [.lit (.bool false)], args := [d] }
  | _ => none }
def RouteChoicesWrongFalsely : Prop := routeChoicesRow.holds Try.pinned (OpenSpec.ofChange routeChoicesWrong)

/- THE SECOND FORM. 'bulk': how many values and letters a reading holds, each counted each time it is reached (what is shared counts as often as it is met; a slice's spare places count too). A statement '..UptoSaid' is the law's where the arguments, and the package variables that the reading takes, are together of bulk at most 1048576: NARROWER than '..Said'. Prove '..Said' where nothing that the law and all that it calls make is longer than what came in: it says more and counts as full. Else prove '..UptoSaid'. A law counts once. -/
mutual
def uptoBulk {H : Type} : DataW H → Nat
  | .lit (.string bytes) => bytes.length + 1
  | .lit _ => 1
  | .nil => 1
  | .ptr d => uptoBulk d + 1
  | .slice elems spare => uptoBulkAll elems + uptoBulkAll spare + 1
  | .agg parts => uptoBulkAll parts + 1
  | .iface _ d => uptoBulk d + 1
  | .map entries => uptoBulkEntries entries + 1
  | .held _ => 1
def uptoBulkAll {H : Type} : List (DataW H) → Nat
  | [] => 0
  | d :: r => uptoBulk d + uptoBulkAll r
def uptoBulkEntries {H : Type} : List (Lit × DataW H) → Nat
  | [] => 0
  | x :: r => uptoBulkEntry x + uptoBulkEntries r
def uptoBulkEntry {H : Type} : Lit × DataW H → Nat
  | (.string bytes, d) => bytes.length + uptoBulk d + 1
  | (_, d) => uptoBulk d + 1
 end
def uptoSmall : (H : Type) → List (DataW H) → Bool := fun _ ds => decide (uptoBulkAll ds ≤ 1048576)
def OpenSpec.upto (s : _root_.Go.ChangeSpec) : _root_.Go.OpenSpec := { _root_.Go.OpenSpec.ofChange s with cond := some uptoSmall }

/-- 'etchantlaw28.RouteNexts', WHERE WHAT IT READS IS OF BULK AT MOST 1048576: true; the input reads as it did. -/
def routeNextsUptoRow : OpenClaim := { program := "ytgpjfpcjiebjiaa", sum := "d8c7c84470b27d0f4d9b20d5a31fa6d21b99c5f92aca6d4b339deba9a76c1590", func := "etchant/etchantlaw28.RouteNexts", spec := "routeNexts", unfollowed := true, recurses := true, apart := false, narrowed := true }
def RouteNextsUptoSaid : Prop := routeNextsUptoRow.holds Try.pinned (OpenSpec.upto routeNextsSpec)

/-- 'etchantlaw28.RouteRuns', WHERE WHAT IT READS IS OF BULK AT MOST 1048576: true; the input reads as it did. -/
def routeRunsUptoRow : OpenClaim := { program := "ytgpjfpcjiebjiaa", sum := "d8c7c84470b27d0f4d9b20d5a31fa6d21b99c5f92aca6d4b339deba9a76c1590", func := "etchant/etchantlaw28.RouteRuns", spec := "routeRuns", unfollowed := true, recurses := true, apart := false, narrowed := true }
def RouteRunsUptoSaid : Prop := routeRunsUptoRow.holds Try.pinned (OpenSpec.upto routeRunsSpec)

/-- 'etchantlaw28.RouteLoads', WHERE WHAT IT READS IS OF BULK AT MOST 1048576: true; the input reads as it did. -/
def routeLoadsUptoRow : OpenClaim := { program := "ytgpjfpcjiebjiaa", sum := "d8c7c84470b27d0f4d9b20d5a31fa6d21b99c5f92aca6d4b339deba9a76c1590", func := "etchant/etchantlaw28.RouteLoads", spec := "routeLoads", unfollowed := true, recurses := true, apart := false, narrowed := true }
def RouteLoadsUptoSaid : Prop := routeLoadsUptoRow.holds Try.pinned (OpenSpec.upto routeLoadsSpec)

/-- 'etchantlaw28.RouteResumes', WHERE WHAT IT READS IS OF BULK AT MOST 1048576: true; the input reads as it did. -/
def routeResumesUptoRow : OpenClaim := { program := "ytgpjfpcjiebjiaa", sum := "d8c7c84470b27d0f4d9b20d5a31fa6d21b99c5f92aca6d4b339deba9a76c1590", func := "etchant/etchantlaw28.RouteResumes", spec := "routeResumes", unfollowed := true, recurses := true, apart := false, narrowed := true }
def RouteResumesUptoSaid : Prop := routeResumesUptoRow.holds Try.pinned (OpenSpec.upto routeResumesSpec)

/-- 'etchantlaw28.RouteComplete', WHERE WHAT IT READS IS OF BULK AT MOST 1048576: true; the input reads as it did. -/
def routeCompleteUptoRow : OpenClaim := { program := "ytgpjfpcjiebjiaa", sum := "d8c7c84470b27d0f4d9b20d5a31fa6d21b99c5f92aca6d4b339deba9a76c1590", func := "etchant/etchantlaw28.RouteComplete", spec := "routeComplete", unfollowed := true, recurses := true, apart := false, narrowed := true }
def RouteCompleteUptoSaid : Prop := routeCompleteUptoRow.holds Try.pinned (OpenSpec.upto routeCompleteSpec)

/-- 'etchantlaw28.RouteGraph', WHERE WHAT IT READS IS OF BULK AT MOST 1048576: true; the input reads as it did. -/
def routeGraphUptoRow : OpenClaim := { program := "ytgpjfpcjiebjiaa", sum := "d8c7c84470b27d0f4d9b20d5a31fa6d21b99c5f92aca6d4b339deba9a76c1590", func := "etchant/etchantlaw28.RouteGraph", spec := "routeGraph", unfollowed := true, recurses := true, apart := false, narrowed := true }
def RouteGraphUptoSaid : Prop := routeGraphUptoRow.holds Try.pinned (OpenSpec.upto routeGraphSpec)

/-- 'etchantlaw28.RouteFinds', WHERE WHAT IT READS IS OF BULK AT MOST 1048576: true; the input reads as it did. -/
def routeFindsUptoRow : OpenClaim := { program := "ytgpjfpcjiebjiaa", sum := "d8c7c84470b27d0f4d9b20d5a31fa6d21b99c5f92aca6d4b339deba9a76c1590", func := "etchant/etchantlaw28.RouteFinds", spec := "routeFinds", unfollowed := true, recurses := true, apart := false, narrowed := true }
def RouteFindsUptoSaid : Prop := routeFindsUptoRow.holds Try.pinned (OpenSpec.upto routeFindsSpec)

/-- 'etchantlaw28.RouteChoices', WHERE WHAT IT READS IS OF BULK AT MOST 1048576: true; the input reads as it did. -/
def routeChoicesUptoRow : OpenClaim := { program := "ytgpjfpcjiebjiaa", sum := "d8c7c84470b27d0f4d9b20d5a31fa6d21b99c5f92aca6d4b339deba9a76c1590", func := "etchant/etchantlaw28.RouteChoices", spec := "routeChoices", unfollowed := true, recurses := true, apart := false, narrowed := true }
def RouteChoicesUptoSaid : Prop := routeChoicesUptoRow.holds Try.pinned (OpenSpec.upto routeChoicesSpec)

end Rows
end Go.Proofs.Ytgpjfpcjiebjiaa
