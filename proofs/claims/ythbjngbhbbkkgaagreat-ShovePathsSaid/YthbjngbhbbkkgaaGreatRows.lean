/-
  No cell of these rows narrows 'for every input' (looked for: loops, veiled, ifaces, maps, wideKeys, modest, calm, conditions, laid).
  DERIVED. THE GIVEN ROWS OF THIS SEAT. 5 by the template 'for every input the law returns true; each argument reads behind the call as it read before'; 0 by the template 'total and deterministic' (their statements: YthbjngbhbbkkgaaGreatTotals.lean).
  GIVEN WITH THE SEED: the statements are not yours to turn. If you find one false, say at which input.
  Laid BY PROGRAM, IN A SANDBOX (cutbox-rows.mjs): the forced cells as the released guide's own fill.sh prints them over the translation 6514e041cdb96d55… (all of the seat's roots in one cut). By AI agents, Wed Nov 11 2026. No macro, syntax, notation, axiom, sorry.
-/
import Derived.Test.YthbjngbhbbkkgaaGreatChecked
import GoSem.Claim
import GoSem.ClaimJoined
import GoSem.ClaimMapViews
import Derived.JoinedTies
import Derived.KernelRfl
namespace Go.Proofs.YthbjngbhbbkkgaaGreat
/- THE CELL 'sum', in the pinned program and in every row, IS THE sha256 OF THE DUMP (.gsa) THAT YthbjngbhbbkkgaaGreatProg.lean LOADS. Nothing in Lean hashes anything: it is a label: what it is worth is what the hold of that sum in a sandbox is worth. -/
noncomputable def Tryz.pinned : Pinned := { name := "ythbjngbhbbkkgaagreat", sum := "6514e041cdb96d55c56753f234c46b6f71d1886936bff0b4ac150d3cf6c740f4", checked := Tryz.checked }
namespace Rows
def none {H : Type} : Left H := { results := [], args := [] }

/-- 'etchantlaw31.ShoveKeeps': WHATEVER THE INPUT: true; the input reads as it did. -/
def shoveKeepsSpec : ChangeSpec := { name := "shoveKeeps", fn := fun _ => fun
  | [d] => { results := [.lit (.bool true)], args := [d] }
  | _ => none }
def shoveKeepsRow : OpenClaim := { program := "ythbjngbhbbkkgaagreat", sum := "6514e041cdb96d55c56753f234c46b6f71d1886936bff0b4ac150d3cf6c740f4", func := "etchant/etchantlaw31.ShoveKeeps", spec := "shoveKeeps", unfollowed := true, recurses := true, apart := false }
def ShoveKeepsSaid : Prop := shoveKeepsRow.holds Tryz.pinned (OpenSpec.ofChange shoveKeepsSpec)

/-- ITS FALSE NEIGHBOUR: 'it returns false'. Refute it at one input. -/
def shoveKeepsWrong : ChangeSpec := { name := "shoveKeeps", fn := fun _ => fun
  | [d] => { results := [.lit (.bool false)], args := [d] }
  | _ => none }
def ShoveKeepsWrongFalsely : Prop := shoveKeepsRow.holds Tryz.pinned (OpenSpec.ofChange shoveKeepsWrong)

/-- 'etchantlaw31.ShovePaths': WHATEVER THE INPUT: true; the input reads as it did. -/
def shovePathsSpec : ChangeSpec := { name := "shovePaths", fn := fun _ => fun
  | [d1, d2, d3] => { results := [.lit (.bool true)], args := [d1, d2, d3] }
  | _ => none }
def shovePathsRow : OpenClaim := { program := "ythbjngbhbbkkgaagreat", sum := "6514e041cdb96d55c56753f234c46b6f71d1886936bff0b4ac150d3cf6c740f4", func := "etchant/etchantlaw31.ShovePaths", spec := "shovePaths", unfollowed := true, recurses := true, apart := false }
def ShovePathsSaid : Prop := shovePathsRow.holds Tryz.pinned (OpenSpec.ofChange shovePathsSpec)

/-- ITS FALSE NEIGHBOUR: 'it returns false'. Refute it at one input. -/
def shovePathsWrong : ChangeSpec := { name := "shovePaths", fn := fun _ => fun
  | [d1, d2, d3] => { results := [.lit (.bool false)], args := [d1, d2, d3] }
  | _ => none }
def ShovePathsWrongFalsely : Prop := shovePathsRow.holds Tryz.pinned (OpenSpec.ofChange shovePathsWrong)

/-- 'etchantlaw31.ShoveShort': WHATEVER THE INPUT: true; the input reads as it did. -/
def shoveShortSpec : ChangeSpec := { name := "shoveShort", fn := fun _ => fun
  | [d] => { results := [.lit (.bool true)], args := [d] }
  | _ => none }
def shoveShortRow : OpenClaim := { program := "ythbjngbhbbkkgaagreat", sum := "6514e041cdb96d55c56753f234c46b6f71d1886936bff0b4ac150d3cf6c740f4", func := "etchant/etchantlaw31.ShoveShort", spec := "shoveShort", unfollowed := true, recurses := true, apart := false }
def ShoveShortSaid : Prop := shoveShortRow.holds Tryz.pinned (OpenSpec.ofChange shoveShortSpec)

/-- ITS FALSE NEIGHBOUR: 'it returns false'. Refute it at one input. -/
def shoveShortWrong : ChangeSpec := { name := "shoveShort", fn := fun _ => fun
  | [d] => { results := [.lit (.bool false)], args := [d] }
  | _ => none }
def ShoveShortWrongFalsely : Prop := shoveShortRow.holds Tryz.pinned (OpenSpec.ofChange shoveShortWrong)

/-- 'etchantlaw31.ShoveRefuses': WHATEVER THE INPUT: true; the input reads as it did. -/
def shoveRefusesSpec : ChangeSpec := { name := "shoveRefuses", fn := fun _ => fun
  | [d] => { results := [.lit (.bool true)], args := [d] }
  | _ => none }
def shoveRefusesRow : OpenClaim := { program := "ythbjngbhbbkkgaagreat", sum := "6514e041cdb96d55c56753f234c46b6f71d1886936bff0b4ac150d3cf6c740f4", func := "etchant/etchantlaw31.ShoveRefuses", spec := "shoveRefuses", unfollowed := true, recurses := true, apart := false }
def ShoveRefusesSaid : Prop := shoveRefusesRow.holds Tryz.pinned (OpenSpec.ofChange shoveRefusesSpec)

/-- ITS FALSE NEIGHBOUR: 'it returns false'. Refute it at one input. -/
def shoveRefusesWrong : ChangeSpec := { name := "shoveRefuses", fn := fun _ => fun
  | [d] => { results := [.lit (.bool false)], args := [d] }
  | _ => none }
def ShoveRefusesWrongFalsely : Prop := shoveRefusesRow.holds Tryz.pinned (OpenSpec.ofChange shoveRefusesWrong)

/-- 'etchantlaw31.ShoveAll': WHATEVER THE INPUT: true; the input reads as it did. -/
def shoveAllSpec : ChangeSpec := { name := "shoveAll", fn := fun _ => fun
  | [d1, d2] => { results := [.lit (.bool true)], args := [d1, d2] }
  | _ => none }
def shoveAllRow : OpenClaim := { program := "ythbjngbhbbkkgaagreat", sum := "6514e041cdb96d55c56753f234c46b6f71d1886936bff0b4ac150d3cf6c740f4", func := "etchant/etchantlaw31.ShoveAll", spec := "shoveAll", unfollowed := true, recurses := true, apart := false }
def ShoveAllSaid : Prop := shoveAllRow.holds Tryz.pinned (OpenSpec.ofChange shoveAllSpec)

/-- ITS FALSE NEIGHBOUR: 'it returns false'. Refute it at one input. -/
def shoveAllWrong : ChangeSpec := { name := "shoveAll", fn := fun _ => fun
  | [d1, d2] => { results := [.lit (.bool false)], args := [d1, d2] }
  | _ => none }
def ShoveAllWrongFalsely : Prop := shoveAllRow.holds Tryz.pinned (OpenSpec.ofChange shoveAllWrong)

/- THE SECOND FORM. 'bulk': how many values and letters a reading holds, each counted each time it is reached (what is shared counts as often as it is met; a slice's spare places count too). A statement '..UptoSaid' is the law's where the arguments, and the package variables that the reading takes, are together of bulk at most 1048576: NARROWER than '..Said'. Prove '..Said' where nothing that the law and all that it calls make is longer than what came in: it says more and counts as full. Else prove '..UptoSaid'. A law counts once. -/
mutual
def uptoBulk {H : Type} : DataW H → Nat
  | .lit (.string bytes) => bytes.length + 1
  | .lit _ => 1
  | .nil => 1
  | .ptr d => uptoBulk d + 1
  | .slice elems spare => uptoBulkAll elems + uptoBulkAll spare + 1
  | .agg parts => uptoBulkAll parts + 1
  | .iface _ d => uptoBulk d + 1
  | .map entries => uptoBulkEntries entries + 1
  | .held _ => 1
def uptoBulkAll {H : Type} : List (DataW H) → Nat
  | [] => 0
  | d :: r => uptoBulk d + uptoBulkAll r
def uptoBulkEntries {H : Type} : List (Lit × DataW H) → Nat
  | [] => 0
  | x :: r => uptoBulkEntry x + uptoBulkEntries r
def uptoBulkEntry {H : Type} : Lit × DataW H → Nat
  | (.string bytes, d) => bytes.length + uptoBulk d + 1
  | (_, d) => uptoBulk d + 1
 end
def uptoSmall : (H : Type) → List (DataW H) → Bool := fun _ ds => decide (uptoBulkAll ds ≤ 1048576)
def OpenSpec.upto (s : _root_.Go.ChangeSpec) : _root_.Go.OpenSpec := { _root_.Go.OpenSpec.ofChange s with cond := some uptoSmall }

/-- 'etchantlaw31.ShoveKeeps', WHERE WHAT IT READS IS OF BULK AT MOST 1048576: true; the input reads as it did. -/
def shoveKeepsUptoRow : OpenClaim := { program := "ythbjngbhbbkkgaagreat", sum := "6514e041cdb96d55c56753f234c46b6f71d1886936bff0b4ac150d3cf6c740f4", func := "etchant/etchantlaw31.ShoveKeeps", spec := "shoveKeeps", unfollowed := true, recurses := true, apart := false, narrowed := true }
def ShoveKeepsUptoSaid : Prop := shoveKeepsUptoRow.holds Tryz.pinned (OpenSpec.upto shoveKeepsSpec)

/-- 'etchantlaw31.ShovePaths', WHERE WHAT IT READS IS OF BULK AT MOST 1048576: true; the input reads as it did. -/
def shovePathsUptoRow : OpenClaim := { program := "ythbjngbhbbkkgaagreat", sum := "6514e041cdb96d55c56753f234c46b6f71d1886936bff0b4ac150d3cf6c740f4", func := "etchant/etchantlaw31.ShovePaths", spec := "shovePaths", unfollowed := true, recurses := true, apart := false, narrowed := true }
def ShovePathsUptoSaid : Prop := shovePathsUptoRow.holds Tryz.pinned (OpenSpec.upto shovePathsSpec)

/-- 'etchantlaw31.ShoveShort', WHERE WHAT IT READS IS OF BULK AT MOST 1048576: true; the input reads as it did. -/
def shoveShortUptoRow : OpenClaim := { program := "ythbjngbhbbkkgaagreat", sum := "6514e041cdb96d55c56753f234c46b6f71d1886936bff0b4ac150d3cf6c740f4", func := "etchant/etchantlaw31.ShoveShort", spec := "shoveShort", unfollowed := true, recurses := true, apart := false, narrowed := true }
def ShoveShortUptoSaid : Prop := shoveShortUptoRow.holds Tryz.pinned (OpenSpec.upto shoveShortSpec)

/-- 'etchantlaw31.ShoveRefuses', WHERE WHAT IT READS IS OF BULK AT MOST 1048576: true; the input reads as it did. -/
def shoveRefusesUptoRow : OpenClaim := { program := "ythbjngbhbbkkgaagreat", sum := "6514e041cdb96d55c56753f234c46b6f71d1886936bff0b4ac150d3cf6c740f4", func := "etchant/etchantlaw31.ShoveRefuses", spec := "shoveRefuses", unfollowed := true, recurses := true, apart := false, narrowed := true }
def ShoveRefusesUptoSaid : Prop := shoveRefusesUptoRow.holds Tryz.pinned (OpenSpec.upto shoveRefusesSpec)

/-- 'etchantlaw31.ShoveAll', WHERE WHAT IT READS IS OF BULK AT MOST 1048576: true; the input reads as it did. -/
def shoveAllUptoRow : OpenClaim := { program := "ythbjngbhbbkkgaagreat", sum := "6514e041cdb96d55c56753f234c46b6f71d1886936bff0b4ac150d3cf6c740f4", func := "etchant/etchantlaw31.ShoveAll", spec := "shoveAll", unfollowed := true, recurses := true, apart := false, narrowed := true }
def ShoveAllUptoSaid : Prop := shoveAllUptoRow.holds Tryz.pinned (OpenSpec.upto shoveAllSpec)

end Rows
end Go.Proofs.YthbjngbhbbkkgaaGreat
