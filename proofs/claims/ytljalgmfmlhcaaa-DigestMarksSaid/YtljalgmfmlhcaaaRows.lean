/-
  No cell of these rows narrows 'for every input' (looked for: loops, veiled, ifaces, maps, wideKeys, modest, calm, conditions, laid).
  DERIVED. THE GIVEN ROWS OF THIS SEAT. 6 by the template 'for every input the law returns true; each argument reads behind the call as it read before'; 0 by the template 'total and deterministic' (their statements: YtljalgmfmlhcaaaTotals.lean).
  GIVEN WITH THE SEED: the statements are not yours to turn. If you find one false, say at which input.
  Laid BY PROGRAM, IN A SANDBOX (cutbox-rows.mjs): the forced cells as the released guide's own fill.sh prints them over the translation 660e77dd016d7054… (all of the seat's roots in one cut). By AI agents, Wed Nov 11 2026. No macro, syntax, notation, axiom, sorry.
-/
import Derived.Test.YtljalgmfmlhcaaaChecked
import GoSem.Claim
import GoSem.ClaimJoined
import GoSem.ClaimMapViews
import Derived.JoinedTies
import Derived.KernelRfl
namespace Go.Proofs.Ytljalgmfmlhcaaa
/- THE CELL 'sum', in the pinned program and in every row, IS THE sha256 OF THE DUMP (.gsa) THAT YtljalgmfmlhcaaaProg.lean LOADS. Nothing in Lean hashes anything: it is a label: what it is worth is what the hold of that sum in a sandbox is worth. -/
noncomputable def Try.pinned : Pinned := { name := "ytljalgmfmlhcaaa", sum := "660e77dd016d70540bfd7ec7d1d987b22a72355036626414aea72bc7bc25fcc0", checked := Try.checked }
namespace Rows
def none {H : Type} : Left H := { results := [], args := [] }

/-- 'etchantlaw04.DigestOf': WHATEVER THE INPUT: true; the input reads as it did. -/
def digestOfSpec : ChangeSpec := { name := "digestOf", fn := fun _ => fun
  | [d] => { results := [.lit (.bool true)], args := [d] }
  | _ => none }
def digestOfRow : OpenClaim := { program := "ytljalgmfmlhcaaa", sum := "660e77dd016d70540bfd7ec7d1d987b22a72355036626414aea72bc7bc25fcc0", func := "etchant/etchantlaw04.DigestOf", spec := "digestOf", apart := false }
def DigestOfSaid : Prop := digestOfRow.holds Try.pinned (OpenSpec.ofChange digestOfSpec)

/-- ITS FALSE NEIGHBOUR: 'it returns false'. Refute it at one input. -/
def digestOfWrong : ChangeSpec := { name := "digestOf", fn := fun _ => fun
  | [d] => { results := [.lit (.bool false)], args := [d] }
  | _ => none }
def DigestOfWrongFalsely : Prop := digestOfRow.holds Try.pinned (OpenSpec.ofChange digestOfWrong)

/-- 'etchantlaw04.DigestChains': WHATEVER THE INPUT: true; the input reads as it did. -/
def digestChainsSpec : ChangeSpec := { name := "digestChains", fn := fun _ => fun
  | [d1, d2] => { results := [.lit (.bool true)], args := [d1, d2] }
  | _ => none }
def digestChainsRow : OpenClaim := { program := "ytljalgmfmlhcaaa", sum := "660e77dd016d70540bfd7ec7d1d987b22a72355036626414aea72bc7bc25fcc0", func := "etchant/etchantlaw04.DigestChains", spec := "digestChains", apart := false }
def DigestChainsSaid : Prop := digestChainsRow.holds Try.pinned (OpenSpec.ofChange digestChainsSpec)

/-- ITS FALSE NEIGHBOUR: 'it returns false'. Refute it at one input. -/
def digestChainsWrong : ChangeSpec := { name := "digestChains", fn := fun _ => fun
  | [d1, d2] => { results := [.lit (.bool false)], args := [d1, d2] }
  | _ => none }
def DigestChainsWrongFalsely : Prop := digestChainsRow.holds Try.pinned (OpenSpec.ofChange digestChainsWrong)

/-- 'etchantlaw04.DigestMarks': WHATEVER THE INPUT: true; the input reads as it did. -/
def digestMarksSpec : ChangeSpec := { name := "digestMarks", fn := fun _ => fun
  | [d1, d2, d3] => { results := [.lit (.bool true)], args := [d1, d2, d3] }
  | _ => none }
def digestMarksRow : OpenClaim := { program := "ytljalgmfmlhcaaa", sum := "660e77dd016d70540bfd7ec7d1d987b22a72355036626414aea72bc7bc25fcc0", func := "etchant/etchantlaw04.DigestMarks", spec := "digestMarks", apart := false }
def DigestMarksSaid : Prop := digestMarksRow.holds Try.pinned (OpenSpec.ofChange digestMarksSpec)

/-- ITS FALSE NEIGHBOUR: 'it returns false'. Refute it at one input. -/
def digestMarksWrong : ChangeSpec := { name := "digestMarks", fn := fun _ => fun
  | [d1, d2, d3] => { results := [.lit (.bool false)], args := [d1, d2, d3] }
  | _ => none }
def DigestMarksWrongFalsely : Prop := digestMarksRow.holds Try.pinned (OpenSpec.ofChange digestMarksWrong)

/-- 'etchantlaw04.DigestOne': WHATEVER THE INPUT: true; the input reads as it did. -/
def digestOneSpec : ChangeSpec := { name := "digestOne", fn := fun _ => fun
  | [d1, d2, d3] => { results := [.lit (.bool true)], args := [d1, d2, d3] }
  | _ => none }
def digestOneRow : OpenClaim := { program := "ytljalgmfmlhcaaa", sum := "660e77dd016d70540bfd7ec7d1d987b22a72355036626414aea72bc7bc25fcc0", func := "etchant/etchantlaw04.DigestOne", spec := "digestOne", apart := false }
def DigestOneSaid : Prop := digestOneRow.holds Try.pinned (OpenSpec.ofChange digestOneSpec)

/-- ITS FALSE NEIGHBOUR: 'it returns false'. Refute it at one input. -/
def digestOneWrong : ChangeSpec := { name := "digestOne", fn := fun _ => fun
  | [d1, d2, d3] => { results := [.lit (.bool false)], args := [d1, d2, d3] }
  | _ => none }
def DigestOneWrongFalsely : Prop := digestOneRow.holds Try.pinned (OpenSpec.ofChange digestOneWrong)

/-- 'etchantlaw04.DigestAccepts': WHATEVER THE INPUT: true; the input reads as it did. -/
def digestAcceptsSpec : ChangeSpec := { name := "digestAccepts", fn := fun _ => fun
  | [d1, d2, d3] => { results := [.lit (.bool true)], args := [d1, d2, d3] }
  | _ => none }
def digestAcceptsRow : OpenClaim := { program := "ytljalgmfmlhcaaa", sum := "660e77dd016d70540bfd7ec7d1d987b22a72355036626414aea72bc7bc25fcc0", func := "etchant/etchantlaw04.DigestAccepts", spec := "digestAccepts", apart := false }
def DigestAcceptsSaid : Prop := digestAcceptsRow.holds Try.pinned (OpenSpec.ofChange digestAcceptsSpec)

/-- ITS FALSE NEIGHBOUR: 'it returns false'. Refute it at one input. -/
def digestAcceptsWrong : ChangeSpec := { name := "digestAccepts", fn := fun _ => fun
  | [d1, d2, d3] => { results := [.lit (.bool false)], args := [d1, d2, d3] }
  | _ => none }
def DigestAcceptsWrongFalsely : Prop := digestAcceptsRow.holds Try.pinned (OpenSpec.ofChange digestAcceptsWrong)

/-- 'etchantlaw04.DigestParts': WHATEVER THE INPUT: true; the input reads as it did. -/
def digestPartsSpec : ChangeSpec := { name := "digestParts", fn := fun _ => fun
  | [d1, d2] => { results := [.lit (.bool true)], args := [d1, d2] }
  | _ => none }
def digestPartsRow : OpenClaim := { program := "ytljalgmfmlhcaaa", sum := "660e77dd016d70540bfd7ec7d1d987b22a72355036626414aea72bc7bc25fcc0", func := "etchant/etchantlaw04.DigestParts", spec := "digestParts", apart := false }
def DigestPartsSaid : Prop := digestPartsRow.holds Try.pinned (OpenSpec.ofChange digestPartsSpec)

/-- ITS FALSE NEIGHBOUR: 'it returns false'. Refute it at one input. -/
def digestPartsWrong : ChangeSpec := { name := "digestParts", fn := fun _ => fun
  | [d1, d2] => { results := [.lit (.bool false)], args := [d1, d2] }
  | _ => none }
def DigestPartsWrongFalsely : Prop := digestPartsRow.holds Try.pinned (OpenSpec.ofChange digestPartsWrong)

/- THE SECOND FORM. 'bulk': how many values and letters a reading holds, each counted each time it is reached (what is shared counts as often as it is met; a slice's spare places count too). A statement '..UptoSaid' is the law's where the arguments, and the package variables that the reading takes, are together of bulk at most 1048576: NARROWER than '..Said'. Prove '..Said' where nothing that the law and all that it calls make is longer than what came in: it says more and counts as full. Else prove '..UptoSaid'. A law counts once. -/
mutual
def uptoBulk {H : Type} : DataW H → Nat
  | .lit (.string bytes) => bytes.length + 1
  | .lit _ => 1
  | .nil => 1
  | .ptr d => uptoBulk d + 1
  | .slice elems spare => uptoBulkAll elems + uptoBulkAll spare + 1
  | .agg parts => uptoBulkAll parts + 1
  | .iface _ d => uptoBulk d + 1
  | .map entries => uptoBulkEntries entries + 1
  | .held _ => 1
def uptoBulkAll {H : Type} : List (DataW H) → Nat
  | [] => 0
  | d :: r => uptoBulk d + uptoBulkAll r
def uptoBulkEntries {H : Type} : List (Lit × DataW H) → Nat
  | [] => 0
  | x :: r => uptoBulkEntry x + uptoBulkEntries r
def uptoBulkEntry {H : Type} : Lit × DataW H → Nat
  | (.string bytes, d) => bytes.length + uptoBulk d + 1
  | (_, d) => uptoBulk d + 1
 end
def uptoSmall : (H : Type) → List (DataW H) → Bool := fun _ ds => decide (uptoBulkAll ds ≤ 1048576)
def OpenSpec.upto (s : _root_.Go.ChangeSpec) : _root_.Go.OpenSpec := { _root_.Go.OpenSpec.ofChange s with cond := some uptoSmall }

/-- 'etchantlaw04.DigestOf', WHERE WHAT IT READS IS OF BULK AT MOST 1048576: true; the input reads as it did. -/
def digestOfUptoRow : OpenClaim := { program := "ytljalgmfmlhcaaa", sum := "660e77dd016d70540bfd7ec7d1d987b22a72355036626414aea72bc7bc25fcc0", func := "etchant/etchantlaw04.DigestOf", spec := "digestOf", apart := false, narrowed := true }
def DigestOfUptoSaid : Prop := digestOfUptoRow.holds Try.pinned (OpenSpec.upto digestOfSpec)

/-- 'etchantlaw04.DigestChains', WHERE WHAT IT READS IS OF BULK AT MOST 1048576: true; the input reads as it did. -/
def digestChainsUptoRow : OpenClaim := { program := "ytljalgmfmlhcaaa", sum := "660e77dd016d70540bfd7ec7d1d987b22a72355036626414aea72bc7bc25fcc0", func := "etchant/etchantlaw04.DigestChains", spec := "digestChains", apart := false, narrowed := true }
def DigestChainsUptoSaid : Prop := digestChainsUptoRow.holds Try.pinned (OpenSpec.upto digestChainsSpec)

/-- 'etchantlaw04.DigestMarks', WHERE WHAT IT READS IS OF BULK AT MOST 1048576: true; the input reads as it did. -/
def digestMarksUptoRow : OpenClaim := { program := "ytljalgmfmlhcaaa", sum := "660e77dd016d70540bfd7ec7d1d987b22a72355036626414aea72bc7bc25fcc0", func := "etchant/etchantlaw04.DigestMarks", spec := "digestMarks", apart := false, narrowed := true }
def DigestMarksUptoSaid : Prop := digestMarksUptoRow.holds Try.pinned (OpenSpec.upto digestMarksSpec)

/-- 'etchantlaw04.DigestOne', WHERE WHAT IT READS IS OF BULK AT MOST 1048576: true; the input reads as it did. -/
def digestOneUptoRow : OpenClaim := { program := "ytljalgmfmlhcaaa", sum := "660e77dd016d70540bfd7ec7d1d987b22a72355036626414aea72bc7bc25fcc0", func := "etchant/etchantlaw04.DigestOne", spec := "digestOne", apart := false, narrowed := true }
def DigestOneUptoSaid : Prop := digestOneUptoRow.holds Try.pinned (OpenSpec.upto digestOneSpec)

/-- 'etchantlaw04.DigestAccepts', WHERE WHAT IT READS IS OF BULK AT MOST 1048576: true; the input reads as it did. -/
def digestAcceptsUptoRow : OpenClaim := { program := "ytljalgmfmlhcaaa", sum := "660e77dd016d70540bfd7ec7d1d987b22a72355036626414aea72bc7bc25fcc0", func := "etchant/etchantlaw04.DigestAccepts", spec := "digestAccepts", apart := false, narrowed := true }
def DigestAcceptsUptoSaid : Prop := digestAcceptsUptoRow.holds Try.pinned (OpenSpec.upto digestAcceptsSpec)

/-- 'etchantlaw04.DigestParts', WHERE WHAT IT READS IS OF BULK AT MOST 1048576: true; the input reads as it did. -/
def digestPartsUptoRow : OpenClaim := { program := "ytljalgmfmlhcaaa", sum := "660e77dd016d70540bfd7ec7d1d987b22a72355036626414aea72bc7bc25fcc0", func := "etchant/etchantlaw04.DigestParts", spec := "digestParts", apart := false, narrowed := true }
def DigestPartsUptoSaid : Prop := digestPartsUptoRow.holds Try.pinned (OpenSpec.upto digestPartsSpec)

end Rows
end Go.Proofs.Ytljalgmfmlhcaaa
