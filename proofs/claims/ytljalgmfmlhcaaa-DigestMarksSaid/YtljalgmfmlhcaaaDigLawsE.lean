/- The walk of DigestMarks, told of how its struct reads. -/
import Derived.Test.YtljalgmfmlhcaaaDigLawsD
import Derived.Lib.SmallJoins
namespace Go.Proofs.Ytljalgmfmlhcaaa
open Go.RowKit Go.Joins
set_option linter.unusedVariables false

theorem Try.cells28 : Try.prog.cellsOf 28 = 3 := by kernel_rfl
theorem digestMarks_read {H : Type} {enc : TypeId × Value → H} {base b0 : Nat} {sp : Nat → Bool} {held : Bool} {v : Value} {d : DataW H} {p : List MemPlace} (W : World)
    (a0 : ByteArray) (h0 : a0.size ≤ maxLen) (a1 : ByteArray) (h1 : a1.size ≤ maxLen) (hv : Value.okWide Try.prog W .any b0 28 v) (h : DataW.Trod enc Try.prog W base sp held 28 v d p) :
    Calls Try.prog 5 #[.string a0, .string a1, v] W fun e w' => e = .returned (.bool true) ∧ Below W.heap.size W w' := by
  obtain ⟨v0, v1, v2, y0, y1, y2, n, rfl, _, _, g0, g1, g2⟩ := open_agg3 Try.underlying28 (by kernel_rfl) Try.cells28 hv h
  obtain ⟨s, e0, _, hs⟩ := DataW.trod_string Try.underlying9 g0
  obtain ⟨q, e1, _, hq⟩ := DataW.trod_int Try.underlying5 g1
  obtain ⟨c, e2, _, hc⟩ := DataW.trod_int Try.underlying5 g2
  simp only [List.cons.injEq, and_true] at e0 e1 e2
  subst e0 e1 e2
  exact digestMarks_walk a0 h0 a1 h1 s hs q hq c hc W
end Go.Proofs.Ytljalgmfmlhcaaa
