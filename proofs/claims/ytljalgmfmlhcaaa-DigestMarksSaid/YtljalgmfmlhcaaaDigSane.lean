/- The law's own sanity check answers true. -/
import Derived.Test.YtljalgmfmlhcaaaDigWalkF
namespace Go.Proofs.Ytljalgmfmlhcaaa
open Go.RowKit

theorem at_of {f : FuncId} {args : Array Value} {w : World} {a b : ByteArray} (h : Calls Try.prog f args w fun e w' => e = .returned (.string a) ∧ Below w.heap.size w w') (e : a = b) :
    Calls Try.prog f args w fun e w' => e = .returned (.string b) ∧ Below w.heap.size w w' := by rw [← e]; exact h
theorem at_ofB {f : FuncId} {args : Array Value} {w : World} {a b : Bool} (h : Calls Try.prog f args w fun e w' => e = .returned (.bool a) ∧ Below w.heap.size w w') (e : a = b) :
    Calls Try.prog f args w fun e w' => e = .returned (.bool b) ∧ Below w.heap.size w w' := by rw [← e]; exact h

set_option maxRecDepth 100000 in
theorem sane_calls (w : World) : Calls Try.prog 9 #[] w fun e w' => e = .returned (.bool true) ∧ Below w.heap.size w w' := by
  go_enter Try.func9, Try.ntmps9
  go_wp2_with fail
  refine (at_of (b := ⟨#[0, 0, 0, 20, 0, 0, 0, 26]⟩) (Of_calls _ _ (by decide)) (by decide +kernel)).mono ?_
  rintro e w1 ⟨rfl, hb1⟩
  go_wp2_with fail
  refine (at_of (b := ⟨#[0, 14, 187, 45, 0, 16, 36, 201]⟩) (Of_calls _ _ (by decide)) (by decide +kernel)).mono ?_
  rintro e w2 ⟨rfl, hb2⟩
  go_wp2_with fail
  refine (at_of (b := ⟨#[106, 20, 73, 155, 99, 229, 246, 76]⟩) (Chain_calls _ _ _ (by decide) (by decide)) (by decide +kernel)).mono ?_
  rintro e w3 ⟨rfl, hb3⟩
  go_wp2_with fail
  refine (at_of (b := ⟨#[106, 20, 73, 155, 99, 229, 246, 76]⟩) (Of_calls _ _ (by decide)) (by decide +kernel)).mono ?_
  rintro e w4 ⟨rfl, hb4⟩
  go_wp2_with fail
  refine (at_of (b := ⟨#[120, 181, 89, 79, 102, 63, 10, 108]⟩) (Mark_calls _ _ _ (by decide) (by decide)) (by decide +kernel)).mono ?_
  rintro e w5 ⟨rfl, hb5⟩
  go_wp2_with fail
  refine (at_of (b := ⟨#[120, 181, 89, 79, 102, 63, 10, 108]⟩) (Of_calls _ _ (by decide)) (by decide +kernel)).mono ?_
  rintro e w6 ⟨rfl, hb6⟩
  go_wp2_with fail
  refine (at_of (b := ⟨#[120, 181, 89, 79, 102, 63, 10, 108]⟩) (Mark_calls _ _ _ (by decide) (by decide)) (by decide +kernel)).mono ?_
  rintro e w7 ⟨rfl, hb7⟩
  go_wp2_with fail
  refine (at_ofB (b := true) (Check_calls _ _ _ _ (by decide) (by decide)) (by decide +kernel)).mono ?_
  rintro e w8 ⟨rfl, hb8⟩
  go_wp2_with fail
  refine (at_of (b := ⟨#[35, 73, 135, 57, 90, 71, 0, 43]⟩) (Mark_calls _ _ _ (by decide) (by decide)) (by decide +kernel)).mono ?_
  rintro e w9 ⟨rfl, hb9⟩
  go_wp2_with fail
  refine (at_ofB (b := false) (Check_calls _ _ _ _ (by decide) (by decide)) (by decide +kernel)).mono ?_
  rintro e wa ⟨rfl, hba⟩
  go_wp2_with fail
  go_ret
  refine ⟨rfl, ?_⟩
  have c2 := below_tr hb1 hb2 (Nat.le_refl _)
  have c3 := below_tr c2 hb3 (Nat.le_refl _)
  have c4 := below_tr c3 hb4 (Nat.le_refl _)
  have c5 := below_tr c4 hb5 (Nat.le_refl _)
  have c6 := below_tr c5 hb6 (Nat.le_refl _)
  have c7 := below_tr c6 hb7 (Nat.le_refl _)
  have c8 := below_tr c7 hb8 (Nat.le_refl _)
  have c9 := below_tr c8 hb9 (Nat.le_refl _)
  exact below_tr c9 hba (Nat.le_refl _)
end Go.Proofs.Ytljalgmfmlhcaaa
