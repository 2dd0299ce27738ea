/- The walks of the laws. -/
import Derived.Test.YtljalgmfmlhcaaaDigSane
namespace Go.Proofs.Ytljalgmfmlhcaaa
open Go.RowKit

theorem dig_size8 (l : List UInt8) : (((mk (dig l)).size : Int) == 8) = true := by rw [mk_size]; rfl
theorem ret_bool {a b : Bool} (h : a = b) : Ending.returned (.bool a) = .returned (.bool b) := by rw [h]

set_option maxRecDepth 100000 in
theorem digestOf_walk (a : ByteArray) (ha : a.size ≤ maxLen) (w : World) : Calls Try.prog 3 #[.string a] w fun e w' => e = .returned (.bool true) ∧ Below w.heap.size w w' := by
  go_enter Try.func3, Try.ntmps3
  go_wp2_with fail
  refine (sane_calls _).mono ?_
  rintro e w1 ⟨rfl, hb1⟩
  go_wp2_with fail
  refine (cut_calls a _ ha).mono ?_
  rintro e w' ⟨rfl, rfl⟩
  have hs := Nat.le_trans (cut_le a) (show 300 ≤ 400 by decide)
  generalize a.extract 0 (min a.size 300) = s at hs ⊢
  go_wp2_with fail
  refine (Of_calls s _ hs).mono ?_
  rintro e w2 ⟨rfl, hb2⟩
  go_wp2_with fail
  refine (rOf_calls s _ (by omega)).mono ?_
  rintro e w3 ⟨rfl, hb3⟩
  go_wp2_with fail
  refine (Of_calls s _ hs).mono ?_
  rintro e w4 ⟨rfl, hb4⟩
  have h8 := dig_size8 s.data.toList
  go_wp2_with fail
  go_ret
  exact ⟨rfl, below_tr (below_tr (below_tr hb1 hb2 (Nat.le_refl _)) hb3 (Nat.le_refl _)) hb4 (Nat.le_refl _)⟩

set_option maxRecDepth 100000 in
theorem digestChains_walk (a : ByteArray) (ha : a.size ≤ maxLen) (b : ByteArray) (hb : b.size ≤ maxLen) (w : World) : Calls Try.prog 4 #[.string a, .string b] w fun e w' => e = .returned (.bool true) ∧ Below w.heap.size w w' := by
  go_enter Try.func4, Try.ntmps4
  go_wp2_with fail
  refine (sane_calls _).mono ?_
  rintro e w1 ⟨rfl, hb1⟩
  go_wp2_with fail
  refine (cut_calls a _ ha).mono ?_
  rintro e w' ⟨rfl, rfl⟩
  have hs := Nat.le_trans (cut_le a) (show 300 ≤ 400 by decide)
  generalize a.extract 0 (min a.size 300) = s at hs ⊢
  go_wp2_with fail
  refine (cut_calls b _ hb).mono ?_
  rintro e w' ⟨rfl, rfl⟩
  have ht := Nat.le_trans (cut_le b) (show 300 ≤ 400 by decide)
  generalize b.extract 0 (min b.size 300) = t at ht ⊢
  go_wp2_with fail
  refine (Chain_calls s t _ hs ht).mono ?_
  rintro e w2 ⟨rfl, hb2⟩
  go_wp2_with fail
  refine (rChain_calls s t _ hs ht).mono ?_
  rintro e w3 ⟨rfl, hb3⟩
  go_wp2_with fail
  refine (Of_calls s _ hs).mono ?_
  rintro e w4 ⟨rfl, hb4⟩
  have h8 : (mk (dig s.data.toList)).size ≤ 400 := by rw [mk_size]; exact Nat.le_of_ble_eq_true rfl
  go_wp2_with fail
  refine (Chain_calls _ t _ h8 ht).mono ?_
  rintro e w5 ⟨rfl, hb5⟩
  go_wp2_with fail
  refine (rOf_calls s _ (by omega)).mono ?_
  rintro e w6 ⟨rfl, hb6⟩
  go_wp2_with fail
  refine (rChain_calls _ t _ h8 ht).mono ?_
  rintro e w7 ⟨rfl, hb7⟩
  go_wp2_with fail
  go_ret
  have c2 := below_tr hb1 hb2 (Nat.le_refl _)
  have c3 := below_tr c2 hb3 (Nat.le_refl _)
  have c4 := below_tr c3 hb4 (Nat.le_refl _)
  have c5 := below_tr c4 hb5 (Nat.le_refl _)
  have c6 := below_tr c5 hb6 (Nat.le_refl _)
  exact ⟨rfl, below_tr c6 hb7 (Nat.le_refl _)⟩
end Go.Proofs.Ytljalgmfmlhcaaa
