/- The walk of DigestMarks. -/
import Derived.Test.YtljalgmfmlhcaaaDigLawsC
import Derived.Deep.RegionHeld3
namespace Go.Proofs.Ytljalgmfmlhcaaa
open Go.RowKit
set_option linter.unusedVariables false
set_option linter.unusedSimpArgs false

theorem bcell {W w1 : World} (hb : Below W.heap.size W w1) : (∀ b o, b < W.heap.size → w1.cell? ⟨b, o, none⟩ = W.cell? ⟨b, o, none⟩) ∧ (∀ b o, b < W.heap.size → w1.frozen? ⟨b, o, none⟩ = W.frozen? ⟨b, o, none⟩) :=
  ⟨fun b o h => hb.cell (p := ⟨b, o, none⟩) h, fun b o h => hb.frozen (p := ⟨b, o, none⟩) h⟩

set_option maxRecDepth 100000 in
theorem digestMarks_core (a0 a1 s key msg : ByteArray) (q c : Nat) (w : World) (h0 : a0.size ≤ maxLen) (h1 : a1.size ≤ maxLen) (hs : s.size ≤ maxLen)
    (e0 : a0.extract 0 (min a0.size 300) = key) (e1 : a1.extract 0 (min a1.size 300) = msg) (hk : key.size ≤ 300) (hm : msg.size ≤ 300) (hq : q < 256) (hc : c < 256) :
    Calls Try.prog 5 #[.string a0, .string a1, .agg #[.string s, .int .u8 q, .int .u8 c]] w fun e w' => e = .returned (.bool true) ∧ Below w.heap.size w w' := by
  have E0 := Lib.hid e0; clear e0
  have E1 := Lib.hid e1; clear e1
  unfold maxLen at hs
  have hcv := fun w => conv1d w
  go_enter Try.func5, Try.ntmps5
  go_wp2_with fail
  refine (sane_calls _).mono ?_
  rintro e w1 ⟨rfl, hb1⟩
  have c0 : w1.cell? ⟨w.heap.size, 0, none⟩ = some (.string s) := (hb1.cell (p := ⟨w.heap.size, 0, none⟩) (by simp)).trans (by simp)
  have c1 : w1.cell? ⟨w.heap.size, 1, none⟩ = some (.int .u8 q) := (hb1.cell (p := ⟨w.heap.size, 1, none⟩) (by simp)).trans (by simp)
  have c2 : w1.cell? ⟨w.heap.size, 2, none⟩ = some (.int .u8 c) := (hb1.cell (p := ⟨w.heap.size, 2, none⟩) (by simp)).trans (by simp)
  have hw1 : w.heap.size < w1.heap.size := by have := hb1.size; simp at this; omega
  go_wp2_with fail
  refine (cut_calls a0 _ h0).mono ?_
  rintro e w' ⟨rfl, rfl⟩
  rw [E0.out]
  go_wp2_with fail
  refine (cut_calls a1 _ h1).mono ?_
  rintro e w' ⟨rfl, rfl⟩
  rw [E1.out]
  go_wp2_with fail
  refine (rMark_calls key msg _ (by omega) (by omega)).mono ?_
  rintro e w2 ⟨rfl, hb2⟩
  have d0 : w2.cell? ⟨w.heap.size, 0, none⟩ = some (.string s) := (hb2.cell (p := ⟨w.heap.size, 0, none⟩) hw1).trans c0
  have d1 : w2.cell? ⟨w.heap.size, 1, none⟩ = some (.int .u8 q) := (hb2.cell (p := ⟨w.heap.size, 1, none⟩) hw1).trans c1
  have d2 : w2.cell? ⟨w.heap.size, 2, none⟩ = some (.int .u8 c) := (hb2.cell (p := ⟨w.heap.size, 2, none⟩) hw1).trans c2
  clear c0 c1 c2
  have hw2 : w.heap.size < w2.heap.size := Nat.lt_of_lt_of_le hw1 hb2.size
  have hb3 := below_tr ((Below.refl _ w).alloc (Nat.le_refl _) _) (hb1.trans (hb2.mono hb1.size)) (Nat.le_refl _)
  clear hb1 hb2
  have hms : (mk (markb key.data.toList msg.data.toList)).size = 8 := by rw [mk_size]; rfl
  obtain ⟨M, hM⟩ : ∃ M, M = mk (markb key.data.toList msg.data.toList) := ⟨_, rfl⟩
  rw [← hM] at hms ⊢
  have HM := Lib.hid hM; clear hM
  have hms1 : M.size ≤ 8 := by omega
  have hms2 : 8 ≤ M.size := by omega
  have HMS := Lib.hid hms; clear hms
  go_wp2_with fail
  have hk8 : q % M.size < M.size := Nat.mod_lt _ (by omega)
  rw [show (q : Int) % (M.size : Int) = ((q % M.size : Nat) : Int) by simp]
  generalize q % M.size = k at hk8 ⊢
  have hsi : ∀ n : Int, (strI [n]).size = 1 := fun n => strI_size _
  have hx1 : (M.extract 0 k).size ≤ 8 := by simp only [ByteArray.size_extract]; omega
  have hx2 : (M.extract (k + 1) M.size).size ≤ 8 := by simp only [ByteArray.size_extract]; omega
  go_region
  have hcs : (M.extract 0 k ++ strI [(c : Int)] ++ M.extract (k + 1) M.size).size ≤ 100 := by
    simp only [ByteArray.size_append, hsi]
    omega
  generalize M.extract 0 k ++ strI [(c : Int)] ++ M.extract (k + 1) M.size = C at hcs ⊢
  have hb4 : Below w.heap.size w (w2.alloc (.cells #[.int .u8 (c : Int)] 5)).drew := (hb3.alloc hb3.size _).drew
  have f0 : (w2.alloc (.cells #[.int .u8 (c : Int)] 5)).drew.cell? ⟨w.heap.size, 0, none⟩ = some (.string s) := (World.cell?_alloc_lt w2 _ ⟨w.heap.size, 0, none⟩ hw2).trans d0
  have hw4 : w.heap.size < (w2.alloc (.cells #[.int .u8 (c : Int)] 5)).drew.heap.size := by show _ < (w2.alloc _).heap.size; simp; omega
  generalize (w2.alloc (.cells #[.int .u8 (c : Int)] 5)).drew = w4 at hb4 f0 hw4 ⊢
  clear d0 d1 d2 hx1 hx2 hb3 hcv hsi
  go_wp2_with fail
  have hR : (s.extract 0 (min (s.size : Int) 20).toNat).size ≤ 20 := by simp only [ByteArray.size_extract]; omega
  generalize s.extract 0 (min (s.size : Int) 20).toNat = R at hR ⊢
  clear f0
  have hkl : k ≤ M.size := Nat.le_of_lt hk8
  go_region_held3 (fun _ => True) (trivial) ((go_at_call 15; refine (rMark_calls _ _ _ (by omega) (by omega)).mono ?_; rintro e w' ⟨rfl, hb⟩))
  rename_i w6 hb6 _
  have hb7 := hb
  clear hb
  have hB : Below w.heap.size w w' := below_tr (below_tr hb4.drew hb6 (Nat.le_refl _)) hb7 (Nat.le_refl _)
  clear hb6 hb7
  have hxs : ∀ i (h : i < [M, C, R, M.extract 0 k, mk (markb msg.data.toList key.data.toList), mk (markb R.data.toList msg.data.toList)].length), [M, C, R, M.extract 0 k, mk (markb msg.data.toList key.data.toList), mk (markb R.data.toList msg.data.toList)][i].size ≤ 100 := by
    intro i h
    have e1 : ∀ a b, (mk (markb a b)).size = 8 := fun a b => by rw [mk_size]; rfl
    match i, h with
    | 0, _ => show M.size ≤ 100; omega
    | 1, _ => exact hcs
    | 2, _ => show R.size ≤ 100; omega
    | 3, _ => show (M.extract 0 k).size ≤ 100; simp only [ByteArray.size_extract]; omega
    | 4, _ => show (mk (markb _ _)).size ≤ 100; rw [e1]; omega
    | 5, _ => show (mk (markb _ _)).size ≤ 100; rw [e1]; omega
  have hcell := cells_new w' [M, C, R, M.extract 0 k, mk (markb msg.data.toList key.data.toList), mk (markb R.data.toList msg.data.toList)]
  have hl6 : [M, C, R, M.extract 0 k, mk (markb msg.data.toList key.data.toList), mk (markb R.data.toList msg.data.toList)].length = 6 := rfl
  simp only [List.map_cons, List.map_nil] at hcell
  have hB8 : Below w.heap.size w (w'.alloc (.cells #[.string M, .string C, .string R, .string (M.extract 0 k), .string (mk (markb msg.data.toList key.data.toList)), .string (mk (markb R.data.toList msg.data.toList))] 9)) := hB.alloc hB.size _
  have hlt8 : w'.heap.size < (w'.alloc (.cells #[.string M, .string C, .string R, .string (M.extract 0 k), .string (mk (markb msg.data.toList key.data.toList)), .string (mk (markb R.data.toList msg.data.toList))] 9)).heap.size := by simp
  generalize (w'.alloc (.cells #[.string M, .string C, .string R, .string (M.extract 0 k), .string (mk (markb msg.data.toList key.data.toList)), .string (mk (markb R.data.toList msg.data.toList))] 9)) = w8 at hcell hB8 hlt8 ⊢
  generalize [M, C, R, M.extract 0 k, mk (markb msg.data.toList key.data.toList), mk (markb R.data.toList msg.data.toList)] = XS at hcell hxs hl6
  have HC := Lib.hid hcell; clear hcell
  have HX := Lib.hid hxs; clear hxs
  have HL := Lib.hid hl6; clear hl6
  generalize w'.heap.size = g at hlt8 HC ⊢
  clear hms1 hms2 hk8 hkl hcs hR hb4 hB
  go_wp2
  go_loopw [62] (fun i wr => ∃ j : Nat, j ≤ 6 ∧ i = .int .i64 j ∧ Below w8.heap.size w8 wr) (fun i _ => 6 - (intOf i).toNat)
  case atStart => exact ⟨0, by omega, rfl, Below.refl _ _⟩
  case round =>
    obtain ⟨j, hj, rfl, hbr⟩ := hrel
    by_cases hlt : j < 6
    · have hcj := (hbr.cell (p := ⟨g, j, none⟩) hlt8).trans (HC.out j (by rw [HL.out]; exact hlt))
      have hsj := HX.out j (by rw [HL.out]; exact hlt)
      generalize XS[j]'(by rw [HL.out]; exact hlt) = x at hcj hsj
      go_wp2_with fail
      refine (Check_calls key msg x _ (by omega) (by omega)).mono ?_
      rintro e wa ⟨rfl, hba⟩
      go_wp2_with fail
      refine (rCheck_calls key msg x _ (by omega) (by omega)).mono ?_
      rintro e wb ⟨rfl, hbb⟩
      go_wp2_with fail
      go_roundw
      case rel => exact ⟨j + 1, by omega, by go_num, below_tr (below_tr hbr hba (Nat.le_refl _)) hbb (Nat.le_refl _)⟩
      case measure => simp [intOf]; omega
    · go_wp2_with fail
      refine (Mark_calls key msg _ (by omega) (by omega)).mono ?_
      rintro e wa ⟨rfl, hba⟩
      rw [← HM.out]
      go_wp2_with fail
      go_ret
      exact ⟨rfl, below_tr (below_tr hB8 hbr (Nat.le_refl _)) hba (Nat.le_refl _)⟩

theorem digestMarks_walk (a0 : ByteArray) (h0 : a0.size ≤ maxLen) (a1 : ByteArray) (h1 : a1.size ≤ maxLen) (s : ByteArray) (hs : s.size ≤ maxLen) (q : Int) (hq : (Lit.int .u8 q).wf = true) (c : Int) (hc : (Lit.int .u8 c).wf = true) (w : World) :
    Calls Try.prog 5 #[.string a0, .string a1, .agg #[.string s, .int .u8 q, .int .u8 c]] w fun e w' => e = .returned (.bool true) ∧ Below w.heap.size w w' := by
  have b1 := bounds_u8 hq
  have b2 := bounds_u8 hc
  obtain ⟨n1, rfl⟩ := Int.eq_ofNat_of_zero_le b1.1
  obtain ⟨n2, rfl⟩ := Int.eq_ofNat_of_zero_le b2.1
  exact digestMarks_core a0 a1 s _ _ n1 n2 w h0 h1 hs rfl rfl (cut_le a0) (cut_le a1) (by omega) (by omega)
end Go.Proofs.Ytljalgmfmlhcaaa
