/- The walks of the laws. -/
import Derived.Test.YtljalgmfmlhcaaaDigLawsA
namespace Go.Proofs.Ytljalgmfmlhcaaa
open Go.RowKit

theorem ofList_isEmpty_false {s : ByteArray} (h : ¬ s = ⟨#[]⟩) : s.data.toList.isEmpty = false := by
  rw [Bool.eq_false_iff]
  intro h'
  apply h
  apply ByteArray.ext
  simpa using h'

theorem conv1d (w : World) (a0 : Int) :
    (convert 29 9 (.slice (some ⟨w.heap.size, 0, none⟩) 1 1)).run Try.prog (w.alloc (.cells #[.int .u8 a0] 5)).drew =
      .ok (.string (strI [a0])) (w.alloc (.cells #[.int .u8 a0] 5)).drew :=
  conv_raw _ _ [a0] 5 (0, 0) 1 (heap_alloc_new w _)

set_option maxRecDepth 100000 in
theorem digestParts_walk (a : ByteArray) (ha : a.size ≤ maxLen) (b : ByteArray) (hb : b.size ≤ maxLen) (w : World) : Calls Try.prog 8 #[.string a, .string b] w fun e w' => e = .returned (.bool true) ∧ Below w.heap.size w w' := by
  unfold maxLen at ha hb
  have hc := fun w => conv1d w
  go_enter Try.func8, Try.ntmps8
  go_wp2_with fail
  refine (sane_calls _).mono ?_
  rintro e w1 ⟨rfl, hb1⟩
  go_wp2_with fail
  go_region
  have hs : (a.extract 0 (min (a.size : Int) 100).toNat).size ≤ 100 := by simp only [ByteArray.size_extract]; omega
  have ht : (b.extract 0 (min (b.size : Int) 100).toNat).size ≤ 100 := by simp only [ByteArray.size_extract]; omega
  generalize a.extract 0 (min (a.size : Int) 100).toNat = s at hs ⊢
  generalize b.extract 0 (min (b.size : Int) 100).toNat = t at ht ⊢
  have hsi : (strI [(s.size : Int)]).size ≤ 1 := Nat.le_of_eq (by rw [strI_size]; rfl)
  go_wp2_with fail
  have hL : ((⟨#[0, 0, 0]⟩ : ByteArray) ++ strI [(s.size : Int)]) = mk (lenb s.data.toList) := by
    rw [strI_eq]
    have e : lenb s.data.toList = [0, 0, 0, UInt8.ofNat s.size] := by
      unfold lenb four
      rw [show s.data.toList.length = s.size by simp]
      simp only [List.cons.injEq, and_true]
      refine ⟨?_, ?_, ?_⟩ <;> (apply UInt8.toNat_inj.1; simp; omega)
    rw [e]
    rfl
  rw [hL]
  clear hL hsi
  have hl4 : (mk (lenb s.data.toList)).size ≤ 4 := Nat.le_of_eq (by rw [mk_size]; rfl)
  refine (Chain_calls s t _ (by omega) (by omega)).mono ?_
  rintro e w2 ⟨rfl, hb2⟩
  go_wp2_with fail
  have hsz : ((⟨#[1]⟩ : ByteArray) ++ mk (lenb s.data.toList) ++ s ++ t).size ≤ 400 := by
    simp only [ByteArray.size_append, show (ByteArray.size ⟨#[1]⟩) = 1 from rfl]
    omega
  have hdt := app_data1 1 (lenb s.data.toList) s t
  refine (Of_calls _ _ hsz).mono ?_
  rintro e w3 ⟨rfl, hb3⟩
  rw [hdt]
  clear hdt hsz
  have he : (mk (chainb s.data.toList t.data.toList)) = mk (dig (1 :: (lenb s.data.toList ++ (s.data.toList ++ t.data.toList)))) := rfl
  rw [he]
  clear he
  go_wp2_with fail
  refine (Mark_calls s t _ (by omega) (by omega)).mono ?_
  rintro e w4 ⟨rfl, hb4⟩
  go_wp2_with fail
  have hsz : ((⟨#[2]⟩ : ByteArray) ++ mk (lenb s.data.toList) ++ s ++ t ++ s).size ≤ 400 := by
    simp only [ByteArray.size_append, show (ByteArray.size ⟨#[2]⟩) = 1 from rfl]
    omega
  have hdt := app_data2 2 (lenb s.data.toList) s t s
  refine (Of_calls _ _ hsz).mono ?_
  rintro e w5 ⟨rfl, hb5⟩
  rw [hdt]
  clear hdt hsz
  have he : (mk (markb s.data.toList t.data.toList)) = mk (dig (2 :: (lenb s.data.toList ++ (s.data.toList ++ (t.data.toList ++ s.data.toList))))) := rfl
  rw [he]
  clear he
  go_wp2_with fail
  go_ret
  refine ⟨rfl, ?_⟩
  have c1 := (hb1.drew).alloc hb1.size (.cells #[.int .u8 (s.size : Int)] 5)
  have c2 := below_tr c1 hb2 (Nat.le_refl _)
  have c3 := below_tr c2 hb3 (Nat.le_refl _)
  have c4 := below_tr c3 hb4 (Nat.le_refl _)
  exact below_tr c4 hb5 (Nat.le_refl _)

theorem okMark_self (k b : List UInt8) (h : k.isEmpty = false) : okMark k b (mk (markb k b)).data.toList = true := by
  unfold okMark
  rw [mk_data, h]
  simp
theorem okMark_none (b m : List UInt8) : okMark [] b m = false := rfl
theorem okMark_some (k b : List UInt8) (m : ByteArray) (h : k.isEmpty = false) : okMark k b m.data.toList = (m.toList == (mk (markb k b)).toList) := by
  unfold okMark
  rw [Lib.toList_data, Lib.toList_data, mk_data, h]
  rfl
theorem xkey (k : ByteArray) : ((⟨#[120]⟩ : ByteArray) ++ k).data.toList.isEmpty = false := by simp

set_option maxRecDepth 100000 in
theorem accepts_core (k : ByteArray) (b : ByteArray) (m : ByteArray) (w : World) (hk : k.size ≤ 300) (hb : b.size ≤ 300) (a0 a1 a2 : ByteArray) (h0 : a0.size ≤ maxLen) (h1 : a1.size ≤ maxLen) (h2 : a2.size ≤ maxLen)
    (e0 : a0.extract 0 (min a0.size 300) = k) (e1 : a1.extract 0 (min a1.size 300) = b) (e2 : a2.extract 0 (min a2.size 300) = m) :
    Calls Try.prog 7 #[.string a0, .string a1, .string a2] w fun e w' => e = .returned (.bool true) ∧ Below w.heap.size w w' := by
  have E0 := Lib.hid e0; clear e0
  have E1 := Lib.hid e1; clear e1
  have E2 := Lib.hid e2; clear e2
  go_enter Try.func7, Try.ntmps7
  go_wp2_with fail
  refine (sane_calls _).mono ?_
  rintro e w1 ⟨rfl, hb1⟩
  go_wp2_with fail
  refine (cut_calls a0 _ h0).mono ?_
  rintro e w' ⟨rfl, rfl⟩
  rw [E0.out]
  go_wp2_with fail
  refine (cut_calls a1 _ h1).mono ?_
  rintro e w' ⟨rfl, rfl⟩
  rw [E1.out]
  go_wp2_with fail
  refine (cut_calls a2 _ h2).mono ?_
  rintro e w' ⟨rfl, rfl⟩
  rw [E2.out]
  go_wp2_with fail
  refine (Mark_calls k b _ (by omega) (by omega)).mono ?_
  rintro e w2 ⟨rfl, hb2⟩
  have hx : ((⟨#[120]⟩ : ByteArray) ++ k).size ≤ 400 := by
    simp only [ByteArray.size_append, show (ByteArray.size ⟨#[120]⟩) = 1 from rfl]
    omega
  by_cases he : k = ⟨#[]⟩
  · subst he
    go_wp2_with fail
    refine (at_ofB (b := false) (Check_calls _ b _ _ (by decide) (by omega)) (okMark_none _ _)).mono ?_
    rintro e w3 ⟨rfl, hb3⟩
    go_wp2_with fail
    refine (at_ofB (b := false) (Check_calls _ b m _ (by decide) (by omega)) (okMark_none _ _)).mono ?_
    rintro e w4 ⟨rfl, hb4⟩
    go_wp2_with fail
    refine (Mark_calls _ b _ (by decide) (by omega)).mono ?_
    rintro e w5 ⟨rfl, hb5⟩
    go_wp2_with fail
    refine (at_ofB (b := true) (Check_calls _ b _ _ (by decide) (by omega)) (okMark_self _ _ rfl)).mono ?_
    rintro e w6 ⟨rfl, hb6⟩
    go_wp2_with fail
    go_ret
    refine ⟨rfl, ?_⟩
    have c2 := below_tr hb1 hb2 (Nat.le_refl _)
    have c3 := below_tr c2 hb3 (Nat.le_refl _)
    have c4 := below_tr c3 hb4 (Nat.le_refl _)
    have c5 := below_tr c4 hb5 (Nat.le_refl _)
    exact below_tr c5 hb6 (Nat.le_refl _)
  · have hk1 := ofList_isEmpty_false he
    have hk2 : k.toList.isEmpty = false := by rw [Lib.toList_data]; exact hk1
    go_wp2_with fail
    refine (at_ofB (b := true) (Check_calls k b _ _ (by omega) (by omega)) (okMark_self _ _ hk1)).mono ?_
    rintro e w3 ⟨rfl, hb3⟩
    go_wp2_with fail
    refine (at_ofB (Check_calls k b m _ (by omega) (by omega)) (okMark_some _ _ _ hk1)).mono ?_
    rintro e w4 ⟨rfl, hb4⟩
    go_wp2_with fail
    refine (Mark_calls _ b _ hx (by omega)).mono ?_
    rintro e w5 ⟨rfl, hb5⟩
    go_wp2_with fail
    refine (at_ofB (b := true) (Check_calls _ b _ _ hx (by omega)) (okMark_self _ _ (xkey k))).mono ?_
    rintro e w6 ⟨rfl, hb6⟩
    go_wp2_with fail
    go_ret
    refine ⟨rfl, ?_⟩
    have c2 := below_tr hb1 hb2 (Nat.le_refl _)
    have c3 := below_tr c2 hb3 (Nat.le_refl _)
    have c4 := below_tr c3 hb4 (Nat.le_refl _)
    have c5 := below_tr c4 hb5 (Nat.le_refl _)
    exact below_tr c5 hb6 (Nat.le_refl _)

theorem digestAccepts_walk (a0 : ByteArray) (h0 : a0.size ≤ maxLen) (a1 : ByteArray) (h1 : a1.size ≤ maxLen) (a2 : ByteArray) (h2 : a2.size ≤ maxLen) (w : World) :
    Calls Try.prog 7 #[.string a0, .string a1, .string a2] w fun e w' => e = .returned (.bool true) ∧ Below w.heap.size w w' :=
  accepts_core _ _ _ w (cut_le a0) (cut_le a1) a0 a1 a2 h0 h1 h2 rfl rfl rfl
end Go.Proofs.Ytljalgmfmlhcaaa
