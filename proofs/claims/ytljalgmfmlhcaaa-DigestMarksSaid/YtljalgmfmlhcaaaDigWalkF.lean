/- Walks of the reference, and of the law's own small functions. -/
import Derived.Test.YtljalgmfmlhcaaaDigWalkE
import Derived.WalkLawsBesides
import Derived.WalkSpells
namespace Go.Proofs.Ytljalgmfmlhcaaa
open Go.RowKit

theorem app_data1 (c : UInt8) (l : List UInt8) (a b : ByteArray) : ((⟨#[c]⟩ : ByteArray) ++ mk l ++ a ++ b).data.toList = c :: (l ++ (a.data.toList ++ b.data.toList)) := by simp [mk]
theorem app_data2 (c : UInt8) (l : List UInt8) (a b d : ByteArray) : ((⟨#[c]⟩ : ByteArray) ++ mk l ++ a ++ b ++ d).data.toList = c :: (l ++ (a.data.toList ++ (b.data.toList ++ d.data.toList))) := by simp [mk]
theorem mk_app (a b : List UInt8) : mk a ++ mk b = mk (a ++ b) := by
  apply ByteArray.ext
  simp [mk]
theorem mk_app_self (a : List UInt8) (s : ByteArray) : mk a ++ s = mk (a ++ s.data.toList) := by
  apply ByteArray.ext
  simp [mk]

set_option maxRecDepth 100000 in
theorem rOf_calls (s : ByteArray) (w : World) (hs : s.size ≤ 4000) :
    Calls Try.prog 12 #[.string s] w fun e w' => e = .returned (.string (mk (dig s.data.toList))) ∧ Below w.heap.size w w' := by
  go_enter Try.func12, Try.ntmps12
  go_wp2
  go_loop [3, 4, 5] (fun x y i => ∃ j : Nat, j ≤ s.size ∧ i = .int .i64 j ∧ x = .int .i64 (runX 20 (s.data.toList.take j)) ∧ y = .int .i64 (runY 26 (s.data.toList.take j))) (fun _ _ i => s.size - (intOf i).toNat)
  case atStart => exact ⟨0, Nat.zero_le _, rfl, rfl, rfl⟩
  case round =>
    obtain ⟨j, hj, rfl, rfl, rfl⟩ := hrel
    have hx2 := runX_lt (s.data.toList.take j) 20 (by decide)
    have hy2 := runY_lt (s.data.toList.take j) 26 (by decide)
    by_cases hjl : j < s.size
    · have htk := take_snoc s.data.toList j (by simpa using hjl)
      obtain ⟨ch, hch⟩ : ∃ ch, ch = s[j]'hjl := ⟨_, rfl⟩
      rw [show s.data.toList[j]'(by simpa using hjl) = ch from hch.symm] at htk
      have HCH := Lib.hid hch; clear hch
      have hX : runX 20 (s.data.toList.take (j + 1)) = stepX (runX 20 (s.data.toList.take j)) ch := by rw [htk, runX_append]; rfl
      have hY : runY 26 (s.data.toList.take (j + 1)) = stepY (runY 26 (s.data.toList.take j)) ch := by rw [htk, runY_append]; rfl
      clear htk
      have HX1 := Lib.hid hX; clear hX
      have HY1 := Lib.hid hY; clear hY
      obtain ⟨x1, hx3⟩ : ∃ x1, x1 = runX 20 (s.data.toList.take j) := ⟨_, rfl⟩
      obtain ⟨y1, hy3⟩ : ∃ y1, y1 = runY 26 (s.data.toList.take j) := ⟨_, rfl⟩
      rw [← hx3] at hx2 HX1 ⊢
      rw [← hy3] at hy2 HY1 ⊢
      clear hx3 hy3
      have hch : (s[j]'hjl).toNat < 256 := by rw [← HCH.out]; exact ch.toNat_lt
      go_wp2
      go_round
      case rel => exact ⟨j + 1, by omega, by go_num, by rw [HX1.out, HCH.out]; unfold stepX; congr 1, by rw [HY1.out, HCH.out]; unfold stepY; congr 1⟩
      case measure => simp [intOf]; omega
    · have : j = s.size := by omega
      subst this
      rw [List.take_of_length_le (by simp)] at hx2 hy2 ⊢
      go_wp2_with (go_at_call 21; refine (bytes4_calls _ _ (by omega)).mono ?_; rintro e w' ⟨rfl, hb⟩)
      go_ret
      exact ⟨ret_str (by rw [mk_app]; rfl), below_tr ‹_› ‹_› (Nat.le_refl _)⟩

set_option maxRecDepth 100000 in
theorem rChain_calls (a b : ByteArray) (w : World) (ha : a.size ≤ 400) (hb : b.size ≤ 400) :
    Calls Try.prog 14 #[.string a, .string b] w fun e w' => e = .returned (.string (mk (chainb a.data.toList b.data.toList))) ∧ Below w.heap.size w w' := by
  go_enter Try.func14, Try.ntmps14
  go_wp2_with fail
  refine (bytes4_calls a.size _ (by omega)).mono ?_
  rintro e w1 ⟨rfl, hb1⟩
  have hf : (mk (four a.size)).size ≤ 4 := Nat.le_of_eq (by rw [mk_size]; rfl)
  go_wp2_with fail
  have hsz : ((⟨#[1]⟩ : ByteArray) ++ mk (four a.size) ++ a ++ b).size ≤ 4000 := by
    simp only [ByteArray.size_append, show (ByteArray.size ⟨#[1]⟩) = 1 from rfl]
    omega
  have hdt : ((⟨#[1]⟩ : ByteArray) ++ mk (four a.size) ++ a ++ b).data.toList = 1 :: (lenb a.data.toList ++ (a.data.toList ++ b.data.toList)) := by
    exact app_data1 1 (four a.size) a b
  refine (rOf_calls _ _ hsz).mono ?_
  rintro e w2 ⟨rfl, hb2⟩
  rw [hdt]
  clear hsz hdt
  go_wp2_with fail
  go_ret
  exact ⟨rfl, below_tr hb1 hb2 (Nat.le_refl _)⟩

set_option maxRecDepth 100000 in
theorem rMark_calls (a b : ByteArray) (w : World) (ha : a.size ≤ 400) (hb : b.size ≤ 400) :
    Calls Try.prog 15 #[.string a, .string b] w fun e w' => e = .returned (.string (mk (markb a.data.toList b.data.toList))) ∧ Below w.heap.size w w' := by
  go_enter Try.func15, Try.ntmps15
  go_wp2_with fail
  refine (bytes4_calls a.size _ (by omega)).mono ?_
  rintro e w1 ⟨rfl, hb1⟩
  have hf : (mk (four a.size)).size ≤ 4 := Nat.le_of_eq (by rw [mk_size]; rfl)
  go_wp2_with fail
  have hsz : ((⟨#[2]⟩ : ByteArray) ++ mk (four a.size) ++ a ++ b ++ a).size ≤ 4000 := by
    simp only [ByteArray.size_append, show (ByteArray.size ⟨#[2]⟩) = 1 from rfl]
    omega
  have hdt : ((⟨#[2]⟩ : ByteArray) ++ mk (four a.size) ++ a ++ b ++ a).data.toList = 2 :: (lenb a.data.toList ++ (a.data.toList ++ (b.data.toList ++ a.data.toList))) := by
    exact app_data2 2 (four a.size) a b a
  refine (rOf_calls _ _ hsz).mono ?_
  rintro e w2 ⟨rfl, hb2⟩
  rw [hdt]
  clear hsz hdt
  go_wp2_with fail
  go_ret
  exact ⟨rfl, below_tr hb1 hb2 (Nat.le_refl _)⟩

/-- Is a mark accepted? -/
def okMark (k b m : List UInt8) : Bool := !k.isEmpty && m == markb k b

set_option maxRecDepth 100000 in
theorem rCheck_calls (k b m : ByteArray) (w : World) (ha : k.size ≤ 400) (hb : b.size ≤ 400) :
    Calls Try.prog 17 #[.string k, .string b, .string m] w fun e w' => e = .returned (.bool (okMark k.data.toList b.data.toList m.data.toList)) ∧ Below w.heap.size w w' := by
  by_cases hk : k = ⟨#[]⟩
  · subst hk
    go_enter Try.func17, Try.ntmps17
    go_wp2
    go_ret
    exact ⟨rfl, Below.refl _ _⟩
  · have hk1 : k.data.toList.isEmpty = false := by
      rw [Bool.eq_false_iff]
      intro h
      apply hk
      apply ByteArray.ext
      simpa using h
    have hk2 : k.toList.isEmpty = false := by rw [Lib.toList_data]; exact hk1
    go_enter Try.func17, Try.ntmps17
    go_wp2_with fail
    refine (rMark_calls k b _ ha hb).mono ?_
    rintro e w1 ⟨rfl, hb1⟩
    go_wp2_with fail
    go_ret
    refine ⟨?_, hb1⟩
    show Ending.returned (.bool (m.toList == (mk (markb k.data.toList b.data.toList)).toList)) = _
    rw [Lib.toList_data, Lib.toList_data, mk_data]
    unfold okMark
    rw [hk1]
    rfl

set_option maxRecDepth 100000 in
theorem Check_calls (k b m : ByteArray) (w : World) (ha : k.size ≤ 400) (hb : b.size ≤ 400) :
    Calls Try.prog 16 #[.string k, .string b, .string m] w fun e w' => e = .returned (.bool (okMark k.data.toList b.data.toList m.data.toList)) ∧ Below w.heap.size w w' := by
  by_cases hk : k = ⟨#[]⟩
  · subst hk
    refine (Check_nokey b m w).mono ?_
    rintro e w' ⟨rfl, hb⟩
    exact ⟨rfl, hb⟩
  · have hk1 : k.data.toList.isEmpty = false := by
      rw [Bool.eq_false_iff]
      intro h
      apply hk
      apply ByteArray.ext
      simpa using h
    have hk2 : k.toList.isEmpty = false := by rw [Lib.toList_data]; exact hk1
    by_cases hm : m.size = 8
    · refine (Check_full k b m w hk2 hm ha hb).mono ?_
      rintro e w' ⟨rfl, hb⟩
      exact ⟨by unfold okMark; rw [hk1]; rfl, hb⟩
    · refine (Check_size k b m w hk2 (by simp; omega)).mono ?_
      rintro e w' ⟨rfl, hb⟩
      refine ⟨?_, hb⟩
      have : (m.data.toList == markb k.data.toList b.data.toList) = false := by
        rw [beq_eq_false_iff_ne]
        intro h
        have := congrArg List.length h
        rw [show (markb k.data.toList b.data.toList).length = 8 from rfl] at this
        exact hm (by simpa using this)
      unfold okMark
      rw [this, Bool.and_false]

set_option maxRecDepth 100000 in
theorem cut_calls (s : ByteArray) (w : World) (hs : s.size ≤ maxLen) :
    Calls Try.prog 10 #[.string s] w fun e w' => e = .returned (.string (s.extract 0 (min s.size 300))) ∧ w = w' := by
  unfold maxLen at hs
  by_cases h : s.size ≤ 300
  all_goals
    go_enter Try.func10, Try.ntmps10
    go_wp2
    go_ret
    refine ⟨ret_str ?_, rfl⟩
    rw [show (min (s.size : Int) 300).toNat = min s.size 300 by omega]

theorem cut_le (s : ByteArray) : (s.extract 0 (min s.size 300)).size ≤ 300 := by
  simp only [ByteArray.size_extract]
  omega
end Go.Proofs.Ytljalgmfmlhcaaa
