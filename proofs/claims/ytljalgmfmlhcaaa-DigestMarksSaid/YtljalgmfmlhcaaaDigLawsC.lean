/- The walk of DigestOne. -/
import Derived.Test.YtljalgmfmlhcaaaDigLawsB
import Derived.Laws.BitsAllLaws
namespace Go.Proofs.Ytljalgmfmlhcaaa
open Go.RowKit
set_option linter.unusedVariables false
set_option linter.unusedSimpArgs false

theorem xor_ne (x : UInt8) (c : Nat) (hc : c < 256) : x ≠ UInt8.ofNat (bits .xor .u8 (x.toNat : Int) (max (c : Int) 1)).toNat := by
  rw [show max (c : Int) 1 = ((max c 1 : Nat) : Int) by omega, u8_xor_nat _ _ x.toNat_lt (by omega), Int.toNat_natCast]
  intro h
  have h2 := congrArg UInt8.toNat h
  have hx : x.toNat ^^^ max c 1 < 2 ^ 8 := Nat.xor_lt_two_pow (by have := x.toNat_lt; omega) (by omega)
  rw [UInt8.toNat_ofNat', Nat.mod_eq_of_lt hx] at h2
  have h3 : x.toNat ^^^ (x.toNat ^^^ max c 1) = 0 := by rw [← h2]; exact Nat.xor_self _
  rw [← Nat.xor_assoc, Nat.xor_self, Nat.zero_xor] at h3
  omega
theorem other_data (s : ByteArray) (k : Nat) (hk : k < s.size) (n : Int) : (s.extract 0 k ++ strI [n] ++ s.extract (k + 1) s.size).data.toList = s.data.toList.take k ++ UInt8.ofNat n.toNat :: s.data.toList.drop (k + 1) := by
  rw [strI_eq]
  simp only [ByteArray.data_append, Array.toList_append, Lib.extract_data]
  simp [mk]
  rw [List.take_of_length_le (by simp)]
theorem self_data (s : ByteArray) (k : Nat) (hk : k < s.size) : s.data.toList = s.data.toList.take k ++ s[k] :: s.data.toList.drop (k + 1) := by
  have h : k < s.data.toList.length := by simpa using hk
  calc s.data.toList = s.data.toList.take k ++ s.data.toList.drop k := (List.take_append_drop _ _).symm
    _ = _ := by rw [List.drop_eq_getElem_cons h]; rfl

theorem changed (p q : List UInt8) (l : List UInt8) (k : Nat) (x d : UInt8) (hd : x ≠ d) (hl : l = l.take k ++ x :: l.drop (k + 1)) :
    dig (p ++ (l ++ q)) ≠ dig (p ++ ((l.take k ++ d :: l.drop (k + 1)) ++ q)) := by
  have h := dig_change (p ++ l.take k) (l.drop (k + 1) ++ q) x d hd
  have e1 : p ++ l.take k ++ x :: (l.drop (k + 1) ++ q) = p ++ (l ++ q) := by
    conv => rhs; rw [hl]
    simp
  have e2 : p ++ l.take k ++ d :: (l.drop (k + 1) ++ q) = p ++ ((l.take k ++ d :: l.drop (k + 1)) ++ q) := by simp
  rw [e1, e2] at h
  exact h
theorem neqB {a b : List UInt8} (h : a ≠ b) : ((mk a).toList == (mk b).toList) = false := by
  rw [Lib.toList_data, Lib.toList_data, mk_data, mk_data, beq_eq_false_iff_ne]
  exact h

theorem dig_ne {l o : List UInt8} {k : Nat} {x d : UInt8} (hd : x ≠ d) (hl : l = l.take k ++ x :: l.drop (k + 1)) (ho : o = l.take k ++ d :: l.drop (k + 1)) :
    ((mk (dig l)).toList == (mk (dig o)).toList) = false := by
  have h := changed [] [] l k x d hd hl
  rw [← ho, List.append_nil, List.append_nil, List.nil_append, List.nil_append] at h
  exact neqB h
theorem chain_ne {l o : List UInt8} {k : Nat} {x d : UInt8} (hd : x ≠ d) (hl : l = l.take k ++ x :: l.drop (k + 1)) (ho : o = l.take k ++ d :: l.drop (k + 1)) :
    ((mk (chainb [97] l)).toList == (mk (chainb [97] o)).toList) = false := by
  have h := changed (1 :: (lenb [97] ++ [97])) [] l k x d hd hl
  have e : ∀ x, (1 :: (lenb [97] ++ [97])) ++ x = 1 :: (lenb [97] ++ ([97] ++ x)) := fun x => by simp only [List.cons_append, List.append_assoc]
  rw [← ho, List.append_nil, List.append_nil, e, e] at h
  exact neqB h
theorem mark_ne {l o : List UInt8} {k : Nat} {x d : UInt8} (hd : x ≠ d) (hl : l = l.take k ++ x :: l.drop (k + 1)) (ho : o = l.take k ++ d :: l.drop (k + 1)) :
    ((mk (markb [97] l)).toList == (mk (markb [97] o)).toList) = false := by
  have h := changed (2 :: (lenb [97] ++ [97])) [97] l k x d hd hl
  have e : ∀ x, (2 :: (lenb [97] ++ [97])) ++ x = 2 :: (lenb [97] ++ ([97] ++ x)) := fun x => by simp only [List.cons_append, List.append_assoc]
  rw [← ho, e, e] at h
  exact neqB h

set_option maxRecDepth 100000 in
theorem digestOne_core (a0 s : ByteArray) (at_ c : Nat) (w : World) (h0 : a0.size ≤ maxLen) (e0 : a0.extract 0 (min a0.size 300) = s) (hs : s.size ≤ 300) (hs0 : 0 < s.size) (ha : at_ < 65536) (hc : c < 256) :
    Calls Try.prog 6 #[.string a0, .int .u16 at_, .int .u8 c] w fun e w' => e = .returned (.bool true) ∧ Below w.heap.size w w' := by
  have E0 := Lib.hid e0; clear e0
  have hcv := fun w => conv1d w
  have hz : ((s.size : Int) == 0) = false := by simp only [beq_eq_false_iff_ne]; omega
  go_enter Try.func6, Try.ntmps6
  go_wp2_with fail
  refine (sane_calls _).mono ?_
  rintro e w1 ⟨rfl, hb1⟩
  go_wp2_with fail
  refine (cut_calls a0 _ h0).mono ?_
  rintro e w' ⟨rfl, rfl⟩
  rw [E0.out]
  go_wp2_with fail
  have hk : at_ % s.size < s.size := Nat.mod_lt _ hs0
  rw [show (at_ : Int) % (s.size : Int) = ((at_ % s.size : Nat) : Int) by simp]
  generalize at_ % s.size = k at hk ⊢
  have hsi : ∀ n : Int, (strI [n]).size = 1 := fun n => strI_size _
  have hx1 : (s.extract 0 k).size ≤ 300 := by simp only [ByteArray.size_extract]; omega
  have hx2 : (s.extract (k + 1) s.size).size ≤ 300 := by simp only [ByteArray.size_extract]; omega
  go_region

  have hd := self_data s k hk
  have ho := other_data s k hk (bits .xor .u8 ((s[k]'hk).toNat : Int) (max (c : Int) 1))
  have hne := xor_ne (s[k]'hk) c hc
  have hos : (s.extract 0 k ++ strI [bits .xor .u8 ((s[k]'hk).toNat : Int) (max (c : Int) 1)] ++ s.extract (k + 1) s.size).size ≤ 400 := by
    simp only [ByteArray.size_append, hsi, ByteArray.size_extract]
    omega
  have hb2 : Below w.heap.size w (w1.alloc (.cells #[.int .u8 (bits .xor .u8 ((s[k]'hk).toNat : Int) (max (c : Int) 1))] 5)).drew := (hb1.alloc hb1.size _).drew
  generalize s.extract 0 k ++ strI [bits .xor .u8 ((s[k]'hk).toNat : Int) (max (c : Int) 1)] ++ s.extract (k + 1) s.size = o at ho hos ⊢
  generalize (w1.alloc (.cells #[.int .u8 (bits .xor .u8 ((s[k]'hk).toNat : Int) (max (c : Int) 1))] 5)).drew = w2 at hb2 ⊢
  clear hx1 hx2 hsi hcv
  have G1 := Lib.hid (dig_ne hne hd ho)
  have G2 := Lib.hid (chain_ne hne hd ho)
  have G3 := Lib.hid (mark_ne hne hd ho)
  clear ho hne hd
  obtain ⟨x1, h1⟩ : ∃ x1, x1 = mk (dig s.data.toList) := ⟨_, rfl⟩
  obtain ⟨y1, h1'⟩ : ∃ y1, y1 = mk (dig o.data.toList) := ⟨_, rfl⟩
  obtain ⟨x2, h2⟩ : ∃ x2, x2 = mk (chainb [97] s.data.toList) := ⟨_, rfl⟩
  obtain ⟨y2, h2'⟩ : ∃ y2, y2 = mk (chainb [97] o.data.toList) := ⟨_, rfl⟩
  obtain ⟨x3, h3⟩ : ∃ x3, x3 = mk (markb [97] s.data.toList) := ⟨_, rfl⟩
  obtain ⟨y3, h3'⟩ : ∃ y3, y3 = mk (markb [97] o.data.toList) := ⟨_, rfl⟩
  have G1' := G1.out
  have G2' := G2.out
  have G3' := G3.out
  rw [← h1, ← h1'] at G1'
  rw [← h2, ← h2'] at G2'
  rw [← h3, ← h3'] at G3'
  have H1 := Lib.hid h1.symm; clear h1
  have H1' := Lib.hid h1'.symm; clear h1'
  have H2 := Lib.hid h2.symm; clear h2
  have H2' := Lib.hid h2'.symm; clear h2'
  have H3 := Lib.hid h3.symm; clear h3
  have H3' := Lib.hid h3'.symm; clear h3'
  go_wp2_with fail
  refine (at_of (Of_calls s _ (by omega)) H1.out).mono ?_
  rintro e w3 ⟨rfl, hb3⟩
  go_wp2_with fail
  refine (at_of (Of_calls o _ hos) H1'.out).mono ?_
  rintro e w4 ⟨rfl, hb4⟩
  go_wp2_with fail
  refine (at_of (Chain_calls ⟨#[97]⟩ s _ (by decide) (by omega)) H2.out).mono ?_
  rintro e w5 ⟨rfl, hb5⟩
  go_wp2_with fail
  refine (at_of (Chain_calls ⟨#[97]⟩ o _ (by decide) hos) H2'.out).mono ?_
  rintro e w6 ⟨rfl, hb6⟩
  go_wp2_with fail
  refine (at_of (Mark_calls ⟨#[97]⟩ s _ (by decide) (by omega)) H3.out).mono ?_
  rintro e w7 ⟨rfl, hb7⟩
  go_wp2_with fail
  refine (at_of (Mark_calls ⟨#[97]⟩ o _ (by decide) hos) H3'.out).mono ?_
  rintro e w8 ⟨rfl, hb8⟩
  go_wp2_with fail
  go_ret
  refine ⟨rfl, ?_⟩
  have c3 := below_tr hb2 hb3 (Nat.le_refl _)
  have c4 := below_tr c3 hb4 (Nat.le_refl _)
  have c5 := below_tr c4 hb5 (Nat.le_refl _)
  have c6 := below_tr c5 hb6 (Nat.le_refl _)
  have c7 := below_tr c6 hb7 (Nat.le_refl _)
  exact below_tr c7 hb8 (Nat.le_refl _)

set_option maxRecDepth 100000 in
theorem digestOne_nil (a0 : ByteArray) (at_ c : Int) (w : World) (h0 : a0.size ≤ maxLen) (e0 : a0.extract 0 (min a0.size 300) = ⟨#[]⟩) :
    Calls Try.prog 6 #[.string a0, .int .u16 at_, .int .u8 c] w fun e w' => e = .returned (.bool true) ∧ Below w.heap.size w w' := by
  have E0 := Lib.hid e0; clear e0
  go_enter Try.func6, Try.ntmps6
  go_wp2_with fail
  refine (sane_calls _).mono ?_
  rintro e w1 ⟨rfl, hb1⟩
  go_wp2_with fail
  refine (cut_calls a0 _ h0).mono ?_
  rintro e w' ⟨rfl, rfl⟩
  rw [E0.out]
  go_wp2
  go_ret
  exact ⟨rfl, hb1⟩

theorem digestOne_walk (a0 : ByteArray) (h0 : a0.size ≤ maxLen) (a1 : Int) (h1 : (Lit.int .u16 a1).wf = true) (a2 : Int) (h2 : (Lit.int .u8 a2).wf = true) (w : World) :
    Calls Try.prog 6 #[.string a0, .int .u16 a1, .int .u8 a2] w fun e w' => e = .returned (.bool true) ∧ Below w.heap.size w w' := by
  have b1 := bounds_u16 h1
  have b2 := bounds_u8 h2
  obtain ⟨n1, rfl⟩ := Int.eq_ofNat_of_zero_le b1.1
  obtain ⟨n2, rfl⟩ := Int.eq_ofNat_of_zero_le b2.1
  by_cases hz : (a0.extract 0 (min a0.size 300)).size = 0
  · refine digestOne_nil a0 _ _ w h0 ?_
    apply ByteArray.ext
    exact Array.eq_empty_of_size_eq_zero hz
  · exact digestOne_core a0 _ n1 n2 w h0 rfl (cut_le a0) (by omega) (by omega) (by omega)
end Go.Proofs.Ytljalgmfmlhcaaa
