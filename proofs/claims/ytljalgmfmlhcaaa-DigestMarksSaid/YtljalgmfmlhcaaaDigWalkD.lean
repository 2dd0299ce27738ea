/- Walks. -/
import Derived.Test.YtljalgmfmlhcaaaDigWalkC
namespace Go.Proofs.Ytljalgmfmlhcaaa
open Go.RowKit

theorem below_tr {B : Nat} {a w w' : World} (h : Below B a w) (h' : Below w.heap.size w w') (hB : B ≤ a.heap.size) : Below B a w' := h.trans (h'.mono (Nat.le_trans hB h.size))

theorem cells_new (w : World) (ss : List ByteArray) : ∀ i (h : i < ss.length), (w.alloc (.cells (ss.map Value.string).toArray 9)).cell? ⟨w.heap.size, i, none⟩ = some (.string ss[i]) := by
  intro i h
  have hh := heap_alloc_new w (.cells (ss.map Value.string).toArray 9)
  unfold World.cell?
  simp only [hh]
  simp [h]

theorem of_list (w : World) (n : Nat) (ss : List ByteArray) (hn : n = ss.length) (hn5 : ss.length ≤ 5) (hsz : ∀ i (h : i < ss.length), ss[i].size ≤ 400) :
    Calls Try.prog 19 #[.slice (some ⟨w.heap.size, 0, none⟩) n n] (w.alloc (.cells (ss.map Value.string).toArray 9)) fun e w' => e = .returned (digV (dig (cat ss))) ∧ Below w.heap.size w w' := by
  refine (of_calls _ w.heap.size n ss hn (by simp) hn5 (cells_new w ss) hsz).mono ?_
  rintro e w' ⟨rfl, hb⟩
  exact ⟨rfl, below_tr ((Below.refl _ w).alloc (Nat.le_refl _) _) hb (Nat.le_refl _)⟩

theorem of1 (w : World) (s : ByteArray) (hs : s.size ≤ 400) :
    Calls Try.prog 19 #[.slice (some ⟨w.heap.size, 0, none⟩) 1 1] (w.alloc (.cells #[.string s] 9)) fun e w' => e = .returned (digV (dig s.data.toList)) ∧ Below w.heap.size w w' := by
  have h := of_list w 1 [s] rfl (by simp) (by intro i h; have : i = 0 := by simpa using h
                                              subst this; exact hs)
  have e : cat [s] = s.data.toList := by simp [cat]
  rw [e] at h
  exact h
theorem of4 (w : World) (s0 s1 s2 s3 : ByteArray) (h0 : s0.size ≤ 400) (h1 : s1.size ≤ 400) (h2 : s2.size ≤ 400) (h3 : s3.size ≤ 400) :
    Calls Try.prog 19 #[.slice (some ⟨w.heap.size, 0, none⟩) 4 4] (w.alloc (.cells #[.string s0, .string s1, .string s2, .string s3] 9)) fun e w' => e = .returned (digV (dig (s0.data.toList ++ (s1.data.toList ++ (s2.data.toList ++ s3.data.toList))))) ∧ Below w.heap.size w w' := by
  have h := of_list w 4 [s0, s1, s2, s3] rfl (by simp) (by
    intro i h
    match i, h with
    | 0, _ => exact h0
    | 1, _ => exact h1
    | 2, _ => exact h2
    | 3, _ => exact h3)
  have e : cat [s0, s1, s2, s3] = s0.data.toList ++ (s1.data.toList ++ (s2.data.toList ++ s3.data.toList)) := by simp [cat]
  rw [e] at h
  exact h
theorem of5 (w : World) (s0 s1 s2 s3 s4 : ByteArray) (h0 : s0.size ≤ 400) (h1 : s1.size ≤ 400) (h2 : s2.size ≤ 400) (h3 : s3.size ≤ 400) (h4 : s4.size ≤ 400) :
    Calls Try.prog 19 #[.slice (some ⟨w.heap.size, 0, none⟩) 5 5] (w.alloc (.cells #[.string s0, .string s1, .string s2, .string s3, .string s4] 9)) fun e w' => e = .returned (digV (dig (s0.data.toList ++ (s1.data.toList ++ (s2.data.toList ++ (s3.data.toList ++ s4.data.toList)))))) ∧ Below w.heap.size w w' := by
  have h := of_list w 5 [s0, s1, s2, s3, s4] rfl (by simp) (by
    intro i h
    match i, h with
    | 0, _ => exact h0
    | 1, _ => exact h1
    | 2, _ => exact h2
    | 3, _ => exact h3
    | 4, _ => exact h4)
  have e : cat [s0, s1, s2, s3, s4] = s0.data.toList ++ (s1.data.toList ++ (s2.data.toList ++ (s3.data.toList ++ s4.data.toList))) := by simp [cat]
  rw [e] at h
  exact h

theorem mk_size (l : List UInt8) : (mk l).size = l.length := by simp [mk, ByteArray.size]
theorem mk_data (l : List UInt8) : (mk l).data.toList = l := by simp [mk]
theorem mk_self (s : ByteArray) : mk s.data.toList = s := by
  apply ByteArray.ext
  simp [mk]

set_option maxRecDepth 100000 in
theorem Of_calls (s : ByteArray) (w : World) (hs : s.size ≤ 400) :
    Calls Try.prog 11 #[.string s] w fun e w' => e = .returned (.string (mk (dig s.data.toList))) ∧ Below w.heap.size w w' := by
  go_enter Try.func11, Try.ntmps11
  go_wp2_with fail
  refine (of1 w s hs).mono ?_
  rintro e w1 ⟨rfl, hb1⟩
  go_wp2_with fail
  refine (text_dig _ (length_dig _) _).mono ?_
  rintro e w2 ⟨rfl, hb2⟩
  go_wp2_with fail
  go_ret
  exact ⟨rfl, below_tr hb1 hb2 (Nat.le_refl _)⟩

set_option maxRecDepth 100000 in
theorem Chain_calls (a b : ByteArray) (w : World) (ha : a.size ≤ 400) (hb : b.size ≤ 400) :
    Calls Try.prog 13 #[.string a, .string b] w fun e w' => e = .returned (.string (mk (chainb a.data.toList b.data.toList))) ∧ Below w.heap.size w w' := by
  go_enter Try.func13, Try.ntmps13
  go_wp2_with fail
  refine (len_calls a _ ha).mono ?_
  rintro e w1 ⟨rfl, hb1⟩
  go_wp2_with fail
  refine (of4 w1 ⟨#[1]⟩ _ a b (by decide) (by rw [mk_size]; exact Nat.le_of_ble_eq_true rfl) ha hb).mono ?_
  rintro e w2 ⟨rfl, hb2⟩
  rw [mk_data]
  go_wp2_with fail
  refine (text_dig _ (length_dig _) _).mono ?_
  rintro e w3 ⟨rfl, hb3⟩
  go_wp2_with fail
  go_ret
  exact ⟨rfl, below_tr (below_tr hb1 hb2 (Nat.le_refl _)) hb3 (Nat.le_refl _)⟩

set_option maxRecDepth 100000 in
theorem marked_calls (a b : ByteArray) (w : World) (ha : a.size ≤ 400) (hb : b.size ≤ 400) :
    Calls Try.prog 23 #[.string a, .string b] w fun e w' => e = .returned (digV (markb a.data.toList b.data.toList)) ∧ Below w.heap.size w w' := by
  go_enter Try.func23, Try.ntmps23
  go_wp2_with fail
  refine (len_calls a _ ha).mono ?_
  rintro e w1 ⟨rfl, hb1⟩
  go_wp2_with fail
  refine (of5 w1 ⟨#[2]⟩ _ a b a (by decide) (by rw [mk_size]; exact Nat.le_of_ble_eq_true rfl) ha hb ha).mono ?_
  rintro e w2 ⟨rfl, hb2⟩
  rw [mk_data]
  have hz : w2.heap[w.heap.size]? = some (.cells #[.int .u8 0, .int .u8 0, .int .u8 0, .int .u8 0, .int .u8 0, .int .u8 0, .int .u8 0, .int .u8 0] 36 (0, 0)) := by
    have h1 := heap_alloc_new w (.cells #[.int .u8 0, .int .u8 0, .int .u8 0, .int .u8 0, .int .u8 0, .int .u8 0, .int .u8 0, .int .u8 0] 36 (0, 0))
    have h2 := (hb1.block w.heap.size (by simp)).trans h1
    exact (hb2.block w.heap.size (lt_of_some h2)).trans h2
  have e : dig ((⟨#[2]⟩ : ByteArray).data.toList ++ (lenb a.data.toList ++ (a.data.toList ++ (b.data.toList ++ a.data.toList)))) = markb a.data.toList b.data.toList := rfl
  rw [e]
  clear e
  have hl : (markb a.data.toList b.data.toList).length = 8 := rfl
  obtain ⟨m, hm⟩ : ∃ m, m = markb a.data.toList b.data.toList := ⟨_, rfl⟩
  rw [← hm] at hl ⊢
  have HM := Lib.hid hm; clear hm
  have HL := Lib.hid hl; clear hl
  go_wp2_with (refine wpList_store_row rfl 36 (.tmp 4) (.tmp 11) rfl w.heap.size (m.map fun c => Value.int .u8 (c.toNat : Int)).toArray rfl rfl 36 #[.int .u8 0, .int .u8 0, .int .u8 0, .int .u8 0, .int .u8 0, .int .u8 0, .int .u8 0, .int .u8 0] ?c1 ?c2 ?c3 ?c4 ?_)
  case c1 => exact hz
  case c2 => rw [show (m.map fun c => Value.int .u8 (c.toNat : Int)).toArray.size = 8 by simp [HL.out]]; kernel_rfl
  case c3 => simp [HL.out]
  case c4 => simp [Value.oneCell']
  refine bodyPost_ret (v := digV m) ?_ rfl ⟨by rw [HM.out], ?_⟩
  · exact results_cell_row (p := 4) (ty := 36) rfl _ _ w.heap.size 36 _ (0, 0) _ rfl (setRow_heap _ _ _ _ 36 (0, 0) hz) Try.underlying36 rfl (by rw [show (m.map fun c => Value.int .u8 (c.toNat : Int)).toArray.size = 8 by simp [HL.out]]; kernel_rfl)
  · refine below_row ?_ (Nat.le_refl _) _
    exact below_tr (below_tr ((Below.refl _ w).alloc (Nat.le_refl _) _) hb1 (Nat.le_refl _)) hb2 (Nat.le_refl _)

set_option maxRecDepth 100000 in
theorem Mark_calls (a b : ByteArray) (w : World) (ha : a.size ≤ 400) (hb : b.size ≤ 400) :
    Calls Try.prog 18 #[.string a, .string b] w fun e w' => e = .returned (.string (mk (markb a.data.toList b.data.toList))) ∧ Below w.heap.size w w' := by
  go_enter Try.func18, Try.ntmps18
  go_wp2_with fail
  refine (marked_calls a b _ ha hb).mono ?_
  rintro e w1 ⟨rfl, hb1⟩
  go_wp2_with fail
  refine (text_dig _ (length_dig _) _).mono ?_
  rintro e w2 ⟨rfl, hb2⟩
  go_wp2_with fail
  go_ret
  exact ⟨rfl, below_tr hb1 hb2 (Nat.le_refl _)⟩
end Go.Proofs.Ytljalgmfmlhcaaa
