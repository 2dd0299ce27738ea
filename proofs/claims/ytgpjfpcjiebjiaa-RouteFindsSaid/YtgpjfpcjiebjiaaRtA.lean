/- Walks: small functions over lists of numbers. -/
import Derived.Test.YtgpjfpcjiebjiaaRows
import Derived.Test.YtgpjfpcjiebjiaaRtHeap
import Derived.WalkLawsBesides
import Derived.WalkSpells
import Derived.BigQuiet
import Derived.Deep.QuietTactic
namespace Go.Proofs.Ytgpjfpcjiebjiaa
open Go.RowKit
set_option linter.unusedVariables false
set_option linter.unusedSimpArgs false

theorem ret_int {k : IntKind} {a b : Int} (h : a = b) : Ending.returned (.int k a) = .returned (.int k b) := by rw [h]
theorem ret_bool {a b : Bool} (h : a = b) : Ending.returned (.bool a) = .returned (.bool b) := by rw [h]

set_option maxRecDepth 100000 in
theorem rnodes_calls (W H L : Int) (f u t : Value) (w : World) (h1 : -1000000000 ≤ W * H ∧ W * H ≤ 1000000000) (h2 : -1000000000000000 ≤ W * H * L ∧ W * H * L ≤ 1000000000000000) :
    Calls Try.prog 49 #[.agg #[.int .i64 W, .int .i64 H, .int .i64 L, f, u, t]] w fun e w' => e = .returned (.int .i64 (W * H * L)) ∧ Below w.heap.size w w' := by
  obtain ⟨h1a, h1b⟩ := h1
  obtain ⟨h2a, h2b⟩ := h2
  go_enter Try.func49, Try.ntmps49
  go_wp2
  go_ret
  exact ⟨rfl, (Below.refl _ _).alloc (Nat.le_refl _) _⟩
set_option maxRecDepth 100000 in
theorem qnodes_calls (W H L : Int) (f u t : Value) (w : World) (h1 : -1000000000 ≤ W * H ∧ W * H ≤ 1000000000) (h2 : -1000000000000000 ≤ W * H * L ∧ W * H * L ≤ 1000000000000000) :
    Calls Try.prog 48 #[.agg #[.int .i64 W, .int .i64 H, .int .i64 L, f, u, t]] w fun e w' => e = .returned (.int .i64 (W * H * L)) ∧ Below w.heap.size w w' := by
  obtain ⟨h1a, h1b⟩ := h1
  obtain ⟨h2a, h2b⟩ := h2
  go_enter Try.func48, Try.ntmps48
  go_wp2
  go_ret
  exact ⟨rfl, (Below.refl _ _).alloc (Nat.le_refl _) _⟩

theorem mod_eq (n m : Int) (hm : 0 < m) (hm2 : m ≤ 1000000) : (wrap64 (n.tmod m + m)).tmod m = n % m := by
  have h1 : n.tmod m < m := Int.tmod_lt_of_pos n hm
  have h2 : -m < n.tmod m := by
    have := Int.lt_tmod_of_pos n hm
    omega
  rw [IntWalk.wrap64_in _ (by omega), Int.tmod_eq_emod_of_nonneg (by omega), Int.add_emod_right]
  have h3 := Int.tmod_add_mul_tdiv n m
  have h4 : n = n.tmod m + m * n.tdiv m := h3.symm
  conv => rhs; rw [h4]
  rw [Int.add_mul_emod_self_left]

set_option maxRecDepth 100000 in
theorem mod_calls (n m : Int) (w : World) (hm : 0 < m) (hm2 : m ≤ 1000000) :
    Calls Try.prog 47 #[.int .i64 n, .int .i64 m] w fun e w' => e = .returned (.int .i64 (n % m)) ∧ w = w' := by
  have h := mod_eq n m hm hm2
  have H := Lib.hid h; clear h
  go_enter Try.func47, Try.ntmps47
  go_wp2
  go_ret
  exact ⟨ret_int H.out, rfl⟩

theorem mem_take_succ {l : List Int} {k : Nat} (h : k < l.length) (n : Int) : n ∈ l.take (k + 1) ↔ n ∈ l.take k ∨ n = l[k] := by
  rw [List.take_succ_eq_append_getElem h, List.mem_append, List.mem_singleton]

set_option maxRecDepth 100000 in
theorem has_calls {ok : Nat → Prop} {v : Value} {l : List Int} (n : Int) (w : World) (h : Ints w ok v l) (hl : l.length ≤ 20000000000000) :
    Calls Try.prog 36 #[v, .int .i64 n] w fun e w' => e = .returned (.bool (decide (n ∈ l))) ∧ w = w' := by
  obtain ⟨A, c, rfl, hc, hr⟩ := h
  have HR := Lib.hid hr; clear hr
  go_enter Try.func36, Try.ntmps36
  go_wp2
  go_loop [5] (fun i => ∃ k : Nat, k ≤ l.length ∧ i = .int .i64 k ∧ Hid (n ∉ l.take k)) (fun i => l.length - (intOf i).toNat)
  case atStart => exact ⟨0, Nat.zero_le _, rfl, by simp [Hid]⟩
  case round =>
    obtain ⟨k, hk, rfl, hn⟩ := hrel
    by_cases hlt : k < l.length
    · obtain ⟨b, off, rfl, _, hcell⟩ := intsAt HR.out hlt hlt
      obtain ⟨x, hx⟩ : ∃ x, x = l[k] := ⟨_, rfl⟩
      rw [← hx] at hcell
      have HX := Lib.hid hx; clear hx
      by_cases hxn : x = n
      · have hb : (x == n) = true := by simp [hxn]
        have HXN := Lib.hid hxn; clear hxn
        go_wp2
        go_ret
        exact ⟨ret_bool (by simp only [true_eq_decide_iff]; rw [← HXN.out, HX.out]; exact List.getElem_mem _), rfl⟩
      · have hb : (x == n) = false := by simp [hxn]
        have HXN := Lib.hid hxn; clear hxn
        go_wp2
        go_round
        case rel => exact ⟨k + 1, by omega, by go_num, fun hm => by
          rcases (mem_take_succ hlt n).1 hm with h | h
          · exact hn.out h
          · exact HXN.out (HX.out.trans h.symm)⟩
        case measure => simp [intOf]; omega
    · obtain rfl : k = l.length := by omega
      go_wp2
      go_ret
      exact ⟨ret_bool (by have h := hn.out; rw [List.take_length] at h; simp [h]), rfl⟩

set_option maxRecDepth 100000 in
theorem index_calls {ok : Nat → Prop} {v : Value} {l : List Int} (n : Int) (w : World) (h : Ints w ok v l) (hl : l.length ≤ 20000000000000) :
    Calls Try.prog 86 #[v, .int .i64 n] w fun e w' => ∃ r : Int, e = .returned (.int .i64 r) ∧ (0 ≤ r ↔ n ∈ l) ∧ -1 ≤ r ∧ w = w' := by
  obtain ⟨A, c, rfl, hc, hr⟩ := h
  have HR := Lib.hid hr; clear hr
  go_enter Try.func86, Try.ntmps86
  go_wp2
  go_loop [8] (fun i => ∃ k : Nat, k ≤ l.length ∧ i = .int .i64 k ∧ Hid (n ∉ l.take k)) (fun i => l.length - (intOf i).toNat)
  case atStart => exact ⟨0, Nat.zero_le _, rfl, by simp [Hid]⟩
  case round =>
    obtain ⟨k, hk, rfl, hn⟩ := hrel
    by_cases hlt : k < l.length
    · obtain ⟨b, off, rfl, _, hcell⟩ := intsAt HR.out hlt hlt
      obtain ⟨x, hx⟩ : ∃ x, x = l[k] := ⟨_, rfl⟩
      rw [← hx] at hcell
      have HX := Lib.hid hx; clear hx
      by_cases hxn : n = x
      · have hb : (n == x) = true := by simp [hxn]
        have HXN := Lib.hid hxn; clear hxn
        go_wp2
        go_ret
        exact ⟨_, rfl, ⟨fun _ => by rw [HXN.out, HX.out]; exact List.getElem_mem _, fun _ => by omega⟩, by omega, rfl⟩
      · have hb : (n == x) = false := by simp [hxn]
        have HXN := Lib.hid hxn; clear hxn
        go_wp2
        go_round
        case rel => exact ⟨k + 1, by omega, by go_num, fun hm => by
          rcases (mem_take_succ hlt n).1 hm with h | h
          · exact hn.out h
          · exact HXN.out (h.trans HX.out.symm)⟩
        case measure => simp [intOf]; omega
    · obtain rfl : k = l.length := by omega
      go_wp2
      go_ret
      have h := hn.out
      rw [List.take_length] at h
      exact ⟨_, rfl, ⟨fun h' => by omega, fun h' => absurd h' h⟩, by omega, rfl⟩

set_option maxRecDepth 100000 in
theorem contains_calls {ok : Nat → Prop} {v : Value} {l : List Int} (n : Int) (w : World) (h : Ints w ok v l) (hl : l.length ≤ 20000000000000) :
    Calls Try.prog 67 #[v, .int .i64 n] w fun e w' => e = .returned (.bool (decide (n ∈ l))) ∧ w = w' := by
  have hcall := index_calls n w h hl
  obtain ⟨A, c, rfl, hc, hr⟩ := h
  have H := Lib.hid hcall; clear hcall
  clear hr
  go_enter Try.func67, Try.ntmps67
  go_wp2_with fail
  refine H.out.mono ?_
  rintro e w' ⟨r, rfl, hr, hr1, rfl⟩
  have HR := Lib.hid hr; clear hr
  go_wp2_with fail
  go_ret
  exact ⟨ret_bool (by rw [decide_eq_decide]; exact HR.out), rfl⟩
end Go.Proofs.Ytgpjfpcjiebjiaa
