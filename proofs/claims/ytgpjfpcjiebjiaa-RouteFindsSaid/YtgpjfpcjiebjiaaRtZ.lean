/- Walks: sorted and compact lists of numbers, by the library's contracts. -/
import Derived.Test.YtgpjfpcjiebjiaaRtY
import Derived.Test.YtgpjfpcjiebjiaaRtSh
import Derived.Shelf.SlGeneric
import Derived.Shelf.SortM.Plain
import Derived.Shelf.SortM.SortNone
import Derived.Shelf.SlicesG.CompactI
import Derived.Ground.SlgmProg
import Derived.Ground.SlgnProg
import Derived.Lib.OwnBridge
import Derived.Sort.OwnSortedInts
namespace Go.Proofs.Ytgpjfpcjiebjiaa
open Go.RowKit Go.Sort Go.Shelf
set_option linter.unusedVariables false
set_option linter.unusedSimpArgs false

theorem holds_own {w : World} {B g cap : Nat} {l : List Int} (h : OwnI w B (.slice (some ⟨g, 0, none⟩) l.length cap) l) : Holds (Value.int .i64) w g 0 l.toArray := by
  intro j hj
  have hj' : j < l.length := by simpa using hj
  refine ⟨?_, by have := World.ownsRow.frozenAt h j; simpa using this⟩
  have := World.ownsRow.cellAt h j (by omega)
  rw [Nat.zero_add, this]
  simp [getElem!_pos, hj']

/-- A list, sorted. -/
def sortL (l : List Int) : List Int := l.mergeSort fun x y => decide (x ≤ y)
theorem sort_calls {w1 w : World} {v : Value} {l : List Int} (h : Mk w1 w v l) (hl : l.length ≤ 1000000000000) : Calls Try.prog 97 #[v] w fun e w' => e = .returned (.tuple #[]) ∧ Mk w1 w' v (sortL l) := by
  have hlen : (sortL l).length = l.length := by unfold sortL; rw [List.length_mergeSort]
  rcases Nat.eq_zero_or_pos l.length with h0 | h0
  · have hnil := List.eq_nil_of_length_eq_zero h0
    subst hnil
    obtain ⟨A, c, rfl, _⟩ := h.slice
    have hc := AnyM.slices_Sort_int_none sortA A c w
    change Calls Try.prog 97 _ _ _ at hc
    refine Calls.mono hc ?_
    rintro e w' ⟨rfl, rfl⟩
    exact ⟨rfl, h.cast (by simp [sortL])⟩
  · obtain ⟨g, cap, rfl, hg, hlt⟩ := World.ownsRow.form h.own h0
    have hc := AnyM.slices_Sort_int sortA g 0 cap l w (holds_own h.own) hlt (by omega)
    change Calls Try.prog 97 _ _ _ at hc
    refine Calls.mono hc ?_
    rintro e w' ⟨rfl, n, os, rfl⟩
    refine ⟨rfl, ?_, ?_⟩
    · obtain ⟨_, ⟨e0, _⟩ | ⟨g', cap', cur, e0, hb, hgb, hn, hm, hs, ht⟩⟩ := h.own
      · cases e0
      · injection e0 with e1 _ e3
        injection e1 with e1
        injection e1 with e1
        subst e1; subst e3
        have := ownsRow_sortedI (n := n) (os := os) (w := w) (ss := l) (ts := sortL l) hlen hb hgb hn hm hs
        unfold OwnI
        rw [hlen]
        exact this
    · exact Below.grown h.ext (grownBy_sortedI _) h.ext.size (fun k hk => by injection hk with hk; omega)

theorem compact_calls {w1 w : World} {v : Value} {l : List Int} (h : Mk w1 w v l) (hl : l.length ≤ 1000000000000) : Calls Try.prog 89 #[v] w fun e w' => ∃ v', e = .returned v' ∧ Mk w1 w' v' (Lib.compact l) := by
  rcases Nat.eq_zero_or_pos l.length with h0 | h0
  · have hnil := List.eq_nil_of_length_eq_zero h0
    subst hnil
    obtain ⟨A, c, rfl, _⟩ := h.slice
    have hc := AnyG.slices_Compact_int_empty compactA A c w
    change Calls Try.prog 89 _ _ _ at hc
    refine Calls.mono hc ?_
    rintro e w' ⟨rfl, rfl⟩
    exact ⟨_, rfl, h⟩
  · obtain ⟨g, cap, rfl, hg, hlt⟩ := World.ownsRow.form h.own h0
    have hcap := own_cap h.own
    have hc := AnyG.slices_Compact_int compactA g 0 cap l w (holds_own h.own) (by omega) hcap
    change Calls Try.prog 89 _ _ _ at hc
    refine Calls.mono hc ?_
    rintro e w' ⟨rfl, q, rfl⟩
    have hcl : (Lib.compact l).length ≤ l.length := by
      unfold Lib.compact Lib.compactUpTo
      rw [List.length_map]
      exact Nat.le_trans (List.length_filter_le _ _) (by simp)
    refine ⟨_, rfl, ?_, ?_⟩
    · have := Lib.ownsRow_putRow (enc := Value.int .i64) (q := q) (k := (Lib.compact l).length) (ys := Lib.compact l ++ List.replicate (l.length - (Lib.compact l).length) 0) h.own (by simp; omega) hcl
      rw [List.take_left'] at this
      · exact this
      · rfl
    · exact Lib.below_putRow h.ext hg

theorem values_calls (A : Option Addr) (n c : Nat) (w : World) : Calls Try.prog 91 #[.slice A n c] w fun e w' => e = .returned (.func (.func 98) #[] #[.pointer (some ⟨w.heap.size, 0, none⟩)]) ∧ w' = w.alloc (.cells #[.slice A n c] 24) := by
  go_enter Try.func91, Try.ntmps91
  go_wp2_with fail
  go_ret
  exact ⟨rfl, rfl⟩

set_option maxRecDepth 100000 in
theorem collect_calls {ok : Nat → Prop} {v : Value} {l : List Int} (Bs : Nat) (w : World) (hc : w.cell? ⟨Bs, 0, none⟩ = some v) (h : Ints w ok v l) (hlen : l.length ≤ 1000000000000) :
    Calls Try.prog 96 #[.func (.func 98) #[] #[.pointer (some ⟨Bs, 0, none⟩)]] w fun e w' => ∃ v', e = .returned v' ∧ Mk w w' v' l := by
  have H := Lib.hid (appendSeq_calls Bs w hc h hlen); clear h hc
  go_enter Try.func96, Try.ntmps96
  go_wp2_with fail
  refine H.out.mono ?_
  rintro e w' ⟨v', rfl, hM⟩
  have HM := Lib.hid hM; clear hM
  go_wp2_with fail
  go_ret
  exact ⟨_, rfl, HM.out⟩

set_option maxRecDepth 100000 in
theorem sorted_calls {ok : Nat → Prop} {v : Value} {l : List Int} (Bs : Nat) (w : World) (hc : w.cell? ⟨Bs, 0, none⟩ = some v) (h : Ints w ok v l) (hlen : l.length ≤ 1000000000000) :
    Calls Try.prog 90 #[.func (.func 98) #[] #[.pointer (some ⟨Bs, 0, none⟩)]] w fun e w' => ∃ v', e = .returned v' ∧ Mk w w' v' (sortL l) := by
  have H := Lib.hid (collect_calls Bs w hc h hlen); clear h hc
  go_enter Try.func90, Try.ntmps90
  go_wp2_with fail
  refine H.out.mono ?_
  rintro e w' ⟨v', rfl, hM⟩
  have HS := Lib.hid (sort_calls hM hlen)
  clear hM
  go_wp2_with fail
  refine HS.out.mono ?_
  rintro e w2 ⟨rfl, hM2⟩
  have HM := Lib.hid hM2; clear hM2
  go_wp2_with fail
  go_ret
  exact ⟨_, rfl, HM.out⟩
end Go.Proofs.Ytgpjfpcjiebjiaa
