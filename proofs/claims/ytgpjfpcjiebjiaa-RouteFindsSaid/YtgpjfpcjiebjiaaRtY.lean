/- Walks: a list of numbers collected out of an iterator over a list. -/
import Derived.RangeFuncNested
import Derived.RangeFuncBound
import Derived.RangeFuncCalls
import Derived.RangeFuncLeaves
import Derived.RangeFuncBox
import Derived.Shelf.Abstract
import Derived.Maps.AppendAt
import Derived.RangeFuncWrites
import Derived.Shelf.RegionOpen
import Derived.OwnWalkIn
import Derived.TacticsInMore
import Derived.LoopNIn
import Derived.LoopIn
import Derived.Test.YtgpjfpcjiebjiaaRtT
namespace Go.Proofs.Ytgpjfpcjiebjiaa
open Go.RowKit Go.Shelf
set_option linter.unusedVariables false
set_option linter.unusedSimpArgs false
attribute [local go_sem] Oper.semAt_some

set_option maxRecDepth 100000 in
set_option maxHeartbeats 2000000 in
/-- The iterator of a list: whatever the loop's body does, as long as it keeps what lay below n₀. -/
theorem values1_in (F : Fence) (n : Nat) (h7 : F.fn 98) (hro : F.round = none) (hn : 1 ≤ n) (l Bs n₀ : Nat) (A : Option Addr) (cap : Nat) (zs : List Int) (hlen : zs.length ≤ 1000000000000) (J Jx : List Int → World → Prop)
    (hY : ∀ pre x W, J pre W → pre.length < zs.length → YieldAt F (n - 1) Try.prog l #[.int .i64 x] W fun e W' =>
      (e = .returned (.bool true) ∧ J (pre ++ [x]) W' ∧ Below n₀ W W') ∨ (e = .returned (.bool false) ∧ Jx (pre ++ [x]) W'))
    (W : World) (hBs : W.cell? ⟨Bs, 0, none⟩ = some (.slice A zs.length cap)) (hc : ∀ (j : Nat) (hj : j < zs.length), ∃ b off, A = some ⟨b, off, none⟩ ∧ b < n₀ ∧ W.cell? ⟨b, off + j, none⟩ = some (.int .i64 (zs[j]))) (h0 : J [] W) :
    CallsIn F n Try.prog 98 #[.func (.yield l) #[] #[], .pointer (some ⟨Bs, 0, none⟩)] W fun e W' => (∃ v, e = .returned v) ∧
      ((∃ ys, ys = zs ∧ J ys W') ∨ (∃ pre, pre <+: zs ∧ Jx pre W')) := by
  have HC := Lib.hid hc; clear hc
  refine callsIn_of_wp Try.func98 rfl h7 ?_ hro
  simp only [Try.ntmps98, List.size_toArray, List.length_cons, List.length_nil, Nat.reduceAdd, Nat.reduceSub, Array.replicate_succ, Array.replicate_zero, List.push_toArray, List.append_toArray, List.nil_append, List.cons_append]
  gi_wp2
  gi_loopw [7] (fun i wr => ∃ k : Nat, k ≤ zs.length ∧ i = .int .i64 k ∧ Hid (J (zs.take k) wr) ∧ Hid (Below n₀ W wr))
    (fun i _ => zs.length - (intOf i).toNat)
  case atStart => exact ⟨0, Nat.zero_le _, rfl, h0, Below.refl _ _⟩
  case round =>
    obtain ⟨k, hk, rfl, hJs, hnx⟩ := hrel
    by_cases hlt : k < zs.length
    · obtain ⟨b, off, rfl, hb, hcx0⟩ := HC.out k hlt
      have hcx : wr.cell? ⟨b, off + k, none⟩ = some (.int .i64 (zs[k])) := (hnx.out.cell (p := ⟨b, off + k, none⟩) hb).trans hcx0
      clear hcx0
      have hts := Lib.hid (List.take_succ_eq_append_getElem hlt)
      obtain ⟨x, hx⟩ : ∃ x, x = zs[k] := ⟨_, rfl⟩
      rw [← hx] at hcx hts
      clear hx
      obtain ⟨fn, tmps, assign, body, hy, hR⟩ := hY _ x wr hJs.out (by simp; omega)
      have HR := Lib.hid hR; clear hR
      gi_wp2
      refine HR.out.mono ?_
      rintro e W3 (⟨rfl, hJ3, hk3⟩ | ⟨rfl, hJx3⟩)
      · have HJ3 := Lib.hid hJ3; clear hJ3
        have HK3 := Lib.hid hk3; clear hk3
        gi_wp2
        go_roundw
        case rel => exact ⟨k + 1, by omega, by go_num, by rw [hts.out]; exact HJ3, hnx.out.trans HK3.out⟩
        case measure => simp [intOf]; omega
      · have HJ3 := Lib.hid hJx3; clear hJx3
        gi_wp2
        refine bodyPost_ret (results_none rfl _ _ _) rfl ?_
        exact ⟨⟨_, rfl⟩, .inr ⟨_, List.take_prefix (k + 1) zs, by rw [hts.out]; exact HJ3.out⟩⟩
    · obtain rfl : k = zs.length := by omega
      gi_wp2
      go_end0
      exact ⟨⟨_, rfl⟩, .inl ⟨_, rfl, by have := hJs.out; rwa [List.take_length] at this⟩⟩

theorem values_stops {ok : Nat → Prop} {v : Value} {l : List Int} (Bs n₀ n : Nat) (hn : 1 ≤ n) (w : World) (hBs : Bs < w.heap.size) (hn₀ : n₀ ≤ w.heap.size) (hc : w.cell? ⟨Bs, 0, none⟩ = some v) (h : Ints w ok v l) (hok : ∀ b, ok b → b < w.heap.size → b < n₀) (hlen : l.length ≤ 1000000000000) :
    SeqStopsK Fence.wide n Try.prog 98 #[.pointer (some ⟨Bs, 0, none⟩)] (fun x : Int => #[Value.int .i64 x]) (Below n₀) (fun ys => ys = l) (fun pre => pre <+: l) l.length w := fun lb J Jx W hW _ _ hY h0 => by
  obtain ⟨A, cap, rfl, hcap, hr⟩ := h
  refine values1_in Fence.wide n trivial rfl hn lb Bs n₀ A cap l hlen J Jx hY W ((hW.cell (p := ⟨Bs, 0, none⟩) hBs).trans hc) (fun j hj => ?_) h0
  obtain ⟨b, off, e, hb, hcell⟩ := intsAt hr hj hj
  have hlt := lt_of_cell hcell
  exact ⟨b, off, e, hok b hb hlt, (hW.cell (p := ⟨b, off + j, none⟩) hlt).trans hcell⟩

theorem Ints.bound {w : World} {ok : Nat → Prop} {v : Value} {l : List Int} (h : Ints w ok v l) : Ints w (fun b => ok b ∧ b < w.heap.size) v l := by
  obtain ⟨A, c, e, hc, hl, hcell⟩ := h
  refine ⟨A, c, e, hc, hl, fun hn => ?_⟩
  obtain ⟨b, off, e', hb, hcc⟩ := hcell hn
  have h0 : 0 < (l.map (Value.int .i64)).length := by simpa using hn
  exact ⟨b, off, e', ⟨hb, lt_of_cell (hcc 0 _ (List.getElem?_eq_getElem h0))⟩, hcc⟩

set_option maxRecDepth 100000 in
set_option maxHeartbeats 2000000 in
theorem appendSeq_calls {ok : Nat → Prop} {v : Value} {l : List Int} (Bs : Nat) (w : World) (hc : w.cell? ⟨Bs, 0, none⟩ = some v) (h : Ints w ok v l) (hlen : l.length ≤ 1000000000000) :
    Calls Try.prog 102 #[.slice none 0 0, .func (.func 98) #[] #[.pointer (some ⟨Bs, 0, none⟩)]] w fun e w' => ∃ v', e = .returned v' ∧ Mk w w' v' l := by
  refine (callsIn_wide (n := 6)).1 ?_
  obtain ⟨i0, hi, hz0, hz1, hz2⟩ := info_parts Try.infoInt
  have HI := Lib.hid h; clear h
  have hBs := lt_of_cell hc
  refine callsIn_of_wp_marks Try.func102 rfl trivial ?_ rfl
  simp only [Try.ntmps102, List.size_toArray, List.length_cons, List.length_nil, Nat.reduceAdd, Nat.reduceSub, Array.replicate_succ, Array.replicate_zero, List.push_toArray, List.append_toArray, List.nil_append, List.cons_append]
  gi_wp2
  have bO := Boxed.new w 24 (.slice none 0 0)
  have hB0 : Below w.heap.size w (w.alloc (.cells #[.slice none 0 0] 24)) := (Below.refl _ w).alloc (Nat.le_refl _) _
  refine wpIn_rangeFunc_ownG (F := Fence.wide) rfl (by omega) (gf := 98) (lb := #[.pointer (some ⟨Bs, 0, none⟩)]) rfl trivial (enters_of Try.func98 (by kernel_rfl) rfl)
    (values_stops (ok := fun b => ok b ∧ b < w.heap.size) Bs w.heap.size _ (by omega) _ (by simp; omega) (by simp) ((Ext.refl w).alloc _ |>.cell hc) (HI.out.bound.below hB0) (fun b hb _ => hb.2) hlen) belowK_t (belowK_b (by simp)) (Below.refl _ _) (fun _ => rfl)
    (fun pre W => (∃ v, Boxed W w.heap.size 24 v ∧ W.ownsRow w.heap.size 3 1 v pre.length (pre.map (Value.int .i64)) ∧ True) ∧ Below w.heap.size w W)
    (fun _ _ _ => False)
    (OwnFrom.and (Own.from (holdsRow_own w.heap.size w.heap.size 24 3 1 (fun pre : List Int => pre.length) (fun pre : List Int => pre.map (Value.int .i64)) (fun pre v => True)) _) (ownFrom_below (Nat.le_refl _) (by simp)))
    (fun _ _ _ _ _ hs _ _ => hs)
    ⟨⟨_, bO, World.ownsRow_nil _ _ _ _, trivial⟩, hB0⟩
    (fun x => { tmps := #[.slice none 0 0, .func (.func 98) #[] #[.pointer (some ⟨Bs, 0, none⟩)], .pointer (some ⟨w.heap.size, 0, none⟩), undef, .slice none 0 0, .int .i64 x, .func (.func 98) #[] #[.pointer (some ⟨Bs, 0, none⟩)], .int .i64 x, undef, undef, undef, undef, undef], defers := [] }) ?assign ?body ?done ?stop
  case assign =>
    intro l x W K hK
    gi_wp2
    exact hK
  case body =>
    rintro lb pre x W ⟨⟨v, hv, hrow, _⟩, hB⟩ hlt
    have hc := hv.cell
    gi_wp2_with (gi_at_builtin; refine wpListIn_append_own _ rfl _ _ 24 rfl w.heap.size 3 i0 (.int .i64 0) 1 8 Try.underlying24 hi hz0 hz1 hz2 rfl (by decide) _ _ _ rfl (hrow.alloc _) ⟨W.heap.size, 0, none⟩ 1 1 [.int .i64 x] rfl rfl (cell_one_new _ _ _) (by simp [Value.oneCell']) (by unfold maxLen; omega) (by omega) (by have := hB.size; simp; omega) ?_; intro v' w1 hown' hgrow _; obtain ⟨g', cap', rfl⟩ := ownsRow_succ hown'; obtain ⟨hv1, hv2, hr2, hk2, hb2⟩ := hv.appended (by decide) hrow hB.size (Nat.le_refl _) hown' hgrow; have hc1 := hv1.cell; have hf1 := hv1.frozen)
    exact ⟨hk2.from _, hb2, ⟨_, hv2, by simpa using hr2, trivial⟩, hB.trans hb2⟩
  case done =>
    rintro D ys W hD rfl ⟨⟨v, hv, hrow, _⟩, hB⟩ hK
    have hc := hv.cell
    gi_wp2
    refine ⟨by simp, .inl ⟨_, _, rfl, run_takeDeferred hK, ?_⟩⟩
    exact ⟨_, results_tmp rfl _ _ _, v, rfl, ownsRow_putObj hrow _ hK rfl, hB.trans (belowK_b (w := w) (Nat.le_refl _) W D _ _ (by simp at hD; omega) hK rfl rfl)⟩
  case stop =>
    rintro D c pre W _ _ h _
    exact h.elim
end Go.Proofs.Ytgpjfpcjiebjiaa
