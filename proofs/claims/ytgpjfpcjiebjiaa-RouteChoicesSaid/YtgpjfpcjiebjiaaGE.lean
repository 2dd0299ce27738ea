/- Walks: the laws' walk: some choices of a maze. -/
import Derived.Test.YtgpjfpcjiebjiaaGq
import Derived.Test.YtgpjfpcjiebjiaaGt
namespace Go.Proofs.Ytgpjfpcjiebjiaa
open Go.RowKit
set_option linter.unusedVariables false
set_option linter.unusedSimpArgs false
attribute [local go_sem ↓] Go.wp_at_zero Go.wp_at_succ

theorem candO_small {m : MZ} (ht : ∀ t ∈ m.tasks, t.1.length ≤ 100) (ch : List Int) : (candO m ch).length ≤ 100 := by
 unfold candO
 split
 ·unfold cand candL
  split
  ·simp
  ·split
   ·refine Nat.le_trans (List.length_filter_le _ _) (Nat.le_trans (compact_len _) ?_)
    unfold sortL
    rw [List.length_mergeSort]
    by_cases hk : (psOf m ch).length - 1 < m.tasks.length
    ·rw [List.getD_eq_getElem?_getD, List.getElem?_eq_getElem hk]
     exact ht _ (List.getElem_mem hk)
    ·rw [List.getD_eq_getElem?_getD, List.getElem?_eq_none (by omega)]
     simp
   ·refine Nat.le_trans (List.length_filter_le _ _) ?_
    have := nextL_len m
    exact Nat.le_trans (this _) (by omega)
 ·simp

set_option maxHeartbeats 4000000 in
set_option maxRecDepth 100000 in
theorem walk_calls {ok okl : Nat → Prop} {v vl : Value} {m : MZ} {l : List Int} (w : World) (hm : MazeV w ok v m) (hl : Lens m) (ht : ∀ t ∈ m.tasks, t.1.length ≤ 100) (hli : Ints w okl vl l) (hll : l.length ≤ 9223372036854775807) :
  Calls Try.prog 31 #[v, vl] w fun e w' => ∃ v' l', e = .returned v' ∧ Mk w w' v' l' ∧ l'.length ≤ 12 := by
 have HMZ := Lib.hid hm
 obtain ⟨vfr, vup, vts, rfl, -, -, -⟩ := hm
 have HLI := Lib.hid hli
 obtain ⟨A, c, rfl, hcc, hr⟩ := hli
 have HR := Lib.hid hr
 have HL := Lib.hid hl
 have HT := Lib.hid ht
 clear hr hl ht
 go_enter Try.func31, Try.ntmps31
 go_wp2_with fail
 generalize hw1 : w.alloc (.cells #[.int .i64 m.w, .int .i64 m.h, .int .i64 m.l, vfr, vup, vts] 31) = w1
 have hb1 : Ext w w1 := by rw [← hw1]; exact (Ext.refl w).alloc _
 have hgm : Blk w1 w.heap.size 31 #[.int .i64 m.w, .int .i64 m.h, .int .i64 m.l, vfr, vup, vts] := by rw [← hw1]; exact heap_alloc_new _ _
 clear hw1
 obtain ⟨m0, m1, m2, m3, m4, m5⟩ := cells6 hgm
 have c0 := Ext.rule m0
 have c1 := Ext.rule m1
 have c2 := Ext.rule m2
 have c3 := Ext.rule m3
 have c4 := Ext.rule m4
 have c5 := Ext.rule m5
 clear m0 m1 m2 m3 m4 m5 hgm
 go_loopw [5, 6] (fun v i wr => ∃ (k : Nat) (l' : List Int), k ≤ 12 ∧ i = .int .i64 k ∧ l'.length = k ∧ Hid (Mk w1 wr v l')) (fun _ i _ => 12 - (intOf i).toNat)
 case atStart => exact ⟨0, [], by omega, rfl, rfl, Mk.nil w1⟩
 case round =>
  obtain ⟨k, l', hk, rfl, hlk, hM⟩ := hrel
  obtain ⟨wk, rfl⟩ : ∃ wk : World, wk = wr := ⟨_, rfl⟩
  obtain ⟨A5, c5', rfl, hc5⟩ := hM.out.slice
  have hxk : Ext w1 wk := hM.out.ext
  have HLK := Lib.hid hlk
  have hl12 : l'.length ≤ 12 := by omega
  by_cases hgo : k < l.length ∧ k < 12
  ·obtain ⟨hg1, hg2⟩ := hgo
   have hd1 : decide ((k : Int) < (l.length : Int)) = true := decide_eq_true (by omega)
   have hd2 : decide ((k : Int) < 12) = true := decide_eq_true (by omega)
   have hd3 : decide (k < l.length) = true := decide_eq_true hg1
   have hd4 : decide (k < 12) = true := decide_eq_true hg2
   obtain ⟨b, off, rfl, _, hcell⟩ := intsAt HR.out hg1 hg1
   obtain ⟨x, hx⟩ : ∃ x, x = l[k] := ⟨_, rfl⟩
   rw [← hx] at hcell
   have rx : ∀ W, Ext w1 W → W.cell? ⟨b, off + k, none⟩ = some (.int .i64 x) := fun W hW => Ext.rule hcell W (hb1.trans hW)
   clear hx hcell hlk
   go_wp2_with fail
   refine (qCandidates_calls wk (HMZ.out.below (hb1.trans hxk)) HL.out hM.out.ints (by omega)).mono ?_
   rintro e w2 ⟨v2, rfl, hM2⟩
   have hx2 : Ext w1 w2 := hxk.trans hM2.ext
   have hcl := candO_small HT.out l'
   have HM' := Lib.hid (hM.out.more hM2.ext)
   have HC2 := Lib.hid hM2.own
   obtain ⟨A7, c7, rfl, hc7⟩ := hM2.slice
   obtain ⟨cs, hcs⟩ : ∃ cs, cs = candO m l' := ⟨_, rfl⟩
   rw [← hcs] at hcl HC2 hc7 ⊢
   clear hcs hM2
   by_cases hz : cs.length = 0
   ·have hd5 : ((cs.length : Int) == 0) = true := by rw [beq_iff_eq]; omega
    have hd6 : decide ((cs.length : Int) = 0) = true := decide_eq_true (by omega)
    clear hz
    go_wp2_with fail
    go_ret
    exact ⟨_, _, rfl, (hb1).mono_mk HM'.out, hl12⟩
   ·have hd5 : ((cs.length : Int) == 0) = false := by rw [beq_eq_false_iff_ne]; omega
    have hd6 : decide ((cs.length : Int) = 0) = false := decide_eq_false (by omega)
    have hpos : 0 < (cs.length : Int) := by omega
    have h0 : 0 ≤ x % (cs.length : Int) := Int.emod_nonneg _ (by omega)
    have h1 : x % (cs.length : Int) < cs.length := Int.emod_lt_of_pos _ hpos
    obtain ⟨j, hj⟩ : ∃ j : Nat, (j : Int) = x % (cs.length : Int) := ⟨(x % (cs.length : Int)).toNat, by omega⟩
    have hjl : j < cs.length := by omega
    obtain ⟨b7, e7, -, hcell7⟩ := own_at HC2.out hjl
    subst e7
    obtain ⟨y, hy⟩ : ∃ y, y = cs[j] := ⟨_, rfl⟩
    rw [← hy] at hcell7
    have ry := Ext.rule hcell7
    have hj0 : (0 : Int) ≤ (j : Int) := by omega
    have hj1 : (j : Int) < (cs.length : Int) := by omega
    have hxx : Ext w2 w2 := Ext.refl w2
    have HMOD : Hid (∀ W : World, Calls Try.prog 47 #[.int .i64 x, .int .i64 cs.length] W fun e w' => e = .returned (.int .i64 (j : Int)) ∧ W = w') := fun W => by rw [hj]; exact mod_calls x cs.length W hpos (by omega)
    clear hz h0 h1 hj hy hcell7
    go_wp2_with fail
    refine (HMOD.out w2).mono ?_
    rintro e w3 ⟨rfl, rfl⟩
    go_wp2_with (at_builtin; refine wpAppAt rfl _ _ rfl _ l' y w1.heap.size w2.heap.size 1 _ rfl rfl (HM'.out.own.alloc _) ?d1 ?d2 ?d3 ?_)
    (try case d1 => exact cell_new _ _ _ (by simp))
    case d2 => (first | (simp; done) | (have := hx2.size; simp; omega) | (have := hx2.size; omega))
    case d3 => omega
    intro v' wb hob hgb hbl
    have hM'' := Lib.hid ((HM'.out.alloc _).app hob hgb)
    clear hob hgb hbl
    go_wp2
    go_roundw
    case rel => exact ⟨k + 1, l' ++ [y], by omega, by go_num, by have := HLK.out; simp; omega, hM''⟩
    case measure => simp [intOf]; omega
  ·have hno : decide (k < l.length) = false ∨ (decide (k < l.length) = true ∧ decide ((k : Int) < 12) = false) := by
    by_cases h1 : k < l.length
    ·exact .inr ⟨decide_eq_true h1, decide_eq_false (by omega)⟩
    ·exact .inl (decide_eq_false h1)
   clear hgo hlk
   rcases hno with h1 | ⟨h1, h2⟩
   all_goals
    go_wp2_with fail
    go_ret
    exact ⟨_, _, rfl, (hb1).mono_mk hM.out, hl12⟩
end Go.Proofs.Ytgpjfpcjiebjiaa
