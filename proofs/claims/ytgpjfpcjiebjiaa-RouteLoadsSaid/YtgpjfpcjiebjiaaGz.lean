/- Walks: the laws' walk: some choices of a maze. Words for the laws' lists: mazes, lists, numbers in a block. -/
import Derived.Test.YtgpjfpcjiebjiaaGq
import Derived.Test.YtgpjfpcjiebjiaaGt
import Derived.Test.YtgpjfpcjiebjiaaGw
namespace Go.Proofs.Ytgpjfpcjiebjiaa
open Go.RowKit
set_option linter.unusedVariables false
set_option linter.unusedSimpArgs false
attribute [local go_sem ↓] Go.wp_at_zero Go.wp_at_succ

theorem candO_small {m : MZ} (ht : ∀ t ∈ m.tasks, t.1.length ≤ 100) (ch : List Int) : (candO m ch).length ≤ 100 := by
  unfold candO
  split
  · unfold cand candL
    split
    · simp
    · split
      · refine Nat.le_trans (List.length_filter_le _ _) (Nat.le_trans (compact_len _) ?_)
        unfold sortL
        rw [List.length_mergeSort]
        by_cases hk : (psOf m ch).length - 1 < m.tasks.length
        · rw [List.getD_eq_getElem?_getD, List.getElem?_eq_getElem hk]
          exact ht _ (List.getElem_mem hk)
        · rw [List.getD_eq_getElem?_getD, List.getElem?_eq_none (by omega)]
          simp
      · refine Nat.le_trans (List.length_filter_le _ _) ?_
        have := nextL_len m
        exact Nat.le_trans (this _) (by omega)
  · simp

set_option maxHeartbeats 4000000 in
set_option maxRecDepth 100000 in
theorem walk_calls {ok okl : Nat → Prop} {v vl : Value} {m : MZ} {l : List Int} (w : World) (hm : MazeV w ok v m) (hl : Lens m) (ht : ∀ t ∈ m.tasks, t.1.length ≤ 100) (hli : Ints w okl vl l) (hll : l.length ≤ 9223372036854775807) :
    Calls Try.prog 31 #[v, vl] w fun e w' => ∃ v' l', e = .returned v' ∧ Mk w w' v' l' ∧ l'.length ≤ 12 := by
  have HMZ := Lib.hid hm
  obtain ⟨vfr, vup, vts, rfl, -, -, -⟩ := hm
  have HLI := Lib.hid hli
  obtain ⟨A, c, rfl, hcc, hr⟩ := hli
  have HR := Lib.hid hr
  have HL := Lib.hid hl
  have HT := Lib.hid ht
  clear hr hl ht
  go_enter Try.func31, Try.ntmps31
  go_wp2_with fail
  generalize hw1 : w.alloc (.cells #[.int .i64 m.w, .int .i64 m.h, .int .i64 m.l, vfr, vup, vts] 31) = w1
  have hb1 : Ext w w1 := by rw [← hw1]; exact (Ext.refl w).alloc _
  have hgm : Blk w1 w.heap.size 31 #[.int .i64 m.w, .int .i64 m.h, .int .i64 m.l, vfr, vup, vts] := by rw [← hw1]; exact heap_alloc_new _ _
  clear hw1
  obtain ⟨m0, m1, m2, m3, m4, m5⟩ := cells6 hgm
  have c0 := Ext.rule m0
  have c1 := Ext.rule m1
  have c2 := Ext.rule m2
  have c3 := Ext.rule m3
  have c4 := Ext.rule m4
  have c5 := Ext.rule m5
  clear m0 m1 m2 m3 m4 m5 hgm
  go_loopw [5, 6] (fun v i wr => ∃ (k : Nat) (l' : List Int), k ≤ 12 ∧ i = .int .i64 k ∧ l'.length = k ∧ Hid (Mk w1 wr v l')) (fun _ i _ => 12 - (intOf i).toNat)
  case atStart => exact ⟨0, [], by omega, rfl, rfl, Mk.nil w1⟩
  case round =>
    obtain ⟨k, l', hk, rfl, hlk, hM⟩ := hrel
    obtain ⟨wk, rfl⟩ : ∃ wk : World, wk = wr := ⟨_, rfl⟩
    obtain ⟨A5, c5', rfl, hc5⟩ := hM.out.slice
    have hxk : Ext w1 wk := hM.out.ext
    have HLK := Lib.hid hlk
    have hl12 : l'.length ≤ 12 := by omega
    by_cases hgo : k < l.length ∧ k < 12
    · obtain ⟨hg1, hg2⟩ := hgo
      have hd1 : decide ((k : Int) < (l.length : Int)) = true := decide_eq_true (by omega)
      have hd2 : decide ((k : Int) < 12) = true := decide_eq_true (by omega)
      have hd3 : decide (k < l.length) = true := decide_eq_true hg1
      have hd4 : decide (k < 12) = true := decide_eq_true hg2
      obtain ⟨b, off, rfl, _, hcell⟩ := intsAt HR.out hg1 hg1
      obtain ⟨x, hx⟩ : ∃ x, x = l[k] := ⟨_, rfl⟩
      rw [← hx] at hcell
      have rx : ∀ W, Ext w1 W → W.cell? ⟨b, off + k, none⟩ = some (.int .i64 x) := fun W hW => Ext.rule hcell W (hb1.trans hW)
      clear hx hcell hlk
      go_wp2_with fail
      refine (qCandidates_calls wk (HMZ.out.below (hb1.trans hxk)) HL.out hM.out.ints (by omega)).mono ?_
      rintro e w2 ⟨v2, rfl, hM2⟩
      have hx2 : Ext w1 w2 := hxk.trans hM2.ext
      have hcl := candO_small HT.out l'
      have HM' := Lib.hid (hM.out.more hM2.ext)
      have HC2 := Lib.hid hM2.own
      obtain ⟨A7, c7, rfl, hc7⟩ := hM2.slice
      obtain ⟨cs, hcs⟩ : ∃ cs, cs = candO m l' := ⟨_, rfl⟩
      rw [← hcs] at hcl HC2 hc7 ⊢
      clear hcs hM2
      by_cases hz : cs.length = 0
      · have hd5 : ((cs.length : Int) == 0) = true := by rw [beq_iff_eq]; omega
        have hd6 : decide ((cs.length : Int) = 0) = true := decide_eq_true (by omega)
        clear hz
        go_wp2_with fail
        go_ret
        exact ⟨_, _, rfl, (hb1).mono_mk HM'.out, hl12⟩
      · have hd5 : ((cs.length : Int) == 0) = false := by rw [beq_eq_false_iff_ne]; omega
        have hd6 : decide ((cs.length : Int) = 0) = false := decide_eq_false (by omega)
        have hpos : 0 < (cs.length : Int) := by omega
        have h0 : 0 ≤ x % (cs.length : Int) := Int.emod_nonneg _ (by omega)
        have h1 : x % (cs.length : Int) < cs.length := Int.emod_lt_of_pos _ hpos
        obtain ⟨j, hj⟩ : ∃ j : Nat, (j : Int) = x % (cs.length : Int) := ⟨(x % (cs.length : Int)).toNat, by omega⟩
        have hjl : j < cs.length := by omega
        obtain ⟨b7, e7, -, hcell7⟩ := own_at HC2.out hjl
        subst e7
        obtain ⟨y, hy⟩ : ∃ y, y = cs[j] := ⟨_, rfl⟩
        rw [← hy] at hcell7
        have ry := Ext.rule hcell7
        have hj0 : (0 : Int) ≤ (j : Int) := by omega
        have hj1 : (j : Int) < (cs.length : Int) := by omega
        have hxx : Ext w2 w2 := Ext.refl w2
        have HMOD : Hid (∀ W : World, Calls Try.prog 47 #[.int .i64 x, .int .i64 cs.length] W fun e w' => e = .returned (.int .i64 (j : Int)) ∧ W = w') := fun W => by rw [hj]; exact mod_calls x cs.length W hpos (by omega)
        clear hz h0 h1 hj hy hcell7
        go_wp2_with fail
        refine (HMOD.out w2).mono ?_
        rintro e w3 ⟨rfl, rfl⟩
        go_wp2_with (at_builtin; refine wpAppAt rfl _ _ rfl _ l' y w1.heap.size w2.heap.size 1 _ rfl rfl (HM'.out.own.alloc _) ?d1 ?d2 ?d3 ?_)
        (try case d1 => exact cell_new _ _ _ (by simp))
        case d2 => (first | (simp; done) | (have := hx2.size; simp; omega) | (have := hx2.size; omega))
        case d3 => omega
        intro v' wb hob hgb hbl
        have hM'' := Lib.hid ((HM'.out.alloc _).app hob hgb)
        clear hob hgb hbl
        go_wp2
        go_roundw
        case rel => exact ⟨k + 1, l' ++ [y], by omega, by go_num, by have := HLK.out; simp; omega, hM''⟩
        case measure => simp [intOf]; omega
    · have hno : decide (k < l.length) = false ∨ (decide (k < l.length) = true ∧ decide ((k : Int) < 12) = false) := by
        by_cases h1 : k < l.length
        · exact .inr ⟨decide_eq_true h1, decide_eq_false (by omega)⟩
        · exact .inl (decide_eq_false h1)
      clear hgo hlk
      rcases hno with h1 | ⟨h1, h2⟩
      all_goals
        go_wp2_with fail
        go_ret
        exact ⟨_, _, rfl, (hb1).mono_mk hM.out, hl12⟩
end Go.Proofs.Ytgpjfpcjiebjiaa

namespace Go.Proofs.Ytgpjfpcjiebjiaa
open Go.RowKit
set_option linter.unusedVariables false
set_option linter.unusedSimpArgs false

theorem MadeM.obL {m : MZ} (h : MadeM m) : OB m 4 4 16 := by
  have hg := h.good
  have hn : 2 ≤ m.w * m.h * m.l ∧ m.w * m.h * m.l ≤ 16 := h.n
  have hw := h.w
  have hh := h.h
  have hl := h.l
  have ht := h.tk
  refine ⟨by omega, by omega, by omega, by rw [hg.fl]; omega, ?_, by omega, fun t ht => ?_⟩
  · have := hg.dim.up
    omega
  · have := (h.te t ht).2
    omega
/-- Three numbers in a block. -/
def NsAt (W : World) (b : Nat) : Prop := ∀ i : Nat, i < 3 → ∃ n : Int, W.cell? ⟨b, i, none⟩ = some (.int .i64 n)
theorem ns_make (W : World) (a b c : Int) : NsAt (W.alloc (.cells #[.int .i64 a, .int .i64 b, .int .i64 c] 3)) W.heap.size := fun i hi => by
  have hB : Blk (W.alloc (.cells #[.int .i64 a, .int .i64 b, .int .i64 c] 3)) W.heap.size 3 #[.int .i64 a, .int .i64 b, .int .i64 c] := heap_alloc_new _ _
  match i, hi with
  | 0, _ => exact ⟨a, hB.cell (k := 0) rfl⟩
  | 1, _ => exact ⟨b, hB.cell (k := 1) rfl⟩
  | 2, _ => exact ⟨c, hB.cell (k := 2) rfl⟩
theorem mazeV_slices {W : World} {ok : Nat → Prop} {a b c f u t : Value} {m : MZ} (h : MazeV W ok (.agg #[a, b, c, f, u, t]) m) : ∃ A n cc A' n' c' A'' n'' c'', f = .slice A n cc ∧ u = .slice A' n' c' ∧ t = .slice A'' n'' c'' := by
  obtain ⟨f', u', t', e, ⟨_, ⟨A1, c1, e1, -⟩, -⟩, ⟨A2, c2, e2, -⟩, ⟨_, ⟨A3, c3, e3, -⟩, -⟩⟩ := h
  injection e with e
  injection e with e
  simp only [List.cons.injEq, and_true] at e
  obtain ⟨-, -, -, rfl, rfl, rfl⟩ := e
  exact ⟨_, _, _, _, _, _, _, _, _, e1, e2, e3⟩
/-- Mazes in a block. -/
def MzsAt (W : World) (b n : Nat) : Prop := ∀ i : Nat, i < n → ∃ (m : MZ) (f u t : Value), W.cell? ⟨b, i * 6, none⟩ = some (.int .i64 m.w) ∧ W.cell? ⟨b, i * 6 + 1, none⟩ = some (.int .i64 m.h) ∧ W.cell? ⟨b, i * 6 + 2, none⟩ = some (.int .i64 m.l) ∧ W.cell? ⟨b, i * 6 + 3, none⟩ = some f ∧ W.cell? ⟨b, i * 6 + 4, none⟩ = some u ∧ W.cell? ⟨b, i * 6 + 5, none⟩ = some t ∧
  MazeV W (fun _ => True) (.agg #[.int .i64 m.w, .int .i64 m.h, .int .i64 m.l, f, u, t]) m ∧ Lens m
theorem MzsAt.more {W W' : World} {b n : Nat} (h : MzsAt W b n) (hE : Ext W W') : MzsAt W' b n := fun i hi => by
  obtain ⟨m, f, u, t, h0, h1, h2, h3, h4, h5, h6, h7⟩ := h i hi
  exact ⟨m, f, u, t, hE.cell h0, hE.cell h1, hE.cell h2, hE.cell h3, hE.cell h4, hE.cell h5, h6.below hE, h7⟩
theorem mzs_two {W : World} {m m' : MZ} {f u t f' u' t' : Value} {ok ok' : Nat → Prop} (h : MazeV W ok (.agg #[.int .i64 m.w, .int .i64 m.h, .int .i64 m.l, f, u, t]) m) (h' : MazeV W ok' (.agg #[.int .i64 m'.w, .int .i64 m'.h, .int .i64 m'.l, f', u', t']) m') (l : Lens m) (l' : Lens m') :
    MzsAt (W.alloc (.cells #[.int .i64 m.w, .int .i64 m.h, .int .i64 m.l, f, u, t, .int .i64 m'.w, .int .i64 m'.h, .int .i64 m'.l, f', u', t'] 31)) W.heap.size 2 := fun i hi => by
  have hB : Blk (W.alloc (.cells #[.int .i64 m.w, .int .i64 m.h, .int .i64 m.l, f, u, t, .int .i64 m'.w, .int .i64 m'.h, .int .i64 m'.l, f', u', t'] 31)) W.heap.size 31 #[.int .i64 m.w, .int .i64 m.h, .int .i64 m.l, f, u, t, .int .i64 m'.w, .int .i64 m'.h, .int .i64 m'.l, f', u', t'] := heap_alloc_new _ _
  have hE : Ext W (W.alloc (.cells #[.int .i64 m.w, .int .i64 m.h, .int .i64 m.l, f, u, t, .int .i64 m'.w, .int .i64 m'.h, .int .i64 m'.l, f', u', t'] 31)) := (Ext.refl W).alloc _
  match i, hi with
  | 0, _ => exact ⟨m, f, u, t, hB.cell (k := 0) rfl, hB.cell (k := 1) rfl, hB.cell (k := 2) rfl, hB.cell (k := 3) rfl, hB.cell (k := 4) rfl, hB.cell (k := 5) rfl, (h.weaken fun _ _ => trivial).below hE, l⟩
  | 1, _ => exact ⟨m', f', u', t', hB.cell (k := 6) rfl, hB.cell (k := 7) rfl, hB.cell (k := 8) rfl, hB.cell (k := 9) rfl, hB.cell (k := 10) rfl, hB.cell (k := 11) rfl, (h'.weaken fun _ _ => trivial).below hE, l'⟩
/-- Four lists of numbers in a block. -/
def XsAt (W : World) (b : Nat) : Prop := ∀ i : Nat, i < 4 → ∃ A c x, W.cell? ⟨b, i, none⟩ = some (.slice A x.length c) ∧ Ints W (fun _ => True) (.slice A x.length c) x ∧ x.length ≤ 24
theorem XsAt.more {W W' : World} {b : Nat} (h : XsAt W b) (hE : Ext W W') : XsAt W' b := fun i hi => by
  obtain ⟨A, c, x, h1, h2, h3⟩ := h i hi
  exact ⟨A, c, x, hE.cell h1, h2.below hE, h3⟩
theorem xs_make {W : World} {ok0 ok1 ok2 : Nat → Prop} {v0 v1 v2 : Value} {x0 x1 x2 : List Int} (h0 : Ints W ok0 v0 x0) (h1 : Ints W ok1 v1 x1) (h2 : Ints W ok2 v2 x2) (l0 : x0.length ≤ 24) (l1 : x1.length ≤ 24) (l2 : x2.length ≤ 24) :
    XsAt (W.alloc (.cells #[v0, v1, v2, .slice none 0 0] 24)) W.heap.size := fun i hi => by
  have hB : Blk (W.alloc (.cells #[v0, v1, v2, .slice none 0 0] 24)) W.heap.size 24 #[v0, v1, v2, .slice none 0 0] := heap_alloc_new _ _
  have hE : Ext W (W.alloc (.cells #[v0, v1, v2, .slice none 0 0] 24)) := (Ext.refl W).alloc _
  obtain ⟨A0, c0, rfl, -⟩ := id h0
  obtain ⟨A1, c1, rfl, -⟩ := id h1
  obtain ⟨A2, c2, rfl, -⟩ := id h2
  match i, hi with
  | 0, _ => exact ⟨A0, c0, x0, hB.cell (k := 0) rfl, (h0.weaken fun _ _ => trivial).below hE, l0⟩
  | 1, _ => exact ⟨A1, c1, x1, hB.cell (k := 1) rfl, (h1.weaken fun _ _ => trivial).below hE, l1⟩
  | 2, _ => exact ⟨A2, c2, x2, hB.cell (k := 2) rfl, (h2.weaken fun _ _ => trivial).below hE, l2⟩
  | 3, _ => exact ⟨none, 0, [], hB.cell (k := 3) rfl, Ints.nil _ _, by simp⟩
/-- A prefix of a list. -/
theorem pref_ints {w : World} {ok : Nat → Prop} {A : Option Addr} {n c N : Nat} {l : List Int} (h : Ints w ok (.slice A n c) l) (hN : N ≤ n) : Ints w ok (.slice A N c) (l.take N) := by
  obtain ⟨A', c', e, hc, hl, hr⟩ := h
  injection e with e1 e2 e3
  subst e1 e2 e3
  refine ⟨A, c, by rw [List.length_take, Nat.min_eq_left (by omega)], by rw [List.length_take]; omega, by simp, fun hp => ?_⟩
  rw [List.length_take] at hp
  obtain ⟨b, off, e, hb, hcell⟩ := hr (by omega)
  refine ⟨b, off, e, hb, fun j u hu => hcell j u ?_⟩
  rw [List.map_take, List.getElem?_take] at hu
  split at hu
  · exact hu
  · cases hu

theorem mzs_four {W : World} {a b c d : MZ} {f1 u1 t1 f2 u2 t2 f3 u3 t3 f4 u4 t4 : Value} {ok1 ok2 ok3 ok4 : Nat → Prop} (h1 : MazeV W ok1 (.agg #[.int .i64 a.w, .int .i64 a.h, .int .i64 a.l, f1, u1, t1]) a) (h2 : MazeV W ok2 (.agg #[.int .i64 b.w, .int .i64 b.h, .int .i64 b.l, f2, u2, t2]) b)
    (h3 : MazeV W ok3 (.agg #[.int .i64 c.w, .int .i64 c.h, .int .i64 c.l, f3, u3, t3]) c) (h4 : MazeV W ok4 (.agg #[.int .i64 d.w, .int .i64 d.h, .int .i64 d.l, f4, u4, t4]) d) (l1 : Lens a) (l2 : Lens b) (l3 : Lens c) (l4 : Lens d) :
    MzsAt (W.alloc (.cells #[.int .i64 a.w, .int .i64 a.h, .int .i64 a.l, f1, u1, t1, .int .i64 b.w, .int .i64 b.h, .int .i64 b.l, f2, u2, t2, .int .i64 c.w, .int .i64 c.h, .int .i64 c.l, f3, u3, t3, .int .i64 d.w, .int .i64 d.h, .int .i64 d.l, f4, u4, t4] 31)) W.heap.size 4 := fun i hi => by
  have hB : Blk (W.alloc (.cells #[.int .i64 a.w, .int .i64 a.h, .int .i64 a.l, f1, u1, t1, .int .i64 b.w, .int .i64 b.h, .int .i64 b.l, f2, u2, t2, .int .i64 c.w, .int .i64 c.h, .int .i64 c.l, f3, u3, t3, .int .i64 d.w, .int .i64 d.h, .int .i64 d.l, f4, u4, t4] 31)) W.heap.size 31 #[.int .i64 a.w, .int .i64 a.h, .int .i64 a.l, f1, u1, t1, .int .i64 b.w, .int .i64 b.h, .int .i64 b.l, f2, u2, t2, .int .i64 c.w, .int .i64 c.h, .int .i64 c.l, f3, u3, t3, .int .i64 d.w, .int .i64 d.h, .int .i64 d.l, f4, u4, t4] := heap_alloc_new _ _
  have hE : Ext W (W.alloc (.cells #[.int .i64 a.w, .int .i64 a.h, .int .i64 a.l, f1, u1, t1, .int .i64 b.w, .int .i64 b.h, .int .i64 b.l, f2, u2, t2, .int .i64 c.w, .int .i64 c.h, .int .i64 c.l, f3, u3, t3, .int .i64 d.w, .int .i64 d.h, .int .i64 d.l, f4, u4, t4] 31)) := (Ext.refl W).alloc _
  match i, hi with
  | 0, _ => exact ⟨a, f1, u1, t1, hB.cell (k := 0) rfl, hB.cell (k := 1) rfl, hB.cell (k := 2) rfl, hB.cell (k := 3) rfl, hB.cell (k := 4) rfl, hB.cell (k := 5) rfl, (h1.weaken fun _ _ => trivial).below hE, l1⟩
  | 1, _ => exact ⟨b, f2, u2, t2, hB.cell (k := 6) rfl, hB.cell (k := 7) rfl, hB.cell (k := 8) rfl, hB.cell (k := 9) rfl, hB.cell (k := 10) rfl, hB.cell (k := 11) rfl, (h2.weaken fun _ _ => trivial).below hE, l2⟩
  | 2, _ => exact ⟨c, f3, u3, t3, hB.cell (k := 12) rfl, hB.cell (k := 13) rfl, hB.cell (k := 14) rfl, hB.cell (k := 15) rfl, hB.cell (k := 16) rfl, hB.cell (k := 17) rfl, (h3.weaken fun _ _ => trivial).below hE, l3⟩
  | 3, _ => exact ⟨d, f4, u4, t4, hB.cell (k := 18) rfl, hB.cell (k := 19) rfl, hB.cell (k := 20) rfl, hB.cell (k := 21) rfl, hB.cell (k := 22) rfl, hB.cell (k := 23) rfl, (h4.weaken fun _ _ => trivial).below hE, l4⟩
end Go.Proofs.Ytgpjfpcjiebjiaa
