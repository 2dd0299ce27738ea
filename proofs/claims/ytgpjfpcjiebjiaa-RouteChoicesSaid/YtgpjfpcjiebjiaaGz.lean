/- Words for the laws' lists: mazes, lists, numbers in a block. -/
import Derived.Test.YtgpjfpcjiebjiaaGq
import Derived.Test.YtgpjfpcjiebjiaaGw
namespace Go.Proofs.Ytgpjfpcjiebjiaa
open Go.RowKit
set_option linter.unusedVariables false
set_option linter.unusedSimpArgs false

theorem MadeM.obL {m : MZ} (h : MadeM m) : OB m 4 4 16 := by
 have hg := h.good
 have hn : 2 ≤ m.w * m.h * m.l ∧ m.w * m.h * m.l ≤ 16 := h.n
 have hw := h.w
 have hh := h.h
 have hl := h.l
 have ht := h.tk
 refine ⟨by omega, by omega, by omega, by rw [hg.fl]; omega, ?_, by omega, fun t ht => ?_⟩
 ·have := hg.dim.up
  omega
 ·have := (h.te t ht).2
  omega
/-- Three numbers in a block. -/
def NsAt (W : World) (b : Nat) : Prop := ∀ i : Nat, i < 3 → ∃ n : Int, W.cell? ⟨b, i, none⟩ = some (.int .i64 n)
theorem ns_make (W : World) (a b c : Int) : NsAt (W.alloc (.cells #[.int .i64 a, .int .i64 b, .int .i64 c] 3)) W.heap.size := fun i hi => by
 have hB : Blk (W.alloc (.cells #[.int .i64 a, .int .i64 b, .int .i64 c] 3)) W.heap.size 3 #[.int .i64 a, .int .i64 b, .int .i64 c] := heap_alloc_new _ _
 match i, hi with
 | 0, _ => exact ⟨a, hB.cell (k := 0) rfl⟩
 | 1, _ => exact ⟨b, hB.cell (k := 1) rfl⟩
 | 2, _ => exact ⟨c, hB.cell (k := 2) rfl⟩
theorem mazeV_slices {W : World} {ok : Nat → Prop} {a b c f u t : Value} {m : MZ} (h : MazeV W ok (.agg #[a, b, c, f, u, t]) m) : ∃ A n cc A' n' c' A'' n'' c'', f = .slice A n cc ∧ u = .slice A' n' c' ∧ t = .slice A'' n'' c'' := by
 obtain ⟨f', u', t', e, ⟨_, ⟨A1, c1, e1, -⟩, -⟩, ⟨A2, c2, e2, -⟩, ⟨_, ⟨A3, c3, e3, -⟩, -⟩⟩ := h
 injection e with e
 injection e with e
 simp only [List.cons.injEq, and_true] at e
 obtain ⟨-, -, -, rfl, rfl, rfl⟩ := e
 exact ⟨_, _, _, _, _, _, _, _, _, e1, e2, e3⟩
/-- Mazes in a block. -/
def MzsAt (W : World) (b n : Nat) : Prop := ∀ i : Nat, i < n → ∃ (m : MZ) (f u t : Value), W.cell? ⟨b, i * 6, none⟩ = some (.int .i64 m.w) ∧ W.cell? ⟨b, i * 6 + 1, none⟩ = some (.int .i64 m.h) ∧ W.cell? ⟨b, i * 6 + 2, none⟩ = some (.int .i64 m.l) ∧ W.cell? ⟨b, i * 6 + 3, none⟩ = some f ∧ W.cell? ⟨b, i * 6 + 4, none⟩ = some u ∧ W.cell? ⟨b, i * 6 + 5, none⟩ = some t ∧
 MazeV W (fun _ => True) (.agg #[.int .i64 m.w, .int .i64 m.h, .int .i64 m.l, f, u, t]) m ∧ Lens m
theorem MzsAt.more {W W' : World} {b n : Nat} (h : MzsAt W b n) (hE : Ext W W') : MzsAt W' b n := fun i hi => by
 obtain ⟨m, f, u, t, h0, h1, h2, h3, h4, h5, h6, h7⟩ := h i hi
 exact ⟨m, f, u, t, hE.cell h0, hE.cell h1, hE.cell h2, hE.cell h3, hE.cell h4, hE.cell h5, h6.below hE, h7⟩
theorem mzs_two {W : World} {m m' : MZ} {f u t f' u' t' : Value} {ok ok' : Nat → Prop} (h : MazeV W ok (.agg #[.int .i64 m.w, .int .i64 m.h, .int .i64 m.l, f, u, t]) m) (h' : MazeV W ok' (.agg #[.int .i64 m'.w, .int .i64 m'.h, .int .i64 m'.l, f', u', t']) m') (l : Lens m) (l' : Lens m') :
  MzsAt (W.alloc (.cells #[.int .i64 m.w, .int .i64 m.h, .int .i64 m.l, f, u, t, .int .i64 m'.w, .int .i64 m'.h, .int .i64 m'.l, f', u', t'] 31)) W.heap.size 2 := fun i hi => by
 have hB : Blk (W.alloc (.cells #[.int .i64 m.w, .int .i64 m.h, .int .i64 m.l, f, u, t, .int .i64 m'.w, .int .i64 m'.h, .int .i64 m'.l, f', u', t'] 31)) W.heap.size 31 #[.int .i64 m.w, .int .i64 m.h, .int .i64 m.l, f, u, t, .int .i64 m'.w, .int .i64 m'.h, .int .i64 m'.l, f', u', t'] := heap_alloc_new _ _
 have hE : Ext W (W.alloc (.cells #[.int .i64 m.w, .int .i64 m.h, .int .i64 m.l, f, u, t, .int .i64 m'.w, .int .i64 m'.h, .int .i64 m'.l, f', u', t'] 31)) := (Ext.refl W).alloc _
 match i, hi with
 | 0, _ => exact ⟨m, f, u, t, hB.cell (k := 0) rfl, hB.cell (k := 1) rfl, hB.cell (k := 2) rfl, hB.cell (k := 3) rfl, hB.cell (k := 4) rfl, hB.cell (k := 5) rfl, (h.weaken fun _ _ => trivial).below hE, l⟩
 | 1, _ => exact ⟨m', f', u', t', hB.cell (k := 6) rfl, hB.cell (k := 7) rfl, hB.cell (k := 8) rfl, hB.cell (k := 9) rfl, hB.cell (k := 10) rfl, hB.cell (k := 11) rfl, (h'.weaken fun _ _ => trivial).below hE, l'⟩
/-- Four lists of numbers in a block. -/
def XsAt (W : World) (b : Nat) : Prop := ∀ i : Nat, i < 4 → ∃ A c x, W.cell? ⟨b, i, none⟩ = some (.slice A x.length c) ∧ Ints W (fun _ => True) (.slice A x.length c) x ∧ x.length ≤ 24
theorem XsAt.more {W W' : World} {b : Nat} (h : XsAt W b) (hE : Ext W W') : XsAt W' b := fun i hi => by
 obtain ⟨A, c, x, h1, h2, h3⟩ := h i hi
 exact ⟨A, c, x, hE.cell h1, h2.below hE, h3⟩
theorem xs_make {W : World} {ok0 ok1 ok2 : Nat → Prop} {v0 v1 v2 : Value} {x0 x1 x2 : List Int} (h0 : Ints W ok0 v0 x0) (h1 : Ints W ok1 v1 x1) (h2 : Ints W ok2 v2 x2) (l0 : x0.length ≤ 24) (l1 : x1.length ≤ 24) (l2 : x2.length ≤ 24) :
  XsAt (W.alloc (.cells #[v0, v1, v2, .slice none 0 0] 24)) W.heap.size := fun i hi => by
 have hB : Blk (W.alloc (.cells #[v0, v1, v2, .slice none 0 0] 24)) W.heap.size 24 #[v0, v1, v2, .slice none 0 0] := heap_alloc_new _ _
 have hE : Ext W (W.alloc (.cells #[v0, v1, v2, .slice none 0 0] 24)) := (Ext.refl W).alloc _
 obtain ⟨A0, c0, rfl, -⟩ := id h0
 obtain ⟨A1, c1, rfl, -⟩ := id h1
 obtain ⟨A2, c2, rfl, -⟩ := id h2
 match i, hi with
 | 0, _ => exact ⟨A0, c0, x0, hB.cell (k := 0) rfl, (h0.weaken fun _ _ => trivial).below hE, l0⟩
 | 1, _ => exact ⟨A1, c1, x1, hB.cell (k := 1) rfl, (h1.weaken fun _ _ => trivial).below hE, l1⟩
 | 2, _ => exact ⟨A2, c2, x2, hB.cell (k := 2) rfl, (h2.weaken fun _ _ => trivial).below hE, l2⟩
 | 3, _ => exact ⟨none, 0, [], hB.cell (k := 3) rfl, Ints.nil _ _, by simp⟩
/-- A prefix of a list. -/
theorem pref_ints {w : World} {ok : Nat → Prop} {A : Option Addr} {n c N : Nat} {l : List Int} (h : Ints w ok (.slice A n c) l) (hN : N ≤ n) : Ints w ok (.slice A N c) (l.take N) := by
 obtain ⟨A', c', e, hc, hl, hr⟩ := h
 injection e with e1 e2 e3
 subst e1 e2 e3
 refine ⟨A, c, by rw [List.length_take, Nat.min_eq_left (by omega)], by rw [List.length_take]; omega, by simp, fun hp => ?_⟩
 rw [List.length_take] at hp
 obtain ⟨b, off, e, hb, hcell⟩ := hr (by omega)
 refine ⟨b, off, e, hb, fun j u hu => hcell j u ?_⟩
 rw [List.map_take, List.getElem?_take] at hu
 split at hu
 ·exact hu
 ·cases hu

theorem mzs_four {W : World} {a b c d : MZ} {f1 u1 t1 f2 u2 t2 f3 u3 t3 f4 u4 t4 : Value} {ok1 ok2 ok3 ok4 : Nat → Prop} (h1 : MazeV W ok1 (.agg #[.int .i64 a.w, .int .i64 a.h, .int .i64 a.l, f1, u1, t1]) a) (h2 : MazeV W ok2 (.agg #[.int .i64 b.w, .int .i64 b.h, .int .i64 b.l, f2, u2, t2]) b)
  (h3 : MazeV W ok3 (.agg #[.int .i64 c.w, .int .i64 c.h, .int .i64 c.l, f3, u3, t3]) c) (h4 : MazeV W ok4 (.agg #[.int .i64 d.w, .int .i64 d.h, .int .i64 d.l, f4, u4, t4]) d) (l1 : Lens a) (l2 : Lens b) (l3 : Lens c) (l4 : Lens d) :
  MzsAt (W.alloc (.cells #[.int .i64 a.w, .int .i64 a.h, .int .i64 a.l, f1, u1, t1, .int .i64 b.w, .int .i64 b.h, .int .i64 b.l, f2, u2, t2, .int .i64 c.w, .int .i64 c.h, .int .i64 c.l, f3, u3, t3, .int .i64 d.w, .int .i64 d.h, .int .i64 d.l, f4, u4, t4] 31)) W.heap.size 4 := fun i hi => by
 have hB : Blk (W.alloc (.cells #[.int .i64 a.w, .int .i64 a.h, .int .i64 a.l, f1, u1, t1, .int .i64 b.w, .int .i64 b.h, .int .i64 b.l, f2, u2, t2, .int .i64 c.w, .int .i64 c.h, .int .i64 c.l, f3, u3, t3, .int .i64 d.w, .int .i64 d.h, .int .i64 d.l, f4, u4, t4] 31)) W.heap.size 31 #[.int .i64 a.w, .int .i64 a.h, .int .i64 a.l, f1, u1, t1, .int .i64 b.w, .int .i64 b.h, .int .i64 b.l, f2, u2, t2, .int .i64 c.w, .int .i64 c.h, .int .i64 c.l, f3, u3, t3, .int .i64 d.w, .int .i64 d.h, .int .i64 d.l, f4, u4, t4] := heap_alloc_new _ _
 have hE : Ext W (W.alloc (.cells #[.int .i64 a.w, .int .i64 a.h, .int .i64 a.l, f1, u1, t1, .int .i64 b.w, .int .i64 b.h, .int .i64 b.l, f2, u2, t2, .int .i64 c.w, .int .i64 c.h, .int .i64 c.l, f3, u3, t3, .int .i64 d.w, .int .i64 d.h, .int .i64 d.l, f4, u4, t4] 31)) := (Ext.refl W).alloc _
 match i, hi with
 | 0, _ => exact ⟨a, f1, u1, t1, hB.cell (k := 0) rfl, hB.cell (k := 1) rfl, hB.cell (k := 2) rfl, hB.cell (k := 3) rfl, hB.cell (k := 4) rfl, hB.cell (k := 5) rfl, (h1.weaken fun _ _ => trivial).below hE, l1⟩
 | 1, _ => exact ⟨b, f2, u2, t2, hB.cell (k := 6) rfl, hB.cell (k := 7) rfl, hB.cell (k := 8) rfl, hB.cell (k := 9) rfl, hB.cell (k := 10) rfl, hB.cell (k := 11) rfl, (h2.weaken fun _ _ => trivial).below hE, l2⟩
 | 2, _ => exact ⟨c, f3, u3, t3, hB.cell (k := 12) rfl, hB.cell (k := 13) rfl, hB.cell (k := 14) rfl, hB.cell (k := 15) rfl, hB.cell (k := 16) rfl, hB.cell (k := 17) rfl, (h3.weaken fun _ _ => trivial).below hE, l3⟩
 | 3, _ => exact ⟨d, f4, u4, t4, hB.cell (k := 18) rfl, hB.cell (k := 19) rfl, hB.cell (k := 20) rfl, hB.cell (k := 21) rfl, hB.cell (k := 22) rfl, hB.cell (k := 23) rfl, (h4.weaken fun _ _ => trivial).below hE, l4⟩
end Go.Proofs.Ytgpjfpcjiebjiaa
