/- Walks: a maze in which something is changed: some maze, within bounds. -/
import Derived.Test.YtgpjfpcjiebjiaaGq
import Derived.Test.YtgpjfpcjiebjiaaGw
namespace Go.Proofs.Ytgpjfpcjiebjiaa
open Go.RowKit
set_option linter.unusedVariables false
set_option linter.unusedSimpArgs false
attribute [local go_sem ↓] Go.wp_at_zero Go.wp_at_succ

set_option maxHeartbeats 4000000 in
set_option maxRecDepth 100000 in
theorem odd_calls {okm : Nat → Prop} {v : Value} {m : MZ} {A Y : Int} {K : Nat} (o0 o1 o2 : Int) (w : World) (hm : MazeV w okm v m) (hb : OB m A Y K) (hA : 0 ≤ A ∧ A ≤ 100) (hY : 0 ≤ Y ∧ Y ≤ 1000) (hK : K ≤ 100) :
  Calls Try.prog 13 #[v, .agg #[.int .i64 o0, .int .i64 o1, .int .i64 o2]] w (OddPost w (A + 6) (100 * Y) (K + 20)) := by
 obtain ⟨hA0, hA1⟩ := hA
 obtain ⟨hY0, hY1⟩ := hY
 have hmb := hm.bound
 obtain ⟨vfr, vup, vts, rfl, hfr, hup, hts⟩ := hmb
 clear hm
 obtain ⟨vsf, hrf, hef⟩ := hfr
 obtain ⟨vst, hrt, het⟩ := hts
 have HOF := Lib.hid (each_one hrf hef fun u x h => bools_oneCell h)
 have HOT := Lib.hid (tasks_one hrt rfl het)
 have HRF := Lib.hid hrf
 have HEF := Lib.hid hef
 have HRT := Lib.hid hrt
 have HET := Lib.hid het
 have HUP := Lib.hid hup
 obtain ⟨Af, cf, rfl, hcf, -⟩ := hrf
 obtain ⟨At, ct, rfl, hct, -⟩ := hrt
 obtain ⟨Au, cu, rfl, hcu, -⟩ := hup
 have HOB := Lib.hid hb
 obtain ⟨⟨hw0, hw1⟩, ⟨hh0, hh1⟩, ⟨hl0, hl1⟩, hkf, hku, hkt, -⟩ := hb
 clear hef het
 go_enter Try.func13, Try.ntmps13
 go_upto_region 2 with fail
 obtain ⟨wA, hwA⟩ : ∃ wA, wA = ((w.alloc (.cells #[.int .i64 m.w, .int .i64 m.h, .int .i64 m.l, .slice Af m.free.length cf, .slice Au m.up.length cu, .slice At m.tasks.length ct] 31)).alloc (.cells #[.int .i64 o0, .int .i64 o1, .int .i64 o2] 23)).alloc (.cells #[.int .i64 0, .int .i64 0, .int .i64 0, .slice none 0 0, .slice none 0 0, .slice none 0 0] 31) := ⟨_, rfl⟩
 have hB2 : Blk wA w.heap.size 31 #[.int .i64 m.w, .int .i64 m.h, .int .i64 m.l, .slice Af m.free.length cf, .slice Au m.up.length cu, .slice At m.tasks.length ct] := by rw [hwA]; exact ((Blk.new _ _ _ rfl).alloc _).alloc _
 have hB3 : Blk wA (w.heap.size + 1) 23 #[.int .i64 o0, .int .i64 o1, .int .i64 o2] := by rw [hwA]; exact (Blk.new _ _ _ (by simp)).alloc _
 have hB4 : Blk wA (w.heap.size + 2) 31 #[.int .i64 0, .int .i64 0, .int .i64 0, .slice none 0 0, .slice none 0 0, .slice none 0 0] := by rw [hwA]; exact Blk.new _ _ _ (by simp)
 have hEA : Ext w wA := by rw [hwA]; exact (((Ext.refl w).alloc _).alloc _).alloc _
 have hsA : wA.heap.size = w.heap.size + 3 := by rw [hwA]; simp
 rw [← hwA]
 clear hwA
 obtain ⟨b5, hb5⟩ : ∃ b5, b5 = w.heap.size + 2 + 1 := ⟨_, rfl⟩
 obtain ⟨b4, hb4⟩ : ∃ b4, b4 = w.heap.size + 2 := ⟨_, rfl⟩
 obtain ⟨b3, hb3⟩ : ∃ b3, b3 = w.heap.size + 1 := ⟨_, rfl⟩
 obtain ⟨b2, hb2⟩ : ∃ b2, b2 = w.heap.size := ⟨_, rfl⟩
 rw [← hb5, ← hb4, ← hb3, ← hb2]
 rw [← hb2] at hB2
 rw [← hb3] at hB3
 rw [← hb4] at hB4
 generalize hw5 : wA.alloc (.cells #[.int .i64 m.w, .int .i64 m.h, .int .i64 m.l, .slice Af m.free.length cf, .slice Au m.up.length cu, .slice At m.tasks.length ct] 31) = w5
 have hE5 : Ext wA w5 := by rw [← hw5]; exact (Ext.refl _).alloc _
 have hB5 : Blk w5 b5 31 #[.int .i64 m.w, .int .i64 m.h, .int .i64 m.l, .slice Af m.free.length cf, .slice Au m.up.length cu, .slice At m.tasks.length ct] := by rw [← hw5]; exact Blk.new _ _ _ (by omega)
 have HBS : Hid (wA.heap.size = b5 ∧ b4 < b5 ∧ w.heap.size ≤ b4 ∧ b4 + 1 = wA.heap.size) := ⟨by omega, by omega, by omega, by omega⟩
 have HEA := Lib.hid hEA
 have HE5 := Lib.hid hE5
 have HB4 := Lib.hid hB4
 obtain ⟨m0, m1, m2, m3, m4, m5⟩ := cells6 hB2
 have q0 := Ext.rule m0
 have q1 := Ext.rule m1
 have q2 := Ext.rule m2
 have q3 := Ext.rule m3
 have q4 := Ext.rule m4
 have q5 := Ext.rule m5
 have s0 : ∀ W, Ext wA W → W.cell? ⟨b3, 0, none⟩ = some (.int .i64 o0) := Ext.rule (hB3.cell (k := 0) rfl)
 have s1 : ∀ W, Ext wA W → W.cell? ⟨b3, 1, none⟩ = some (.int .i64 o1) := Ext.rule (hB3.cell (k := 1) rfl)
 have HB5 := Lib.hid hB5
 clear m0 m1 m2 m3 m4 m5 hB2 hB3 hB4 hw5 hsA hb5 hb4 hb3 hb2 hEA hB5
 have hal := ext_allocs wA
 go_wp2_with (at_builtin; refine wpList_append_row rfl _ _ _ eTask rfl wA.heap.size 0 m.tasks.length [] _ _ _ rfl rfl (own_emptyT w5 wA.heap.size _ _ hE5.size) (HRT.out.below (HEA.out.trans (hE5.alloc _))) HOT.out (Nat.le_trans hE5.size (by simp)) (by unfold maxLen; omega) (by omega) ?_)
 intro vT w6 hoT hgT0 hv0
 clear hv0
 have hgT : (w5.alloc (.cells #[] 75)).grownBy w6 (some w5.heap.size) := hgT0
 clear hgT0
 have l5 := lt_of_some HB5.out
 have h6 : Blk w6 b5 31 #[.int .i64 m.w, .int .i64 m.h, .int .i64 m.l, .slice Af m.free.length cf, .slice Au m.up.length cu, .slice At m.tasks.length ct] := ((hgT.block b5 (by simp; omega) (fun e => by injection e with e; omega)).trans (Below.heap_alloc _ _ _ l5)).trans HB5.out
 have hE6 : Ext wA w6 := (hE5.alloc _).grown hgT (Nat.le_trans hE5.size (by simp)) (fun k hk => by injection hk with hk; have := hE5.size; omega)
 have c6 : w6.cell? ⟨b5, 5, none⟩ = some (.slice At m.tasks.length ct) := h6.cell (k := 5) rfl
 have f6 : w6.frozen? ⟨b5, 5, none⟩ = false := h6.frozen 5
 have HOT2 := Lib.hid hoT
 have HGT := Lib.hid hgT
 have H6 := Lib.hid h6
 have HE6 := Lib.hid hE6
 obtain ⟨AT, cT, rfl, -⟩ := Row.of_own hoT
 clear hoT hgT h6 l5
 go_upto_region 3 with fail
 generalize hw7 : w6.setCell ⟨b5, 5, none⟩ (.slice AT m.tasks.length cT) = w7
 have hE7 : Ext wA w7 := by rw [← hw7]; exact HE6.out.setCell (p := ⟨b5, 5, none⟩) (show wA.heap.size ≤ b5 by have := HBS.out.1; omega) _
 have h7 : Blk w7 b5 31 #[.int .i64 m.w, .int .i64 m.h, .int .i64 m.l, .slice Af m.free.length cf, .slice Au m.up.length cu, .slice AT m.tasks.length cT] := by rw [← hw7]; exact H6.out.set (k := 5) _
 have hs7 : w7.heap.size = w6.heap.size := by rw [← hw7]; simp [World.setCell]
 have HW7 := Lib.hid hw7
 have HS7 := Lib.hid hs7
 clear hw7 c6 f6 hE6 hE5 hs7
 go_wp2_with (at_builtin; refine wpList_append_row rfl _ _ _ eBools rfl wA.heap.size 0 m.free.length [] _ _ _ rfl rfl (own_emptyT w7 wA.heap.size _ _ hE7.size) (HRF.out.below (HEA.out.trans (hE7.alloc _))) HOF.out (Nat.le_trans hE7.size (by simp)) (by unfold maxLen; omega) (by omega) ?_)
 intro vF w8 hoF hgF0 hv0
 clear hv0
 have hgF : (w7.alloc (.cells #[] 28)).grownBy w8 (some w7.heap.size) := hgF0
 clear hgF0
 have l7 := lt_of_some h7
 have h8 : Blk w8 b5 31 #[.int .i64 m.w, .int .i64 m.h, .int .i64 m.l, .slice Af m.free.length cf, .slice Au m.up.length cu, .slice AT m.tasks.length cT] := ((hgF.block b5 (by simp; omega) (fun e => by injection e with e; omega)).trans (Below.heap_alloc _ _ _ l7)).trans h7
 have c8 : w8.cell? ⟨b5, 3, none⟩ = some (.slice Af m.free.length cf) := h8.cell (k := 3) rfl
 have f8 : w8.frozen? ⟨b5, 3, none⟩ = false := h8.frozen 3
 have hK0 := HOB.out.te
 have hO9 : OS wA (w8.setCell ⟨b5, 3, none⟩ vF) wA.heap.size b5 m.free.length m.tasks.length K m.w m.h m.l vF (.slice Au m.up.length cu) (.slice AT m.tasks.length cT) vsf vst := by
  have hgF' := hgF
  rw [← HW7.out] at hgF'
  refine OS.start (o2 := .cells #[] 28) rfl (by have := HBS.out.1; omega) (w5 := w5) (vF0 := .slice Af m.free.length cf) (vT0 := .slice At m.tasks.length ct) HE5.out HB5.out HOT2.out HGT.out hoF ?_ (fun u hu => ?_) (fun j hj => ?_) ⟨m.up, hku, ?_⟩ hkf hkt
  ·rw [HS7.out, ← HW7.out] at hgF
   exact hgF
  ·obtain ⟨i, hi, rfl⟩ := List.getElem_of_mem hu
   obtain ⟨_, _, _, _, hl, _⟩ := HRF.out
   obtain ⟨u', h1, h2⟩ := HEF.out i _ (List.getElem?_eq_getElem (by omega))
   rw [List.getElem?_eq_getElem hi] at h1
   injection h1 with h1
   exact ⟨_, by rw [h1]; exact (h2.below HEA.out).weaken fun b hb => by have := hb.2; have := HBS.out; omega⟩
  ·obtain ⟨s, u1, u2, h0, h1, h2, h3, h4⟩ := HET.out j _ (List.getElem?_eq_getElem hj)
   have := hK0 _ (List.getElem_mem hj)
   exact ⟨s, u1, u2, h0, h1, h2, ⟨_, this.1, .inl ((h3.below HEA.out).weaken fun b hb => by have := hb.2; have := HBS.out; omega)⟩, ⟨_, this.2, .inl ((h4.below HEA.out).weaken fun b hb => by have := hb.2; have := HBS.out; omega)⟩⟩
  ·exact (HUP.out.below HEA.out).weaken fun b hb => by have := hb.2; have := HBS.out; omega
 have HO9 := Lib.hid hO9
 obtain ⟨AF, cF, rfl, -⟩ := Row.of_own hoF
 clear hO9 hK0 hoF hgF h8 l7 h7 hE7
 go_upto_region 4 with fail
 clear c8 f8
 generalize w8.setCell ⟨b5, 3, none⟩ (.slice AF m.free.length cF) = w9 at *
 have hx9 : Ext wA w9 := HO9.out.ext
 go_wp2_with fail
 refine (mod_calls o1 7 w9 (by omega) (by omega)).mono ?_
 rintro e w' ⟨rfl, rfl⟩
 obtain ⟨n, hn⟩ : ∃ n, n = o1 % 7 - 2 := ⟨_, rfl⟩
 have hnb : -2 ≤ n ∧ n ≤ 4 := by have := Int.emod_nonneg o1 (show (7:Int) ≠ 0 by omega); have := Int.emod_lt_of_pos o1 (show (0:Int) < 7 by omega); omega
 have hnw : IntKind.i64.wrap (o1 % 7 - 2) = n := by rw [IntKind.wrap_i64]; omega
 have hnw2 : o1 % 7 - 2 = n := hn.symm
 clear hn
 go_wp2_with fail
 refine (mod_calls o0 8 w9 (by omega) (by omega)).mono ?_
 rintro e w' ⟨rfl, rfl⟩
 obtain ⟨d, hd⟩ : ∃ d, d = o0 % 8 := ⟨_, rfl⟩
 have hd8 : d = 0 ∨ d = 1 ∨ d = 2 ∨ d = 3 ∨ d = 4 ∨ d = 5 ∨ d = 6 ∨ d = 7 := by have := Int.emod_nonneg o0 (show (8:Int) ≠ 0 by omega); have := Int.emod_lt_of_pos o0 (show (0:Int) < 8 by omega); omega
 rw [← hd]
 clear hd s0 s1
 rcases hd8 with rfl | rfl | rfl | rfl | rfl | rfl | rfl | rfl
 ·have m0 : w9.cell? ⟨b5, 0, none⟩ = some (.int .i64 m.w) := HO9.out.blk.cell (k := 0) rfl
  have hf : ∀ j, w9.frozen? ⟨b5, j, none⟩ = false := fun j => HO9.out.blk.frozen j
  have hwr : IntKind.i64.wrap (m.w + n) = m.w + n := by rw [IntKind.wrap_i64]; omega
  have hfin := ((HO9.out.setI 0 (m.w + n) rfl).more (K' := K + 20) (by omega)).fin (A := A + 6) (Y := 100 * Y) (by omega) (by omega) (by omega)
  have HFN := Lib.hid hfin
  clear hfin
  go_upto_region 29 with fail
  generalize w9.setCell ⟨b5, 0, none⟩ (.int .i64 (m.w + n)) = wc at *
  have hfin := HFN.out
  try clear HO9
  obtain ⟨m', vF', vU', vT', hbk, hmz, hob, hext⟩ := hfin
  have HMZ := Lib.hid hmz
  have HOB' := Lib.hid hob
  have HEX := Lib.hid hext
  obtain ⟨f', u', t', e', ⟨_, ⟨A1, c1, rfl, -⟩, -⟩, ⟨A2, c2, rfl, -⟩, ⟨_, ⟨A3, c3, rfl, -⟩, -⟩⟩ := hmz
  injection e' with e'
  injection e' with e'
  simp only [List.cons.injEq, and_true, true_and] at e'
  obtain ⟨rfl, rfl, rfl⟩ := e'
  have m0 : wc.cell? ⟨b5, 0, none⟩ = some (.int .i64 m'.w) := hbk.cell (k := 0) rfl
  have m1 : wc.cell? ⟨b5, 1, none⟩ = some (.int .i64 m'.h) := hbk.cell (k := 1) rfl
  have m2 : wc.cell? ⟨b5, 2, none⟩ = some (.int .i64 m'.l) := hbk.cell (k := 2) rfl
  have m3 : wc.cell? ⟨b5, 3, none⟩ = some (.slice A1 m'.free.length c1) := hbk.cell (k := 3) rfl
  have m4 : wc.cell? ⟨b5, 4, none⟩ = some (.slice A2 m'.up.length c2) := hbk.cell (k := 4) rfl
  have m5 : wc.cell? ⟨b5, 5, none⟩ = some (.slice A3 m'.tasks.length c3) := hbk.cell (k := 5) rfl
  have hBZ : Blk wc b4 31 #[.int .i64 0, .int .i64 0, .int .i64 0, .slice none 0 0, .slice none 0 0, .slice none 0 0] := HB4.out.ext hext
  have z0 : wc.cell? ⟨b4, 0, none⟩ = some (.int .i64 0) := hBZ.cell (k := 0) rfl
  have z1 : wc.cell? ⟨b4, 1, none⟩ = some (.int .i64 0) := hBZ.cell (k := 1) rfl
  have z2 : wc.cell? ⟨b4, 2, none⟩ = some (.int .i64 0) := hBZ.cell (k := 2) rfl
  have z3 : wc.cell? ⟨b4, 3, none⟩ = some (.slice none 0 0) := hBZ.cell (k := 3) rfl
  have z4 : wc.cell? ⟨b4, 4, none⟩ = some (.slice none 0 0) := hBZ.cell (k := 4) rfl
  have z5 : wc.cell? ⟨b4, 5, none⟩ = some (.slice none 0 0) := hBZ.cell (k := 5) rfl
  have hfz : ∀ j, wc.frozen? ⟨b4, j, none⟩ = false := fun j => hBZ.frozen j
  have HBZ := Lib.hid hBZ
  clear hbk hob hext hBZ
  go_wp2_with fail
  refine case_fin (P := fun W => bodyPost Try.prog Try.f13 (OddPost w (A + 6) (100 * Y) (K + 20)) Exit.ret _ W) (g2 := b4) ?_ HBZ.out
  intro WZ hbz hEb hk
  have y0 : WZ.cell? ⟨b4, 0, none⟩ = some (.int .i64 m'.w) := hbz.cell (k := 0) rfl
  have y1 : WZ.cell? ⟨b4, 1, none⟩ = some (.int .i64 m'.h) := hbz.cell (k := 1) rfl
  have y2 : WZ.cell? ⟨b4, 2, none⟩ = some (.int .i64 m'.l) := hbz.cell (k := 2) rfl
  have y3 : WZ.cell? ⟨b4, 3, none⟩ = some (.slice A1 m'.free.length c1) := hbz.cell (k := 3) rfl
  have y4 : WZ.cell? ⟨b4, 4, none⟩ = some (.slice A2 m'.up.length c2) := hbz.cell (k := 4) rfl
  have y5 : WZ.cell? ⟨b4, 5, none⟩ = some (.slice A3 m'.tasks.length c3) := hbz.cell (k := 5) rfl
  exact bodyPost_ret (v := .agg #[.int .i64 m'.w, .int .i64 m'.h, .int .i64 m'.l, .slice A1 m'.free.length c1, .slice A2 m'.up.length c2, .slice A3 m'.tasks.length c3]) (by simp [results, Try.results13, go_sem, y0, y1, y2, y3, y4, y5]) rfl
   ⟨_, m', rfl, Below.trans (HEA.out.trans HEX.out) (hEb.mono HBS.out.2.2.1), (HMZ.out.keep (w' := WZ) (fun b hb hlt => hk b hlt (by have := HBS.out.2.2.2; omega))).weaken (fun _ _ => trivial), HOB'.out⟩
 ·have m0 : w9.cell? ⟨b5, 2, none⟩ = some (.int .i64 m.l) := HO9.out.blk.cell (k := 2) rfl
  have hf : ∀ j, w9.frozen? ⟨b5, j, none⟩ = false := fun j => HO9.out.blk.frozen j
  have hfin := ((HO9.out.setI 2 n rfl).more (K' := K + 20) (by omega)).fin (A := A + 6) (Y := 100 * Y) (by omega) (by omega) (by omega)
  have HFN := Lib.hid hfin
  clear hfin
  go_upto_region 29 with fail
  generalize w9.setCell ⟨b5, 2, none⟩ (.int .i64 n) = wc at *
  have hfin := HFN.out
  try clear HO9
  obtain ⟨m', vF', vU', vT', hbk, hmz, hob, hext⟩ := hfin
  have HMZ := Lib.hid hmz
  have HOB' := Lib.hid hob
  have HEX := Lib.hid hext
  obtain ⟨f', u', t', e', ⟨_, ⟨A1, c1, rfl, -⟩, -⟩, ⟨A2, c2, rfl, -⟩, ⟨_, ⟨A3, c3, rfl, -⟩, -⟩⟩ := hmz
  injection e' with e'
  injection e' with e'
  simp only [List.cons.injEq, and_true, true_and] at e'
  obtain ⟨rfl, rfl, rfl⟩ := e'
  have m0 : wc.cell? ⟨b5, 0, none⟩ = some (.int .i64 m'.w) := hbk.cell (k := 0) rfl
  have m1 : wc.cell? ⟨b5, 1, none⟩ = some (.int .i64 m'.h) := hbk.cell (k := 1) rfl
  have m2 : wc.cell? ⟨b5, 2, none⟩ = some (.int .i64 m'.l) := hbk.cell (k := 2) rfl
  have m3 : wc.cell? ⟨b5, 3, none⟩ = some (.slice A1 m'.free.length c1) := hbk.cell (k := 3) rfl
  have m4 : wc.cell? ⟨b5, 4, none⟩ = some (.slice A2 m'.up.length c2) := hbk.cell (k := 4) rfl
  have m5 : wc.cell? ⟨b5, 5, none⟩ = some (.slice A3 m'.tasks.length c3) := hbk.cell (k := 5) rfl
  have hBZ : Blk wc b4 31 #[.int .i64 0, .int .i64 0, .int .i64 0, .slice none 0 0, .slice none 0 0, .slice none 0 0] := HB4.out.ext hext
  have z0 : wc.cell? ⟨b4, 0, none⟩ = some (.int .i64 0) := hBZ.cell (k := 0) rfl
  have z1 : wc.cell? ⟨b4, 1, none⟩ = some (.int .i64 0) := hBZ.cell (k := 1) rfl
  have z2 : wc.cell? ⟨b4, 2, none⟩ = some (.int .i64 0) := hBZ.cell (k := 2) rfl
  have z3 : wc.cell? ⟨b4, 3, none⟩ = some (.slice none 0 0) := hBZ.cell (k := 3) rfl
  have z4 : wc.cell? ⟨b4, 4, none⟩ = some (.slice none 0 0) := hBZ.cell (k := 4) rfl
  have z5 : wc.cell? ⟨b4, 5, none⟩ = some (.slice none 0 0) := hBZ.cell (k := 5) rfl
  have hfz : ∀ j, wc.frozen? ⟨b4, j, none⟩ = false := fun j => hBZ.frozen j
  have HBZ := Lib.hid hBZ
  clear hbk hob hext hBZ
  go_wp2_with fail
  refine case_fin (P := fun W => bodyPost Try.prog Try.f13 (OddPost w (A + 6) (100 * Y) (K + 20)) Exit.ret _ W) (g2 := b4) ?_ HBZ.out
  intro WZ hbz hEb hk
  have y0 : WZ.cell? ⟨b4, 0, none⟩ = some (.int .i64 m'.w) := hbz.cell (k := 0) rfl
  have y1 : WZ.cell? ⟨b4, 1, none⟩ = some (.int .i64 m'.h) := hbz.cell (k := 1) rfl
  have y2 : WZ.cell? ⟨b4, 2, none⟩ = some (.int .i64 m'.l) := hbz.cell (k := 2) rfl
  have y3 : WZ.cell? ⟨b4, 3, none⟩ = some (.slice A1 m'.free.length c1) := hbz.cell (k := 3) rfl
  have y4 : WZ.cell? ⟨b4, 4, none⟩ = some (.slice A2 m'.up.length c2) := hbz.cell (k := 4) rfl
  have y5 : WZ.cell? ⟨b4, 5, none⟩ = some (.slice A3 m'.tasks.length c3) := hbz.cell (k := 5) rfl
  exact bodyPost_ret (v := .agg #[.int .i64 m'.w, .int .i64 m'.h, .int .i64 m'.l, .slice A1 m'.free.length c1, .slice A2 m'.up.length c2, .slice A3 m'.tasks.length c3]) (by simp [results, Try.results13, go_sem, y0, y1, y2, y3, y4, y5]) rfl
   ⟨_, m', rfl, Below.trans (HEA.out.trans HEX.out) (hEb.mono HBS.out.2.2.1), (HMZ.out.keep (w' := WZ) (fun b hb hlt => hk b hlt (by have := HBS.out.2.2.2; omega))).weaken (fun _ _ => trivial), HOB'.out⟩
 ·have m0 : w9.cell? ⟨b5, 1, none⟩ = some (.int .i64 m.h) := HO9.out.blk.cell (k := 1) rfl
  have hf : ∀ j, w9.frozen? ⟨b5, j, none⟩ = false := fun j => HO9.out.blk.frozen j
  have hwr : IntKind.i64.wrap (m.h * 100) = m.h * 100 := by rw [IntKind.wrap_i64]; omega
  have hfin := ((HO9.out.setI 1 (m.h * 100) rfl).more (K' := K + 20) (by omega)).fin (A := A + 6) (Y := 100 * Y) (by omega) (by omega) (by omega)
  have HFN := Lib.hid hfin
  clear hfin
  go_upto_region 29 with fail
  generalize w9.setCell ⟨b5, 1, none⟩ (.int .i64 (m.h * 100)) = wc at *
  have hfin := HFN.out
  try clear HO9
  obtain ⟨m', vF', vU', vT', hbk, hmz, hob, hext⟩ := hfin
  have HMZ := Lib.hid hmz
  have HOB' := Lib.hid hob
  have HEX := Lib.hid hext
  obtain ⟨f', u', t', e', ⟨_, ⟨A1, c1, rfl, -⟩, -⟩, ⟨A2, c2, rfl, -⟩, ⟨_, ⟨A3, c3, rfl, -⟩, -⟩⟩ := hmz
  injection e' with e'
  injection e' with e'
  simp only [List.cons.injEq, and_true, true_and] at e'
  obtain ⟨rfl, rfl, rfl⟩ := e'
  have m0 : wc.cell? ⟨b5, 0, none⟩ = some (.int .i64 m'.w) := hbk.cell (k := 0) rfl
  have m1 : wc.cell? ⟨b5, 1, none⟩ = some (.int .i64 m'.h) := hbk.cell (k := 1) rfl
  have m2 : wc.cell? ⟨b5, 2, none⟩ = some (.int .i64 m'.l) := hbk.cell (k := 2) rfl
  have m3 : wc.cell? ⟨b5, 3, none⟩ = some (.slice A1 m'.free.length c1) := hbk.cell (k := 3) rfl
  have m4 : wc.cell? ⟨b5, 4, none⟩ = some (.slice A2 m'.up.length c2) := hbk.cell (k := 4) rfl
  have m5 : wc.cell? ⟨b5, 5, none⟩ = some (.slice A3 m'.tasks.length c3) := hbk.cell (k := 5) rfl
  have hBZ : Blk wc b4 31 #[.int .i64 0, .int .i64 0, .int .i64 0, .slice none 0 0, .slice none 0 0, .slice none 0 0] := HB4.out.ext hext
  have z0 : wc.cell? ⟨b4, 0, none⟩ = some (.int .i64 0) := hBZ.cell (k := 0) rfl
  have z1 : wc.cell? ⟨b4, 1, none⟩ = some (.int .i64 0) := hBZ.cell (k := 1) rfl
  have z2 : wc.cell? ⟨b4, 2, none⟩ = some (.int .i64 0) := hBZ.cell (k := 2) rfl
  have z3 : wc.cell? ⟨b4, 3, none⟩ = some (.slice none 0 0) := hBZ.cell (k := 3) rfl
  have z4 : wc.cell? ⟨b4, 4, none⟩ = some (.slice none 0 0) := hBZ.cell (k := 4) rfl
  have z5 : wc.cell? ⟨b4, 5, none⟩ = some (.slice none 0 0) := hBZ.cell (k := 5) rfl
  have hfz : ∀ j, wc.frozen? ⟨b4, j, none⟩ = false := fun j => hBZ.frozen j
  have HBZ := Lib.hid hBZ
  clear hbk hob hext hBZ
  go_wp2_with fail
  refine case_fin (P := fun W => bodyPost Try.prog Try.f13 (OddPost w (A + 6) (100 * Y) (K + 20)) Exit.ret _ W) (g2 := b4) ?_ HBZ.out
  intro WZ hbz hEb hk
  have y0 : WZ.cell? ⟨b4, 0, none⟩ = some (.int .i64 m'.w) := hbz.cell (k := 0) rfl
  have y1 : WZ.cell? ⟨b4, 1, none⟩ = some (.int .i64 m'.h) := hbz.cell (k := 1) rfl
  have y2 : WZ.cell? ⟨b4, 2, none⟩ = some (.int .i64 m'.l) := hbz.cell (k := 2) rfl
  have y3 : WZ.cell? ⟨b4, 3, none⟩ = some (.slice A1 m'.free.length c1) := hbz.cell (k := 3) rfl
  have y4 : WZ.cell? ⟨b4, 4, none⟩ = some (.slice A2 m'.up.length c2) := hbz.cell (k := 4) rfl
  have y5 : WZ.cell? ⟨b4, 5, none⟩ = some (.slice A3 m'.tasks.length c3) := hbz.cell (k := 5) rfl
  exact bodyPost_ret (v := .agg #[.int .i64 m'.w, .int .i64 m'.h, .int .i64 m'.l, .slice A1 m'.free.length c1, .slice A2 m'.up.length c2, .slice A3 m'.tasks.length c3]) (by simp [results, Try.results13, go_sem, y0, y1, y2, y3, y4, y5]) rfl
   ⟨_, m', rfl, Below.trans (HEA.out.trans HEX.out) (hEb.mono HBS.out.2.2.1), (HMZ.out.keep (w' := WZ) (fun b hb hlt => hk b hlt (by have := HBS.out.2.2.2; omega))).weaken (fun _ _ => trivial), HOB'.out⟩
 ·have hup1 : ∀ u ∈ m.up.map Value.bool, u.oneCell' = true := by
   intro u hu
   obtain ⟨_, _, rfl⟩ := List.mem_map.1 hu
   rfl
  go_wp2_with (at_builtin; refine wpList_append_row rfl _ _ _ eBool rfl w9.heap.size 0 m.up.length [] _ _ _ rfl rfl (own_emptyT w9 w9.heap.size _ _ (Nat.le_refl _)) (HUP.out.below (HEA.out.trans (hx9.alloc _))) hup1 (by simp) (by unfold maxLen; omega) (by omega) ?_)
  intro v1 wa ho1 hg0 hv1
  clear hv1
  have hg1 : (w9.alloc (.cells #[] 4)).grownBy wa (some w9.heap.size) := hg0
  have hEa : Ext w9 wa := ((Ext.refl w9).alloc _).grown hg1 (by simp) (fun k hk => by injection hk with hk; omega)
  have HO1 := Lib.hid ho1
  have HEa := Lib.hid hEa
  obtain ⟨A1, c1, rfl, -⟩ := Row.of_own ho1
  have hxa : Ext wA wa := hx9.trans hEa
  clear hg0 hg1 ho1 hup1 hEa
  go_wp2_with (at_builtin; refine wpList_append_row (ok := fun _ => True) rfl _ _ _ eBool rfl w9.heap.size m.up.length 1 _ [.bool true] _ _ rfl rfl (HO1.out.alloc _) ⟨_, _, rfl, Nat.le_refl _, RowA.block (Blk.new _ _ _ rfl) trivial rfl⟩ (by simp [Value.oneCell']) (Nat.le_trans HEa.out.size (by simp)) (by unfold maxLen; omega) (by omega) ?_)
  intro v2 wb ho2 hg2 hv2
  clear hv2
  have hEb : Ext w9 wb := (HEa.out.alloc _).grown hg2 (Nat.le_trans HEa.out.size (by simp)) (fun k hk => (HO1.out.lt k hk).1)
  have hOb := (HO9.out.grow hEb).more (K' := K + 20) (by omega)
  have HO2 : Hid (OwnB wb wA.heap.size v2 (m.up ++ [true])) := OwnB.app (World.ownsRow.mono ho2 hx9.size)
  obtain ⟨A2, c2, rfl, -⟩ := Row.of_own ho2
  have c4 : wb.cell? ⟨b5, 4, none⟩ = some (.slice Au m.up.length cu) := hOb.blk.cell (k := 4) rfl
  have hf : ∀ j, wb.frozen? ⟨b5, j, none⟩ = false := fun j => hOb.blk.frozen j
  have hfin := (hOb.setU (by simp; omega) HO2.out).fin (A := A + 6) (Y := 100 * Y) (by omega) (by omega) (by omega)
  clear hg2 ho2 hEb hOb
  have HFN := Lib.hid hfin
  clear hfin
  go_upto_region 29 with fail
  generalize wb.setCell ⟨b5, 4, none⟩ (.slice A2 (m.up.length + 1) c2) = wc at *
  have hfin := HFN.out
  try clear HO9
  obtain ⟨m', vF', vU', vT', hbk, hmz, hob, hext⟩ := hfin
  have HMZ := Lib.hid hmz
  have HOB' := Lib.hid hob
  have HEX := Lib.hid hext
  obtain ⟨f', u', t', e', ⟨_, ⟨A1, c1, rfl, -⟩, -⟩, ⟨A2, c2, rfl, -⟩, ⟨_, ⟨A3, c3, rfl, -⟩, -⟩⟩ := hmz
  injection e' with e'
  injection e' with e'
  simp only [List.cons.injEq, and_true, true_and] at e'
  obtain ⟨rfl, rfl, rfl⟩ := e'
  have m0 : wc.cell? ⟨b5, 0, none⟩ = some (.int .i64 m'.w) := hbk.cell (k := 0) rfl
  have m1 : wc.cell? ⟨b5, 1, none⟩ = some (.int .i64 m'.h) := hbk.cell (k := 1) rfl
  have m2 : wc.cell? ⟨b5, 2, none⟩ = some (.int .i64 m'.l) := hbk.cell (k := 2) rfl
  have m3 : wc.cell? ⟨b5, 3, none⟩ = some (.slice A1 m'.free.length c1) := hbk.cell (k := 3) rfl
  have m4 : wc.cell? ⟨b5, 4, none⟩ = some (.slice A2 m'.up.length c2) := hbk.cell (k := 4) rfl
  have m5 : wc.cell? ⟨b5, 5, none⟩ = some (.slice A3 m'.tasks.length c3) := hbk.cell (k := 5) rfl
  have hBZ : Blk wc b4 31 #[.int .i64 0, .int .i64 0, .int .i64 0, .slice none 0 0, .slice none 0 0, .slice none 0 0] := HB4.out.ext hext
  have z0 : wc.cell? ⟨b4, 0, none⟩ = some (.int .i64 0) := hBZ.cell (k := 0) rfl
  have z1 : wc.cell? ⟨b4, 1, none⟩ = some (.int .i64 0) := hBZ.cell (k := 1) rfl
  have z2 : wc.cell? ⟨b4, 2, none⟩ = some (.int .i64 0) := hBZ.cell (k := 2) rfl
  have z3 : wc.cell? ⟨b4, 3, none⟩ = some (.slice none 0 0) := hBZ.cell (k := 3) rfl
  have z4 : wc.cell? ⟨b4, 4, none⟩ = some (.slice none 0 0) := hBZ.cell (k := 4) rfl
  have z5 : wc.cell? ⟨b4, 5, none⟩ = some (.slice none 0 0) := hBZ.cell (k := 5) rfl
  have hfz : ∀ j, wc.frozen? ⟨b4, j, none⟩ = false := fun j => hBZ.frozen j
  have HBZ := Lib.hid hBZ
  clear hbk hob hext hBZ
  go_wp2_with fail
  refine case_fin (P := fun W => bodyPost Try.prog Try.f13 (OddPost w (A + 6) (100 * Y) (K + 20)) Exit.ret _ W) (g2 := b4) ?_ HBZ.out
  intro WZ hbz hEb hk
  have y0 : WZ.cell? ⟨b4, 0, none⟩ = some (.int .i64 m'.w) := hbz.cell (k := 0) rfl
  have y1 : WZ.cell? ⟨b4, 1, none⟩ = some (.int .i64 m'.h) := hbz.cell (k := 1) rfl
  have y2 : WZ.cell? ⟨b4, 2, none⟩ = some (.int .i64 m'.l) := hbz.cell (k := 2) rfl
  have y3 : WZ.cell? ⟨b4, 3, none⟩ = some (.slice A1 m'.free.length c1) := hbz.cell (k := 3) rfl
  have y4 : WZ.cell? ⟨b4, 4, none⟩ = some (.slice A2 m'.up.length c2) := hbz.cell (k := 4) rfl
  have y5 : WZ.cell? ⟨b4, 5, none⟩ = some (.slice A3 m'.tasks.length c3) := hbz.cell (k := 5) rfl
  exact bodyPost_ret (v := .agg #[.int .i64 m'.w, .int .i64 m'.h, .int .i64 m'.l, .slice A1 m'.free.length c1, .slice A2 m'.up.length c2, .slice A3 m'.tasks.length c3]) (by simp [results, Try.results13, go_sem, y0, y1, y2, y3, y4, y5]) rfl
   ⟨_, m', rfl, Below.trans (HEA.out.trans HEX.out) (hEb.mono HBS.out.2.2.1), (HMZ.out.keep (w' := WZ) (fun b hb hlt => hk b hlt (by have := HBS.out.2.2.2; omega))).weaken (fun _ _ => trivial), HOB'.out⟩
 ·have m3 : w9.cell? ⟨b5, 3, none⟩ = some (.slice AF m.free.length cF) := HO9.out.blk.cell (k := 3) rfl
  rcases Nat.eq_zero_or_pos m.free.length with hz | hz
  ·have hz1 : decide ((0 : Int) < (m.free.length : Int)) = false := decide_eq_false (by omega)
   have hz2 : decide (0 < m.free.length) = false := decide_eq_false (by omega)
   have hfin := (HO9.out.more (K' := K + 20) (by omega)).fin (A := A + 6) (Y := 100 * Y) (by omega) (by omega) (by omega)
   clear hz
   have HFN := Lib.hid hfin
   clear hfin
   go_upto_region 29 with fail
   clear m3
   generalize w9 = wc at *
   have hfin := HFN.out
   try clear HO9
   obtain ⟨m', vF', vU', vT', hbk, hmz, hob, hext⟩ := hfin
   have HMZ := Lib.hid hmz
   have HOB' := Lib.hid hob
   have HEX := Lib.hid hext
   obtain ⟨f', u', t', e', ⟨_, ⟨A1, c1, rfl, -⟩, -⟩, ⟨A2, c2, rfl, -⟩, ⟨_, ⟨A3, c3, rfl, -⟩, -⟩⟩ := hmz
   injection e' with e'
   injection e' with e'
   simp only [List.cons.injEq, and_true, true_and] at e'
   obtain ⟨rfl, rfl, rfl⟩ := e'
   have m0 : wc.cell? ⟨b5, 0, none⟩ = some (.int .i64 m'.w) := hbk.cell (k := 0) rfl
   have m1 : wc.cell? ⟨b5, 1, none⟩ = some (.int .i64 m'.h) := hbk.cell (k := 1) rfl
   have m2 : wc.cell? ⟨b5, 2, none⟩ = some (.int .i64 m'.l) := hbk.cell (k := 2) rfl
   have m3 : wc.cell? ⟨b5, 3, none⟩ = some (.slice A1 m'.free.length c1) := hbk.cell (k := 3) rfl
   have m4 : wc.cell? ⟨b5, 4, none⟩ = some (.slice A2 m'.up.length c2) := hbk.cell (k := 4) rfl
   have m5 : wc.cell? ⟨b5, 5, none⟩ = some (.slice A3 m'.tasks.length c3) := hbk.cell (k := 5) rfl
   have hBZ : Blk wc b4 31 #[.int .i64 0, .int .i64 0, .int .i64 0, .slice none 0 0, .slice none 0 0, .slice none 0 0] := HB4.out.ext hext
   have z0 : wc.cell? ⟨b4, 0, none⟩ = some (.int .i64 0) := hBZ.cell (k := 0) rfl
   have z1 : wc.cell? ⟨b4, 1, none⟩ = some (.int .i64 0) := hBZ.cell (k := 1) rfl
   have z2 : wc.cell? ⟨b4, 2, none⟩ = some (.int .i64 0) := hBZ.cell (k := 2) rfl
   have z3 : wc.cell? ⟨b4, 3, none⟩ = some (.slice none 0 0) := hBZ.cell (k := 3) rfl
   have z4 : wc.cell? ⟨b4, 4, none⟩ = some (.slice none 0 0) := hBZ.cell (k := 4) rfl
   have z5 : wc.cell? ⟨b4, 5, none⟩ = some (.slice none 0 0) := hBZ.cell (k := 5) rfl
   have hfz : ∀ j, wc.frozen? ⟨b4, j, none⟩ = false := fun j => hBZ.frozen j
   have HBZ := Lib.hid hBZ
   clear hbk hob hext hBZ
   go_wp2_with fail
   refine case_fin (P := fun W => bodyPost Try.prog Try.f13 (OddPost w (A + 6) (100 * Y) (K + 20)) Exit.ret _ W) (g2 := b4) ?_ HBZ.out
   intro WZ hbz hEb hk
   have y0 : WZ.cell? ⟨b4, 0, none⟩ = some (.int .i64 m'.w) := hbz.cell (k := 0) rfl
   have y1 : WZ.cell? ⟨b4, 1, none⟩ = some (.int .i64 m'.h) := hbz.cell (k := 1) rfl
   have y2 : WZ.cell? ⟨b4, 2, none⟩ = some (.int .i64 m'.l) := hbz.cell (k := 2) rfl
   have y3 : WZ.cell? ⟨b4, 3, none⟩ = some (.slice A1 m'.free.length c1) := hbz.cell (k := 3) rfl
   have y4 : WZ.cell? ⟨b4, 4, none⟩ = some (.slice A2 m'.up.length c2) := hbz.cell (k := 4) rfl
   have y5 : WZ.cell? ⟨b4, 5, none⟩ = some (.slice A3 m'.tasks.length c3) := hbz.cell (k := 5) rfl
   exact bodyPost_ret (v := .agg #[.int .i64 m'.w, .int .i64 m'.h, .int .i64 m'.l, .slice A1 m'.free.length c1, .slice A2 m'.up.length c2, .slice A3 m'.tasks.length c3]) (by simp [results, Try.results13, go_sem, y0, y1, y2, y3, y4, y5]) rfl
    ⟨_, m', rfl, Below.trans (HEA.out.trans HEX.out) (hEb.mono HBS.out.2.2.1), (HMZ.out.keep (w' := WZ) (fun b hb hlt => hk b hlt (by have := HBS.out.2.2.2; omega))).weaken (fun _ _ => trivial), HOB'.out⟩
  ·have hz1 : decide ((0 : Int) < (m.free.length : Int)) = true := decide_eq_true (by omega)
   have hz2 : decide (0 < m.free.length) = true := decide_eq_true hz
   obtain ⟨gF, cF', e, -, -⟩ := World.ownsRow.form HO9.out.F hz
   injection e with e1 e2 e3
   subst e1 e3
   have hcap := own_cap HO9.out.F
   have hq1 : (1 : Int) ≤ (m.free.length : Int) := by omega
   have hq2 : (1 : Int) ≤ (cF : Int) := by omega
   have hq3 : (m.free.length : Int) ≤ (cF : Int) := by omega
   have hq4 : 1 < cF ∨ cF = 1 := by omega
   have hf : ∀ j, w9.frozen? ⟨b5, j, none⟩ = false := fun j => HO9.out.blk.frozen j
   rcases hq4 with hq4 | hq4
   ·have hfin := (HO9.out.more (K' := K + 20) (by omega)).drop1 rfl hz (A := A + 6) (Y := 100 * Y) (by omega) (by omega) (by omega)
    clear e2
    have HFN := Lib.hid hfin
    clear hfin
    go_upto_region 29 with fail
    clear m3
    generalize w9.setCell ⟨b5, 3, none⟩ (.slice (some ⟨gF, 1, none⟩) (m.free.length - 1) (cF - 1)) = wc at *
    have hfin := HFN.out
    try clear HO9
    obtain ⟨m', vF', vU', vT', hbk, hmz, hob, hext⟩ := hfin
    have HMZ := Lib.hid hmz
    have HOB' := Lib.hid hob
    have HEX := Lib.hid hext
    obtain ⟨f', u', t', e', ⟨_, ⟨A1, c1, rfl, -⟩, -⟩, ⟨A2, c2, rfl, -⟩, ⟨_, ⟨A3, c3, rfl, -⟩, -⟩⟩ := hmz
    injection e' with e'
    injection e' with e'
    simp only [List.cons.injEq, and_true, true_and] at e'
    obtain ⟨rfl, rfl, rfl⟩ := e'
    have m0 : wc.cell? ⟨b5, 0, none⟩ = some (.int .i64 m'.w) := hbk.cell (k := 0) rfl
    have m1 : wc.cell? ⟨b5, 1, none⟩ = some (.int .i64 m'.h) := hbk.cell (k := 1) rfl
    have m2 : wc.cell? ⟨b5, 2, none⟩ = some (.int .i64 m'.l) := hbk.cell (k := 2) rfl
    have m3 : wc.cell? ⟨b5, 3, none⟩ = some (.slice A1 m'.free.length c1) := hbk.cell (k := 3) rfl
    have m4 : wc.cell? ⟨b5, 4, none⟩ = some (.slice A2 m'.up.length c2) := hbk.cell (k := 4) rfl
    have m5 : wc.cell? ⟨b5, 5, none⟩ = some (.slice A3 m'.tasks.length c3) := hbk.cell (k := 5) rfl
    have hBZ : Blk wc b4 31 #[.int .i64 0, .int .i64 0, .int .i64 0, .slice none 0 0, .slice none 0 0, .slice none 0 0] := HB4.out.ext hext
    have z0 : wc.cell? ⟨b4, 0, none⟩ = some (.int .i64 0) := hBZ.cell (k := 0) rfl
    have z1 : wc.cell? ⟨b4, 1, none⟩ = some (.int .i64 0) := hBZ.cell (k := 1) rfl
    have z2 : wc.cell? ⟨b4, 2, none⟩ = some (.int .i64 0) := hBZ.cell (k := 2) rfl
    have z3 : wc.cell? ⟨b4, 3, none⟩ = some (.slice none 0 0) := hBZ.cell (k := 3) rfl
    have z4 : wc.cell? ⟨b4, 4, none⟩ = some (.slice none 0 0) := hBZ.cell (k := 4) rfl
    have z5 : wc.cell? ⟨b4, 5, none⟩ = some (.slice none 0 0) := hBZ.cell (k := 5) rfl
    have hfz : ∀ j, wc.frozen? ⟨b4, j, none⟩ = false := fun j => hBZ.frozen j
    have HBZ := Lib.hid hBZ
    clear hbk hob hext hBZ
    go_wp2_with fail
    refine case_fin (P := fun W => bodyPost Try.prog Try.f13 (OddPost w (A + 6) (100 * Y) (K + 20)) Exit.ret _ W) (g2 := b4) ?_ HBZ.out
    intro WZ hbz hEb hk
    have y0 : WZ.cell? ⟨b4, 0, none⟩ = some (.int .i64 m'.w) := hbz.cell (k := 0) rfl
    have y1 : WZ.cell? ⟨b4, 1, none⟩ = some (.int .i64 m'.h) := hbz.cell (k := 1) rfl
    have y2 : WZ.cell? ⟨b4, 2, none⟩ = some (.int .i64 m'.l) := hbz.cell (k := 2) rfl
    have y3 : WZ.cell? ⟨b4, 3, none⟩ = some (.slice A1 m'.free.length c1) := hbz.cell (k := 3) rfl
    have y4 : WZ.cell? ⟨b4, 4, none⟩ = some (.slice A2 m'.up.length c2) := hbz.cell (k := 4) rfl
    have y5 : WZ.cell? ⟨b4, 5, none⟩ = some (.slice A3 m'.tasks.length c3) := hbz.cell (k := 5) rfl
    exact bodyPost_ret (v := .agg #[.int .i64 m'.w, .int .i64 m'.h, .int .i64 m'.l, .slice A1 m'.free.length c1, .slice A2 m'.up.length c2, .slice A3 m'.tasks.length c3]) (by simp [results, Try.results13, go_sem, y0, y1, y2, y3, y4, y5]) rfl
     ⟨_, m', rfl, Below.trans (HEA.out.trans HEX.out) (hEb.mono HBS.out.2.2.1), (HMZ.out.keep (w' := WZ) (fun b hb hlt => hk b hlt (by have := HBS.out.2.2.2; omega))).weaken (fun _ _ => trivial), HOB'.out⟩
   ·subst hq4
    have hfin := (HO9.out.more (K' := K + 20) (by omega)).drop0 (some ⟨gF, 0, none⟩) 0 (A := A + 6) (Y := 100 * Y) (by omega) (by omega) (by omega)
    clear e2
    have HFN := Lib.hid hfin
    clear hfin
    go_upto_region 29 with fail
    clear m3
    generalize w9.setCell ⟨b5, 3, none⟩ (.slice (some ⟨gF, 0, none⟩) 0 0) = wc at *
    have hfin := HFN.out
    try clear HO9
    obtain ⟨m', vF', vU', vT', hbk, hmz, hob, hext⟩ := hfin
    have HMZ := Lib.hid hmz
    have HOB' := Lib.hid hob
    have HEX := Lib.hid hext
    obtain ⟨f', u', t', e', ⟨_, ⟨A1, c1, rfl, -⟩, -⟩, ⟨A2, c2, rfl, -⟩, ⟨_, ⟨A3, c3, rfl, -⟩, -⟩⟩ := hmz
    injection e' with e'
    injection e' with e'
    simp only [List.cons.injEq, and_true, true_and] at e'
    obtain ⟨rfl, rfl, rfl⟩ := e'
    have m0 : wc.cell? ⟨b5, 0, none⟩ = some (.int .i64 m'.w) := hbk.cell (k := 0) rfl
    have m1 : wc.cell? ⟨b5, 1, none⟩ = some (.int .i64 m'.h) := hbk.cell (k := 1) rfl
    have m2 : wc.cell? ⟨b5, 2, none⟩ = some (.int .i64 m'.l) := hbk.cell (k := 2) rfl
    have m3 : wc.cell? ⟨b5, 3, none⟩ = some (.slice A1 m'.free.length c1) := hbk.cell (k := 3) rfl
    have m4 : wc.cell? ⟨b5, 4, none⟩ = some (.slice A2 m'.up.length c2) := hbk.cell (k := 4) rfl
    have m5 : wc.cell? ⟨b5, 5, none⟩ = some (.slice A3 m'.tasks.length c3) := hbk.cell (k := 5) rfl
    have hBZ : Blk wc b4 31 #[.int .i64 0, .int .i64 0, .int .i64 0, .slice none 0 0, .slice none 0 0, .slice none 0 0] := HB4.out.ext hext
    have z0 : wc.cell? ⟨b4, 0, none⟩ = some (.int .i64 0) := hBZ.cell (k := 0) rfl
    have z1 : wc.cell? ⟨b4, 1, none⟩ = some (.int .i64 0) := hBZ.cell (k := 1) rfl
    have z2 : wc.cell? ⟨b4, 2, none⟩ = some (.int .i64 0) := hBZ.cell (k := 2) rfl
    have z3 : wc.cell? ⟨b4, 3, none⟩ = some (.slice none 0 0) := hBZ.cell (k := 3) rfl
    have z4 : wc.cell? ⟨b4, 4, none⟩ = some (.slice none 0 0) := hBZ.cell (k := 4) rfl
    have z5 : wc.cell? ⟨b4, 5, none⟩ = some (.slice none 0 0) := hBZ.cell (k := 5) rfl
    have hfz : ∀ j, wc.frozen? ⟨b4, j, none⟩ = false := fun j => hBZ.frozen j
    have HBZ := Lib.hid hBZ
    clear hbk hob hext hBZ
    go_wp2_with fail
    refine case_fin (P := fun W => bodyPost Try.prog Try.f13 (OddPost w (A + 6) (100 * Y) (K + 20)) Exit.ret _ W) (g2 := b4) ?_ HBZ.out
    intro WZ hbz hEb hk
    have y0 : WZ.cell? ⟨b4, 0, none⟩ = some (.int .i64 m'.w) := hbz.cell (k := 0) rfl
    have y1 : WZ.cell? ⟨b4, 1, none⟩ = some (.int .i64 m'.h) := hbz.cell (k := 1) rfl
    have y2 : WZ.cell? ⟨b4, 2, none⟩ = some (.int .i64 m'.l) := hbz.cell (k := 2) rfl
    have y3 : WZ.cell? ⟨b4, 3, none⟩ = some (.slice A1 m'.free.length c1) := hbz.cell (k := 3) rfl
    have y4 : WZ.cell? ⟨b4, 4, none⟩ = some (.slice A2 m'.up.length c2) := hbz.cell (k := 4) rfl
    have y5 : WZ.cell? ⟨b4, 5, none⟩ = some (.slice A3 m'.tasks.length c3) := hbz.cell (k := 5) rfl
    exact bodyPost_ret (v := .agg #[.int .i64 m'.w, .int .i64 m'.h, .int .i64 m'.l, .slice A1 m'.free.length c1, .slice A2 m'.up.length c2, .slice A3 m'.tasks.length c3]) (by simp [results, Try.results13, go_sem, y0, y1, y2, y3, y4, y5]) rfl
     ⟨_, m', rfl, Below.trans (HEA.out.trans HEX.out) (hEb.mono HBS.out.2.2.1), (HMZ.out.keep (w' := WZ) (fun b hb hlt => hk b hlt (by have := HBS.out.2.2.2; omega))).weaken (fun _ _ => trivial), HOB'.out⟩
 ·have m5 : w9.cell? ⟨b5, 5, none⟩ = some (.slice AT m.tasks.length cT) := HO9.out.blk.cell (k := 5) rfl
  rcases Nat.eq_zero_or_pos m.tasks.length with hz | hz
  ·have hz1 : decide ((0 : Int) < (m.tasks.length : Int)) = false := decide_eq_false (by omega)
   have hz2 : decide (0 < m.tasks.length) = false := decide_eq_false (by omega)
   have hfin := (HO9.out.more (K' := K + 20) (by omega)).fin (A := A + 6) (Y := 100 * Y) (by omega) (by omega) (by omega)
   clear hz
   have HFN := Lib.hid hfin
   clear hfin
   go_upto_region 29 with fail
   clear m5
   generalize w9 = wc at *
   have hfin := HFN.out
   try clear HO9
   obtain ⟨m', vF', vU', vT', hbk, hmz, hob, hext⟩ := hfin
   have HMZ := Lib.hid hmz
   have HOB' := Lib.hid hob
   have HEX := Lib.hid hext
   obtain ⟨f', u', t', e', ⟨_, ⟨A1, c1, rfl, -⟩, -⟩, ⟨A2, c2, rfl, -⟩, ⟨_, ⟨A3, c3, rfl, -⟩, -⟩⟩ := hmz
   injection e' with e'
   injection e' with e'
   simp only [List.cons.injEq, and_true, true_and] at e'
   obtain ⟨rfl, rfl, rfl⟩ := e'
   have m0 : wc.cell? ⟨b5, 0, none⟩ = some (.int .i64 m'.w) := hbk.cell (k := 0) rfl
   have m1 : wc.cell? ⟨b5, 1, none⟩ = some (.int .i64 m'.h) := hbk.cell (k := 1) rfl
   have m2 : wc.cell? ⟨b5, 2, none⟩ = some (.int .i64 m'.l) := hbk.cell (k := 2) rfl
   have m3 : wc.cell? ⟨b5, 3, none⟩ = some (.slice A1 m'.free.length c1) := hbk.cell (k := 3) rfl
   have m4 : wc.cell? ⟨b5, 4, none⟩ = some (.slice A2 m'.up.length c2) := hbk.cell (k := 4) rfl
   have m5 : wc.cell? ⟨b5, 5, none⟩ = some (.slice A3 m'.tasks.length c3) := hbk.cell (k := 5) rfl
   have hBZ : Blk wc b4 31 #[.int .i64 0, .int .i64 0, .int .i64 0, .slice none 0 0, .slice none 0 0, .slice none 0 0] := HB4.out.ext hext
   have z0 : wc.cell? ⟨b4, 0, none⟩ = some (.int .i64 0) := hBZ.cell (k := 0) rfl
   have z1 : wc.cell? ⟨b4, 1, none⟩ = some (.int .i64 0) := hBZ.cell (k := 1) rfl
   have z2 : wc.cell? ⟨b4, 2, none⟩ = some (.int .i64 0) := hBZ.cell (k := 2) rfl
   have z3 : wc.cell? ⟨b4, 3, none⟩ = some (.slice none 0 0) := hBZ.cell (k := 3) rfl
   have z4 : wc.cell? ⟨b4, 4, none⟩ = some (.slice none 0 0) := hBZ.cell (k := 4) rfl
   have z5 : wc.cell? ⟨b4, 5, none⟩ = some (.slice none 0 0) := hBZ.cell (k := 5) rfl
   have hfz : ∀ j, wc.frozen? ⟨b4, j, none⟩ = false := fun j => hBZ.frozen j
   have HBZ := Lib.hid hBZ
   clear hbk hob hext hBZ
   go_wp2_with fail
   refine case_fin (P := fun W => bodyPost Try.prog Try.f13 (OddPost w (A + 6) (100 * Y) (K + 20)) Exit.ret _ W) (g2 := b4) ?_ HBZ.out
   intro WZ hbz hEb hk
   have y0 : WZ.cell? ⟨b4, 0, none⟩ = some (.int .i64 m'.w) := hbz.cell (k := 0) rfl
   have y1 : WZ.cell? ⟨b4, 1, none⟩ = some (.int .i64 m'.h) := hbz.cell (k := 1) rfl
   have y2 : WZ.cell? ⟨b4, 2, none⟩ = some (.int .i64 m'.l) := hbz.cell (k := 2) rfl
   have y3 : WZ.cell? ⟨b4, 3, none⟩ = some (.slice A1 m'.free.length c1) := hbz.cell (k := 3) rfl
   have y4 : WZ.cell? ⟨b4, 4, none⟩ = some (.slice A2 m'.up.length c2) := hbz.cell (k := 4) rfl
   have y5 : WZ.cell? ⟨b4, 5, none⟩ = some (.slice A3 m'.tasks.length c3) := hbz.cell (k := 5) rfl
   exact bodyPost_ret (v := .agg #[.int .i64 m'.w, .int .i64 m'.h, .int .i64 m'.l, .slice A1 m'.free.length c1, .slice A2 m'.up.length c2, .slice A3 m'.tasks.length c3]) (by simp [results, Try.results13, go_sem, y0, y1, y2, y3, y4, y5]) rfl
    ⟨_, m', rfl, Below.trans (HEA.out.trans HEX.out) (hEb.mono HBS.out.2.2.1), (HMZ.out.keep (w' := WZ) (fun b hb hlt => hk b hlt (by have := HBS.out.2.2.2; omega))).weaken (fun _ _ => trivial), HOB'.out⟩
  ·have hz1 : decide ((0 : Int) < (m.tasks.length : Int)) = true := decide_eq_true (by omega)
   have hz2 : decide (0 < m.tasks.length) = true := decide_eq_true hz
   obtain ⟨gT, cT', e, hgTB, -⟩ := World.ownsRow.form HO9.out.T hz
   injection e with e1 e2 e3
   subst e1 e3
   clear e2
   obtain ⟨hgT1, hgT2⟩ := HO9.out.T.lt gT rfl
   have hcap := own_cap HO9.out.T
   obtain ⟨csT, hbT⟩ := own_blkB HO9.out.T
   have hne : b5 ≠ gT := Blk.ne_ HO9.out.blk hbT (by decide)
   have hl5 : b5 < w9.heap.size := lt_of_some HO9.out.blk
   obtain ⟨s, u1, u2, t0, t1, t2, ⟨l1, hkl1, ht1⟩, ⟨l2, hkl2, ht2⟩⟩ := HO9.out.td 0 hz
   have hq0 : (0 : Int) < (m.tasks.length : Int) := by omega
   have hcT1 : w9.cell? ⟨gT, 1, none⟩ = some u1 := (HO9.out.T.cellAt 1 (by omega)).trans t1
   have hcT2 : w9.cell? ⟨gT, 2, none⟩ = some u2 := (HO9.out.T.cellAt 2 (by omega)).trans t2
   have hfT : ∀ j, w9.frozen? ⟨gT, j, none⟩ = false := fun j => HO9.out.T.frozenAt j
   have hi1 : Ints w9 (fun _ => True) u1 l1 := by
    rcases ht1 with h | h
    ·exact h.weaken fun _ _ => trivial
    ·exact Ints.weaken (Row.of_own h) fun _ _ => trivial
   have HI1 := Lib.hid hi1
   obtain ⟨Au1, cu1, rfl, -, -⟩ := hi1
   have HHF := Lib.hid hfT
   clear t0 t1 t2 ht1 ht2 hcT2 hfT hbT
   go_wp2_with fail
   refine wp_region_held_drew (S := (fun W => W.cell? ⟨b5, 5, none⟩ = some (.slice (some ⟨gT, 0, none⟩) m.tasks.length cT))) mixedA m5 (fun hHeld => ?_)
   refine wpAnyH_take (i := 0) (v := ?v24) rfl (by kernel_rfl) (by kernel_rfl) (by kernel_rfl) (fun _ _ _ h => h) (Or.inl ⟨?w24, ?y24⟩) hHeld ?r24
   case w24 => rfl
   case y24 => (intro w hSw; go_simp; try with_reducible rfl)
   simp only [rtPr, Act.put]
   refine wpAnyH_take (i := 1) (v := ?v25) rfl (by kernel_rfl) (by kernel_rfl) (by kernel_rfl) (fun _ _ _ h => h) (Or.inl ⟨?w25, ?y25⟩) hHeld ?r25
   case w25 => rfl
   case y25 => (intro w hSw; go_simp; try with_reducible rfl)
   simp only [rtPr, Act.put]
   refine wpAnyH_take (i := 2) (v := ?v26) rfl (by kernel_rfl) (by kernel_rfl) (by kernel_rfl) (fun _ _ _ h => h) (Or.inl ⟨?w26, ?y26⟩) hHeld ?r26
   case w26 => rfl
   case y26 => (intro w hSw; go_simp; try with_reducible rfl)
   simp only [rtPr, Act.put]
   refine wpAnyH_take (i := 4) (v := ?v27) rfl (by kernel_rfl) (by kernel_rfl) (by kernel_rfl) (fun _ _ _ h => h) (Or.inl ⟨?w27, ?y27⟩) hHeld ?r27
   case w27 => rfl
   case y27 => (intro w hSw; go_simp; try with_reducible rfl)
   simp only [rtPr, Act.put]
   refine wpAnyH_take (i := 5) (v := ?v28) rfl (by kernel_rfl) (by kernel_rfl) (by kernel_rfl) (fun _ _ _ h => h) (Or.inl ⟨?w28, ?y28⟩) hHeld ?r28
   case w28 => rfl
   case y28 => (intro w hSw; go_simp; try with_reducible rfl)
   simp only [rtPr, Act.put]
   refine wpAnyH_take (i := 6) (v := ?v29) rfl (by kernel_rfl) (by kernel_rfl) (by kernel_rfl) (fun _ _ _ h => h) (Or.inl ⟨?w29, ?y29⟩) hHeld ?r29
   case w29 => rfl
   case y29 => (intro w hSw; go_simp; try with_reducible rfl)
   simp only [rtPr, Act.put]
   refine wpAnyH_take (i := 7) (v := ?v30) rfl (by kernel_rfl) (by kernel_rfl) (by kernel_rfl) (fun _ _ _ h => h) (Or.inl ⟨?w30, ?y30⟩) hHeld ?r30
   case w30 => rfl
   case y30 => (intro w hSw; go_simp; try with_reducible rfl)
   simp only [rtPr, Act.put]
   refine wpAnyH_ready (rs := [3, 8]) (by kernel_rfl) (by simp) ?_
   refine AllReadyH.cons rfl (fun K hK => ?_) ?_
   ·go_simp
    refine hK.out _ _ (Ext.cell m5 ((Ext.refl w9).drew.alloc _)) (fun hHeld => ?_)
    clear hK K
    try simp only [rtPr, Act.put]
    refine wpAnyH_ready (rs := [8]) (by kernel_rfl) (by simp) ?_
    refine AllReadyH.cons rfl (fun K hK => ?_) AllReadyH.nil
    have hcl : (w9.drew.alloc (.cells #[.int .i64 n] 3)).cell? ⟨gT, 1, none⟩ = some (.slice Au1 l1.length cu1) := Ext.cell hcT1 ((Ext.refl w9).drew.alloc _)
    go_simp
    clear hcl
    refine hK.out _ _ (hHeld) (fun hHeld => ?_)
    clear hK K
    try simp only [rtPr, Act.put]
    refine wpAnyH_ready (rs := [9]) (by kernel_rfl) (by simp) ?_
    refine AllReadyH.cons rfl (fun K hK => ?_) AllReadyH.nil
    refine step_append_row (ok := fun _ => True) rfl _ _ _ eInt rfl w9.heap.size 1 l1.length [.int .i64 n] (l1.map (Value.int .i64)) _ _ rfl rfl (own_one w9.drew w9.heap.size 3 (.int .i64 n) (Nat.le_refl _)) (Ints.below HI1.out ((Ext.refl w9).drew.alloc _)) intsOne (by simp) (by unfold maxLen; omega) (by omega) ?_
    intro v9 wb hown hg hv9
    clear hv9
    have hgg : (w9.drew.alloc (.cells #[.int .i64 n] 3)).grownBy wb (some w9.heap.size) := hg
    have hEb : Ext w9 wb := ((Ext.refl w9).drew.alloc _).grown hgg (by simp) (fun k hk => by injection hk with hk; omega)
    have HEb := Lib.hid hEb
    have HOW : Hid (OwnI wb wA.heap.size v9 (n :: l1)) := by
     have := World.ownsRow.mono hown hx9.size
     unfold OwnI
     show World.ownsRow _ _ _ _ _ (l1.length + 1) _
     rw [Nat.add_comm]
     exact this
    obtain ⟨A9, c9, rfl, -⟩ := Row.of_own hown
    clear hown hg hgg hEb
    refine hK.out _ _ (HEb.out.cell m5) (fun hHeld => ?_)
    clear hK K
    try simp only [rtPr, Act.put]
    refine wpAnyH_take (i := 10) (v := ?v31) rfl (by kernel_rfl) (by kernel_rfl) (by kernel_rfl) (fun _ _ _ h => h) (Or.inl ⟨?w31, ?y31⟩) hHeld ?r31
    case w31 => rfl
    case y31 => (intro w hSw; go_simp; try with_reducible rfl)
    simp only [rtPr, Act.put]
    refine wpAnyH_take (i := 11) (v := ?v32) rfl (by kernel_rfl) (by kernel_rfl) (by kernel_rfl) (fun _ _ _ h => h) (Or.inl ⟨?w32, ?y32⟩) hHeld ?r32
    case w32 => rfl
    case y32 => (intro w hSw; go_simp; try with_reducible rfl)
    simp only [rtPr, Act.put]
    refine wpAnyH_ready (rs := [12]) (by kernel_rfl) (by simp) ?_
    refine AllReadyH.cons rfl (fun K hK => ?_) AllReadyH.nil
    have hsc : wb.cell? ⟨gT, 1, none⟩ = some (.slice Au1 l1.length cu1) := HEb.out.cell hcT1
    have hsf : wb.frozen? ⟨gT, 1, none⟩ = false := (World.frozen?_of_block (a := ⟨gT, 1, none⟩) (HEb.out.block gT hgT2)).trans (HHF.out 1)
    go_simp
    refine hK.out _ _ ((World.cell?_of_block (a := ⟨b5, 5, none⟩) (Below.heap_setCell wb ⟨gT, 1, none⟩ _ b5 hne)).trans hHeld) (fun hHeld => ?_)
    clear hK K
    try simp only [rtPr, Act.put]
    refine wpAnyH_done (by kernel_rfl) ?_ _
    have hfin : OdS wA (wb.setCell ⟨gT, 1, none⟩ (.slice A9 (1 + l1.length) c9)) b5 (A + 6) (100 * Y) (K + 20) := by
     have h1 := ((HO9.out.grow HEb.out).more (K' := K + 20) (by omega)).setT (j := 0) (r := 1) rfl hz (.inl rfl) (x := (.slice A9 (1 + l1.length) c9)) ⟨n :: l1, by simp; omega, .inr HOW.out⟩
     rw [show 0 * 3 + 1 = 1 from rfl] at h1
     exact h1.fin (by omega) (by omega) (by omega)
    clear hHeld m5 hsc hsf hcT1
    have HFN := Lib.hid hfin
    clear hfin
    go_upto_region 29 with fail
    generalize wb.setCell ⟨gT, 1, none⟩ (.slice A9 (1 + l1.length) c9) = wc at *
    have hfin := HFN.out
    try clear HO9
    obtain ⟨m', vF', vU', vT', hbk, hmz, hob, hext⟩ := hfin
    have HMZ := Lib.hid hmz
    have HOB' := Lib.hid hob
    have HEX := Lib.hid hext
    obtain ⟨f', u', t', e', ⟨_, ⟨A1, c1, rfl, -⟩, -⟩, ⟨A2, c2, rfl, -⟩, ⟨_, ⟨A3, c3, rfl, -⟩, -⟩⟩ := hmz
    injection e' with e'
    injection e' with e'
    simp only [List.cons.injEq, and_true, true_and] at e'
    obtain ⟨rfl, rfl, rfl⟩ := e'
    have m0 : wc.cell? ⟨b5, 0, none⟩ = some (.int .i64 m'.w) := hbk.cell (k := 0) rfl
    have m1 : wc.cell? ⟨b5, 1, none⟩ = some (.int .i64 m'.h) := hbk.cell (k := 1) rfl
    have m2 : wc.cell? ⟨b5, 2, none⟩ = some (.int .i64 m'.l) := hbk.cell (k := 2) rfl
    have m3 : wc.cell? ⟨b5, 3, none⟩ = some (.slice A1 m'.free.length c1) := hbk.cell (k := 3) rfl
    have m4 : wc.cell? ⟨b5, 4, none⟩ = some (.slice A2 m'.up.length c2) := hbk.cell (k := 4) rfl
    have m5 : wc.cell? ⟨b5, 5, none⟩ = some (.slice A3 m'.tasks.length c3) := hbk.cell (k := 5) rfl
    have hBZ : Blk wc b4 31 #[.int .i64 0, .int .i64 0, .int .i64 0, .slice none 0 0, .slice none 0 0, .slice none 0 0] := HB4.out.ext hext
    have z0 : wc.cell? ⟨b4, 0, none⟩ = some (.int .i64 0) := hBZ.cell (k := 0) rfl
    have z1 : wc.cell? ⟨b4, 1, none⟩ = some (.int .i64 0) := hBZ.cell (k := 1) rfl
    have z2 : wc.cell? ⟨b4, 2, none⟩ = some (.int .i64 0) := hBZ.cell (k := 2) rfl
    have z3 : wc.cell? ⟨b4, 3, none⟩ = some (.slice none 0 0) := hBZ.cell (k := 3) rfl
    have z4 : wc.cell? ⟨b4, 4, none⟩ = some (.slice none 0 0) := hBZ.cell (k := 4) rfl
    have z5 : wc.cell? ⟨b4, 5, none⟩ = some (.slice none 0 0) := hBZ.cell (k := 5) rfl
    have hfz : ∀ j, wc.frozen? ⟨b4, j, none⟩ = false := fun j => hBZ.frozen j
    have HBZ := Lib.hid hBZ
    clear hbk hob hext hBZ
    go_wp2_with fail
    refine case_fin (P := fun W => bodyPost Try.prog Try.f13 (OddPost w (A + 6) (100 * Y) (K + 20)) Exit.ret _ W) (g2 := b4) ?_ HBZ.out
    intro WZ hbz hEb hk
    have y0 : WZ.cell? ⟨b4, 0, none⟩ = some (.int .i64 m'.w) := hbz.cell (k := 0) rfl
    have y1 : WZ.cell? ⟨b4, 1, none⟩ = some (.int .i64 m'.h) := hbz.cell (k := 1) rfl
    have y2 : WZ.cell? ⟨b4, 2, none⟩ = some (.int .i64 m'.l) := hbz.cell (k := 2) rfl
    have y3 : WZ.cell? ⟨b4, 3, none⟩ = some (.slice A1 m'.free.length c1) := hbz.cell (k := 3) rfl
    have y4 : WZ.cell? ⟨b4, 4, none⟩ = some (.slice A2 m'.up.length c2) := hbz.cell (k := 4) rfl
    have y5 : WZ.cell? ⟨b4, 5, none⟩ = some (.slice A3 m'.tasks.length c3) := hbz.cell (k := 5) rfl
    exact bodyPost_ret (v := .agg #[.int .i64 m'.w, .int .i64 m'.h, .int .i64 m'.l, .slice A1 m'.free.length c1, .slice A2 m'.up.length c2, .slice A3 m'.tasks.length c3]) (by simp [results, Try.results13, go_sem, y0, y1, y2, y3, y4, y5]) rfl
     ⟨_, m', rfl, Below.trans (HEA.out.trans HEX.out) (hEb.mono HBS.out.2.2.1), (HMZ.out.keep (w' := WZ) (fun b hb hlt => hk b hlt (by have := HBS.out.2.2.2; omega))).weaken (fun _ _ => trivial), HOB'.out⟩
   refine AllReadyH.cons rfl (fun K hK => ?_) ?_
   ·have hcl : w9.drew.cell? ⟨gT, 1, none⟩ = some (.slice Au1 l1.length cu1) := hcT1
    go_simp
    clear hcl
    refine hK.out _ _ (hHeld) (fun hHeld => ?_)
    clear hK K
    try simp only [rtPr, Act.put]
    refine wpAnyH_ready (rs := [3]) (by kernel_rfl) (by simp) ?_
    refine AllReadyH.cons rfl (fun K hK => ?_) AllReadyH.nil
    go_simp
    refine hK.out _ _ (Ext.cell m5 ((Ext.refl w9).drew.alloc _)) (fun hHeld => ?_)
    clear hK K
    try simp only [rtPr, Act.put]
    refine wpAnyH_ready (rs := [9]) (by kernel_rfl) (by simp) ?_
    refine AllReadyH.cons rfl (fun K hK => ?_) AllReadyH.nil
    refine step_append_row (ok := fun _ => True) rfl _ _ _ eInt rfl w9.heap.size 1 l1.length [.int .i64 n] (l1.map (Value.int .i64)) _ _ rfl rfl (own_one w9.drew w9.heap.size 3 (.int .i64 n) (Nat.le_refl _)) (Ints.below HI1.out ((Ext.refl w9).drew.alloc _)) intsOne (by simp) (by unfold maxLen; omega) (by omega) ?_
    intro v9 wb hown hg hv9
    clear hv9
    have hgg : (w9.drew.alloc (.cells #[.int .i64 n] 3)).grownBy wb (some w9.heap.size) := hg
    have hEb : Ext w9 wb := ((Ext.refl w9).drew.alloc _).grown hgg (by simp) (fun k hk => by injection hk with hk; omega)
    have HEb := Lib.hid hEb
    have HOW : Hid (OwnI wb wA.heap.size v9 (n :: l1)) := by
     have := World.ownsRow.mono hown hx9.size
     unfold OwnI
     show World.ownsRow _ _ _ _ _ (l1.length + 1) _
     rw [Nat.add_comm]
     exact this
    obtain ⟨A9, c9, rfl, -⟩ := Row.of_own hown
    clear hown hg hgg hEb
    refine hK.out _ _ (HEb.out.cell m5) (fun hHeld => ?_)
    clear hK K
    try simp only [rtPr, Act.put]
    refine wpAnyH_take (i := 10) (v := ?v33) rfl (by kernel_rfl) (by kernel_rfl) (by kernel_rfl) (fun _ _ _ h => h) (Or.inl ⟨?w33, ?y33⟩) hHeld ?r33
    case w33 => rfl
    case y33 => (intro w hSw; go_simp; try with_reducible rfl)
    simp only [rtPr, Act.put]
    refine wpAnyH_take (i := 11) (v := ?v34) rfl (by kernel_rfl) (by kernel_rfl) (by kernel_rfl) (fun _ _ _ h => h) (Or.inl ⟨?w34, ?y34⟩) hHeld ?r34
    case w34 => rfl
    case y34 => (intro w hSw; go_simp; try with_reducible rfl)
    simp only [rtPr, Act.put]
    refine wpAnyH_ready (rs := [12]) (by kernel_rfl) (by simp) ?_
    refine AllReadyH.cons rfl (fun K hK => ?_) AllReadyH.nil
    have hsc : wb.cell? ⟨gT, 1, none⟩ = some (.slice Au1 l1.length cu1) := HEb.out.cell hcT1
    have hsf : wb.frozen? ⟨gT, 1, none⟩ = false := (World.frozen?_of_block (a := ⟨gT, 1, none⟩) (HEb.out.block gT hgT2)).trans (HHF.out 1)
    go_simp
    refine hK.out _ _ ((World.cell?_of_block (a := ⟨b5, 5, none⟩) (Below.heap_setCell wb ⟨gT, 1, none⟩ _ b5 hne)).trans hHeld) (fun hHeld => ?_)
    clear hK K
    try simp only [rtPr, Act.put]
    refine wpAnyH_done (by kernel_rfl) ?_ _
    have hfin : OdS wA (wb.setCell ⟨gT, 1, none⟩ (.slice A9 (1 + l1.length) c9)) b5 (A + 6) (100 * Y) (K + 20) := by
     have h1 := ((HO9.out.grow HEb.out).more (K' := K + 20) (by omega)).setT (j := 0) (r := 1) rfl hz (.inl rfl) (x := (.slice A9 (1 + l1.length) c9)) ⟨n :: l1, by simp; omega, .inr HOW.out⟩
     rw [show 0 * 3 + 1 = 1 from rfl] at h1
     exact h1.fin (by omega) (by omega) (by omega)
    clear hHeld m5 hsc hsf hcT1
    have HFN := Lib.hid hfin
    clear hfin
    go_upto_region 29 with fail
    generalize wb.setCell ⟨gT, 1, none⟩ (.slice A9 (1 + l1.length) c9) = wc at *
    have hfin := HFN.out
    try clear HO9
    obtain ⟨m', vF', vU', vT', hbk, hmz, hob, hext⟩ := hfin
    have HMZ := Lib.hid hmz
    have HOB' := Lib.hid hob
    have HEX := Lib.hid hext
    obtain ⟨f', u', t', e', ⟨_, ⟨A1, c1, rfl, -⟩, -⟩, ⟨A2, c2, rfl, -⟩, ⟨_, ⟨A3, c3, rfl, -⟩, -⟩⟩ := hmz
    injection e' with e'
    injection e' with e'
    simp only [List.cons.injEq, and_true, true_and] at e'
    obtain ⟨rfl, rfl, rfl⟩ := e'
    have m0 : wc.cell? ⟨b5, 0, none⟩ = some (.int .i64 m'.w) := hbk.cell (k := 0) rfl
    have m1 : wc.cell? ⟨b5, 1, none⟩ = some (.int .i64 m'.h) := hbk.cell (k := 1) rfl
    have m2 : wc.cell? ⟨b5, 2, none⟩ = some (.int .i64 m'.l) := hbk.cell (k := 2) rfl
    have m3 : wc.cell? ⟨b5, 3, none⟩ = some (.slice A1 m'.free.length c1) := hbk.cell (k := 3) rfl
    have m4 : wc.cell? ⟨b5, 4, none⟩ = some (.slice A2 m'.up.length c2) := hbk.cell (k := 4) rfl
    have m5 : wc.cell? ⟨b5, 5, none⟩ = some (.slice A3 m'.tasks.length c3) := hbk.cell (k := 5) rfl
    have hBZ : Blk wc b4 31 #[.int .i64 0, .int .i64 0, .int .i64 0, .slice none 0 0, .slice none 0 0, .slice none 0 0] := HB4.out.ext hext
    have z0 : wc.cell? ⟨b4, 0, none⟩ = some (.int .i64 0) := hBZ.cell (k := 0) rfl
    have z1 : wc.cell? ⟨b4, 1, none⟩ = some (.int .i64 0) := hBZ.cell (k := 1) rfl
    have z2 : wc.cell? ⟨b4, 2, none⟩ = some (.int .i64 0) := hBZ.cell (k := 2) rfl
    have z3 : wc.cell? ⟨b4, 3, none⟩ = some (.slice none 0 0) := hBZ.cell (k := 3) rfl
    have z4 : wc.cell? ⟨b4, 4, none⟩ = some (.slice none 0 0) := hBZ.cell (k := 4) rfl
    have z5 : wc.cell? ⟨b4, 5, none⟩ = some (.slice none 0 0) := hBZ.cell (k := 5) rfl
    have hfz : ∀ j, wc.frozen? ⟨b4, j, none⟩ = false := fun j => hBZ.frozen j
    have HBZ := Lib.hid hBZ
    clear hbk hob hext hBZ
    go_wp2_with fail
    refine case_fin (P := fun W => bodyPost Try.prog Try.f13 (OddPost w (A + 6) (100 * Y) (K + 20)) Exit.ret _ W) (g2 := b4) ?_ HBZ.out
    intro WZ hbz hEb hk
    have y0 : WZ.cell? ⟨b4, 0, none⟩ = some (.int .i64 m'.w) := hbz.cell (k := 0) rfl
    have y1 : WZ.cell? ⟨b4, 1, none⟩ = some (.int .i64 m'.h) := hbz.cell (k := 1) rfl
    have y2 : WZ.cell? ⟨b4, 2, none⟩ = some (.int .i64 m'.l) := hbz.cell (k := 2) rfl
    have y3 : WZ.cell? ⟨b4, 3, none⟩ = some (.slice A1 m'.free.length c1) := hbz.cell (k := 3) rfl
    have y4 : WZ.cell? ⟨b4, 4, none⟩ = some (.slice A2 m'.up.length c2) := hbz.cell (k := 4) rfl
    have y5 : WZ.cell? ⟨b4, 5, none⟩ = some (.slice A3 m'.tasks.length c3) := hbz.cell (k := 5) rfl
    exact bodyPost_ret (v := .agg #[.int .i64 m'.w, .int .i64 m'.h, .int .i64 m'.l, .slice A1 m'.free.length c1, .slice A2 m'.up.length c2, .slice A3 m'.tasks.length c3]) (by simp [results, Try.results13, go_sem, y0, y1, y2, y3, y4, y5]) rfl
     ⟨_, m', rfl, Below.trans (HEA.out.trans HEX.out) (hEb.mono HBS.out.2.2.1), (HMZ.out.keep (w' := WZ) (fun b hb hlt => hk b hlt (by have := HBS.out.2.2.2; omega))).weaken (fun _ _ => trivial), HOB'.out⟩
   exact AllReadyH.nil
 ·have m5 : w9.cell? ⟨b5, 5, none⟩ = some (.slice AT m.tasks.length cT) := HO9.out.blk.cell (k := 5) rfl
  rcases Nat.eq_zero_or_pos m.tasks.length with hz | hz
  ·have hz1 : decide ((0 : Int) < (m.tasks.length : Int)) = false := decide_eq_false (by omega)
   have hz2 : decide (0 < m.tasks.length) = false := decide_eq_false (by omega)
   have hfin := (HO9.out.more (K' := K + 20) (by omega)).fin (A := A + 6) (Y := 100 * Y) (by omega) (by omega) (by omega)
   clear hz
   have HFN := Lib.hid hfin
   clear hfin
   go_upto_region 29 with fail
   clear m5
   generalize w9 = wc at *
   have hfin := HFN.out
   try clear HO9
   obtain ⟨m', vF', vU', vT', hbk, hmz, hob, hext⟩ := hfin
   have HMZ := Lib.hid hmz
   have HOB' := Lib.hid hob
   have HEX := Lib.hid hext
   obtain ⟨f', u', t', e', ⟨_, ⟨A1, c1, rfl, -⟩, -⟩, ⟨A2, c2, rfl, -⟩, ⟨_, ⟨A3, c3, rfl, -⟩, -⟩⟩ := hmz
   injection e' with e'
   injection e' with e'
   simp only [List.cons.injEq, and_true, true_and] at e'
   obtain ⟨rfl, rfl, rfl⟩ := e'
   have m0 : wc.cell? ⟨b5, 0, none⟩ = some (.int .i64 m'.w) := hbk.cell (k := 0) rfl
   have m1 : wc.cell? ⟨b5, 1, none⟩ = some (.int .i64 m'.h) := hbk.cell (k := 1) rfl
   have m2 : wc.cell? ⟨b5, 2, none⟩ = some (.int .i64 m'.l) := hbk.cell (k := 2) rfl
   have m3 : wc.cell? ⟨b5, 3, none⟩ = some (.slice A1 m'.free.length c1) := hbk.cell (k := 3) rfl
   have m4 : wc.cell? ⟨b5, 4, none⟩ = some (.slice A2 m'.up.length c2) := hbk.cell (k := 4) rfl
   have m5 : wc.cell? ⟨b5, 5, none⟩ = some (.slice A3 m'.tasks.length c3) := hbk.cell (k := 5) rfl
   have hBZ : Blk wc b4 31 #[.int .i64 0, .int .i64 0, .int .i64 0, .slice none 0 0, .slice none 0 0, .slice none 0 0] := HB4.out.ext hext
   have z0 : wc.cell? ⟨b4, 0, none⟩ = some (.int .i64 0) := hBZ.cell (k := 0) rfl
   have z1 : wc.cell? ⟨b4, 1, none⟩ = some (.int .i64 0) := hBZ.cell (k := 1) rfl
   have z2 : wc.cell? ⟨b4, 2, none⟩ = some (.int .i64 0) := hBZ.cell (k := 2) rfl
   have z3 : wc.cell? ⟨b4, 3, none⟩ = some (.slice none 0 0) := hBZ.cell (k := 3) rfl
   have z4 : wc.cell? ⟨b4, 4, none⟩ = some (.slice none 0 0) := hBZ.cell (k := 4) rfl
   have z5 : wc.cell? ⟨b4, 5, none⟩ = some (.slice none 0 0) := hBZ.cell (k := 5) rfl
   have hfz : ∀ j, wc.frozen? ⟨b4, j, none⟩ = false := fun j => hBZ.frozen j
   have HBZ := Lib.hid hBZ
   clear hbk hob hext hBZ
   go_wp2_with fail
   refine case_fin (P := fun W => bodyPost Try.prog Try.f13 (OddPost w (A + 6) (100 * Y) (K + 20)) Exit.ret _ W) (g2 := b4) ?_ HBZ.out
   intro WZ hbz hEb hk
   have y0 : WZ.cell? ⟨b4, 0, none⟩ = some (.int .i64 m'.w) := hbz.cell (k := 0) rfl
   have y1 : WZ.cell? ⟨b4, 1, none⟩ = some (.int .i64 m'.h) := hbz.cell (k := 1) rfl
   have y2 : WZ.cell? ⟨b4, 2, none⟩ = some (.int .i64 m'.l) := hbz.cell (k := 2) rfl
   have y3 : WZ.cell? ⟨b4, 3, none⟩ = some (.slice A1 m'.free.length c1) := hbz.cell (k := 3) rfl
   have y4 : WZ.cell? ⟨b4, 4, none⟩ = some (.slice A2 m'.up.length c2) := hbz.cell (k := 4) rfl
   have y5 : WZ.cell? ⟨b4, 5, none⟩ = some (.slice A3 m'.tasks.length c3) := hbz.cell (k := 5) rfl
   exact bodyPost_ret (v := .agg #[.int .i64 m'.w, .int .i64 m'.h, .int .i64 m'.l, .slice A1 m'.free.length c1, .slice A2 m'.up.length c2, .slice A3 m'.tasks.length c3]) (by simp [results, Try.results13, go_sem, y0, y1, y2, y3, y4, y5]) rfl
    ⟨_, m', rfl, Below.trans (HEA.out.trans HEX.out) (hEb.mono HBS.out.2.2.1), (HMZ.out.keep (w' := WZ) (fun b hb hlt => hk b hlt (by have := HBS.out.2.2.2; omega))).weaken (fun _ _ => trivial), HOB'.out⟩
  ·have hz1 : decide ((0 : Int) < (m.tasks.length : Int)) = true := decide_eq_true (by omega)
   have hz2 : decide (0 < m.tasks.length) = true := decide_eq_true hz
   obtain ⟨gT, cT', e, hgTB, -⟩ := World.ownsRow.form HO9.out.T hz
   injection e with e1 e2 e3
   subst e1 e3
   clear e2
   obtain ⟨hgT1, hgT2⟩ := HO9.out.T.lt gT rfl
   have hcap := own_cap HO9.out.T
   obtain ⟨csT, hbT⟩ := own_blkB HO9.out.T
   have hne : b5 ≠ gT := Blk.ne_ HO9.out.blk hbT (by decide)
   have hl5 : b5 < w9.heap.size := lt_of_some HO9.out.blk
   obtain ⟨s, u1, u2, t0, t1, t2, ⟨l1, hkl1, ht1⟩, ⟨l2, hkl2, ht2⟩⟩ := HO9.out.td 0 hz
   have hq0 : (0 : Int) < (m.tasks.length : Int) := by omega
   have hcT1 : w9.cell? ⟨gT, 1, none⟩ = some u1 := (HO9.out.T.cellAt 1 (by omega)).trans t1
   have hcT2 : w9.cell? ⟨gT, 2, none⟩ = some u2 := (HO9.out.T.cellAt 2 (by omega)).trans t2
   have hfT : ∀ j, w9.frozen? ⟨gT, j, none⟩ = false := fun j => HO9.out.T.frozenAt j
   have HHF := Lib.hid hfT
   have HHC := Lib.hid hcT2
   clear t0 t1 t2 ht1 ht2 hcT1 hcT2 hfT hbT
   have hp1 := prodB ⟨hw0, hw1⟩ ⟨hh0, hh1⟩ hA0 hY0
   have hp2 := prodB hp1 ⟨hl0, hl1⟩ (Int.mul_nonneg hA0 hY0) hA0
   have hp3 : A * Y ≤ 100000 := by
    have := Int.mul_le_mul hA1 hY1 hY0 (by omega)
    omega
   have hp4 : A * Y * A ≤ 10000000 := by
    have := Int.mul_le_mul hp3 hA1 hA0 (by omega)
    omega
   have HND : Hid (∀ W, Calls Try.prog 48 #[.agg #[.int .i64 m.w, .int .i64 m.h, .int .i64 m.l, .slice Af m.free.length cf, .slice Au m.up.length cu, .slice At m.tasks.length ct]] W fun e w' => e = .returned (.int .i64 (m.w * m.h * m.l)) ∧ Below W.heap.size W w') := fun W => qnodes_calls m.w m.h m.l _ _ _ W (by omega) (by omega)
   have hpw : IntKind.i64.wrap (m.w * m.h * m.l + n) = m.w * m.h * m.l + n := by rw [IntKind.wrap_i64]; omega
   clear hp1 hp2 hp3 hp4
   go_wp2_with fail
   refine wp_region_held_drew (S := (fun W => Ext wA W ∧ W.cell? ⟨b5, 5, none⟩ = some (.slice (some ⟨gT, 0, none⟩) m.tasks.length cT))) mixedA ⟨hx9.drew, m5⟩ (fun hHeld => ?_)
   refine wpAnyH_take (i := 0) (v := ?v35) rfl (by kernel_rfl) (by kernel_rfl) (by kernel_rfl) (fun _ _ _ h => h) (Or.inl ⟨?w35, ?y35⟩) hHeld ?r35
   case w35 => rfl
   case y35 => (intro w hSw; go_simp; try with_reducible rfl)
   simp only [rtPr, Act.put]
   refine wpAnyH_take (i := 1) (v := ?v36) rfl (by kernel_rfl) (by kernel_rfl) (by kernel_rfl) (fun _ _ _ h => h) (Or.inl ⟨?w36, ?y36⟩) hHeld ?r36
   case w36 => rfl
   case y36 => (intro w hSw; go_simp; try with_reducible rfl)
   simp only [rtPr, Act.put]
   refine wpAnyH_take (i := 2) (v := ?v37) rfl (by kernel_rfl) (by kernel_rfl) (by kernel_rfl) (fun _ _ _ h => h) (Or.inl ⟨?w37, ?y37⟩) hHeld ?r37
   case w37 => rfl
   case y37 => (intro w hSw; go_simp; try with_reducible rfl)
   simp only [rtPr, Act.put]
   refine wpAnyH_take (i := 4) (v := ?v38) rfl (by kernel_rfl) (by kernel_rfl) (by kernel_rfl) (fun _ _ _ h => h) (Or.inl ⟨?w38, ?y38⟩) hHeld ?r38
   case w38 => rfl
   case y38 => (intro w hSw; go_simp; try with_reducible rfl)
   simp only [rtPr, Act.put]
   refine wpAnyH_ready (rs := [3]) (by kernel_rfl) (by simp) ?_
   refine AllReadyH.cons rfl (fun K hK => ?_) AllReadyH.nil
   go_simp
   go_at_call 48
   refine (HND.out _).mono ?_
   rintro e wn ⟨rfl, hbn⟩
   have hEn : Ext w9 wn := Below.trans (Ext.refl w9).drew hbn
   have HEn := Lib.hid hEn
   clear hbn hEn
   go_simp
   refine hK.out _ _ (⟨hx9.trans HEn.out, HEn.out.cell m5⟩) (fun hHeld => ?_)
   clear hK K
   try simp only [rtPr, Act.put]
   refine wpAnyH_take (i := 5) (v := ?v39) rfl (by kernel_rfl) (by kernel_rfl) (by kernel_rfl) (fun _ _ _ h => h) (Or.inl ⟨?w39, ?y39⟩) hHeld ?r39
   case w39 => rfl
   case y39 => (intro w hSw; go_simp; try with_reducible rfl)
   simp only [rtPr, Act.put]
   refine wpAnyH_ready (rs := [6]) (by kernel_rfl) (by simp) ?_
   refine AllReadyH.cons rfl (fun K hK => ?_) AllReadyH.nil
   go_simp
   refine hK.out _ _ (⟨hHeld.1.alloc _, Ext.cell hHeld.2 ((Ext.refl wn).alloc _)⟩) (fun hHeld => ?_)
   clear hK K
   try simp only [rtPr, Act.put]
   have HEb : Hid (Ext w9 (wn.alloc (.cells #[.int .i64 (m.w * m.h * m.l + n)] 3))) := HEn.out.alloc _
   have HOW : Hid (OwnI (wn.alloc (.cells #[.int .i64 (m.w * m.h * m.l + n)] 3)) wA.heap.size (.slice (some ⟨wn.heap.size, 0, none⟩) 1 1) [m.w * m.h * m.l + n]) := own_one wn wA.heap.size 3 _ (Nat.le_trans hx9.size HEn.out.size)
   generalize hwb : wn.alloc (.cells #[.int .i64 (m.w * m.h * m.l + n)] 3) = wb at *
   generalize wn.heap.size = gn at *
   clear hwb
   refine wpAnyH_take (i := 7) (v := ?v40) rfl (by kernel_rfl) (by kernel_rfl) (by kernel_rfl) (fun _ _ _ h => h) (Or.inl ⟨?w40, ?y40⟩) hHeld ?r40
   case w40 => rfl
   case y40 => (intro w hSw; go_simp; try with_reducible rfl)
   simp only [rtPr, Act.put]
   refine wpAnyH_take (i := 8) (v := ?v41) rfl (by kernel_rfl) (by kernel_rfl) (by kernel_rfl) (fun _ _ _ h => h) (Or.inl ⟨?w41, ?y41⟩) hHeld ?r41
   case w41 => rfl
   case y41 => (intro w hSw; go_simp; try with_reducible rfl)
   simp only [rtPr, Act.put]
   refine wpAnyH_ready (rs := [9]) (by kernel_rfl) (by simp) ?_
   refine AllReadyH.cons rfl (fun K hK => ?_) AllReadyH.nil
   have hsc : wb.cell? ⟨gT, 2, none⟩ = some u2 := HEb.out.cell HHC.out
   have hsf : wb.frozen? ⟨gT, 2, none⟩ = false := (World.frozen?_of_block (a := ⟨gT, 2, none⟩) (HEb.out.block gT hgT2)).trans (HHF.out 2)
   go_simp
   refine hK.out _ _ (⟨hHeld.1.setCell (p := ⟨gT, 2, none⟩) (show wA.heap.size ≤ gT by omega) _, (World.cell?_of_block (a := ⟨b5, 5, none⟩) (Below.heap_setCell wb ⟨gT, 2, none⟩ _ b5 hne)).trans hHeld.2⟩) (fun hHeld => ?_)
   clear hK K
   try simp only [rtPr, Act.put]
   refine wpAnyH_done (by kernel_rfl) ?_ _
   have hfin : OdS wA (wb.setCell ⟨gT, 2, none⟩ (.slice (some ⟨gn, 0, none⟩) 1 1)) b5 (A + 6) (100 * Y) (K + 20) := by
    have h1 := ((HO9.out.grow HEb.out).more (K' := K + 20) (by omega)).setT (j := 0) (r := 2) rfl hz (.inr rfl) (x := (.slice (some ⟨gn, 0, none⟩) 1 1)) ⟨_, by simp, .inr HOW.out⟩
    rw [show 0 * 3 + 2 = 2 from rfl] at h1
    exact h1.fin (by omega) (by omega) (by omega)
   clear hHeld m5 hsc hsf
   have HFN := Lib.hid hfin
   clear hfin
   go_upto_region 29 with fail
   generalize wb.setCell ⟨gT, 2, none⟩ (.slice (some ⟨gn, 0, none⟩) 1 1) = wc at *
   have hfin := HFN.out
   try clear HO9
   obtain ⟨m', vF', vU', vT', hbk, hmz, hob, hext⟩ := hfin
   have HMZ := Lib.hid hmz
   have HOB' := Lib.hid hob
   have HEX := Lib.hid hext
   obtain ⟨f', u', t', e', ⟨_, ⟨A1, c1, rfl, -⟩, -⟩, ⟨A2, c2, rfl, -⟩, ⟨_, ⟨A3, c3, rfl, -⟩, -⟩⟩ := hmz
   injection e' with e'
   injection e' with e'
   simp only [List.cons.injEq, and_true, true_and] at e'
   obtain ⟨rfl, rfl, rfl⟩ := e'
   have m0 : wc.cell? ⟨b5, 0, none⟩ = some (.int .i64 m'.w) := hbk.cell (k := 0) rfl
   have m1 : wc.cell? ⟨b5, 1, none⟩ = some (.int .i64 m'.h) := hbk.cell (k := 1) rfl
   have m2 : wc.cell? ⟨b5, 2, none⟩ = some (.int .i64 m'.l) := hbk.cell (k := 2) rfl
   have m3 : wc.cell? ⟨b5, 3, none⟩ = some (.slice A1 m'.free.length c1) := hbk.cell (k := 3) rfl
   have m4 : wc.cell? ⟨b5, 4, none⟩ = some (.slice A2 m'.up.length c2) := hbk.cell (k := 4) rfl
   have m5 : wc.cell? ⟨b5, 5, none⟩ = some (.slice A3 m'.tasks.length c3) := hbk.cell (k := 5) rfl
   have hBZ : Blk wc b4 31 #[.int .i64 0, .int .i64 0, .int .i64 0, .slice none 0 0, .slice none 0 0, .slice none 0 0] := HB4.out.ext hext
   have z0 : wc.cell? ⟨b4, 0, none⟩ = some (.int .i64 0) := hBZ.cell (k := 0) rfl
   have z1 : wc.cell? ⟨b4, 1, none⟩ = some (.int .i64 0) := hBZ.cell (k := 1) rfl
   have z2 : wc.cell? ⟨b4, 2, none⟩ = some (.int .i64 0) := hBZ.cell (k := 2) rfl
   have z3 : wc.cell? ⟨b4, 3, none⟩ = some (.slice none 0 0) := hBZ.cell (k := 3) rfl
   have z4 : wc.cell? ⟨b4, 4, none⟩ = some (.slice none 0 0) := hBZ.cell (k := 4) rfl
   have z5 : wc.cell? ⟨b4, 5, none⟩ = some (.slice none 0 0) := hBZ.cell (k := 5) rfl
   have hfz : ∀ j, wc.frozen? ⟨b4, j, none⟩ = false := fun j => hBZ.frozen j
   have HBZ := Lib.hid hBZ
   clear hbk hob hext hBZ
   go_wp2_with fail
   refine case_fin (P := fun W => bodyPost Try.prog Try.f13 (OddPost w (A + 6) (100 * Y) (K + 20)) Exit.ret _ W) (g2 := b4) ?_ HBZ.out
   intro WZ hbz hEb hk
   have y0 : WZ.cell? ⟨b4, 0, none⟩ = some (.int .i64 m'.w) := hbz.cell (k := 0) rfl
   have y1 : WZ.cell? ⟨b4, 1, none⟩ = some (.int .i64 m'.h) := hbz.cell (k := 1) rfl
   have y2 : WZ.cell? ⟨b4, 2, none⟩ = some (.int .i64 m'.l) := hbz.cell (k := 2) rfl
   have y3 : WZ.cell? ⟨b4, 3, none⟩ = some (.slice A1 m'.free.length c1) := hbz.cell (k := 3) rfl
   have y4 : WZ.cell? ⟨b4, 4, none⟩ = some (.slice A2 m'.up.length c2) := hbz.cell (k := 4) rfl
   have y5 : WZ.cell? ⟨b4, 5, none⟩ = some (.slice A3 m'.tasks.length c3) := hbz.cell (k := 5) rfl
   exact bodyPost_ret (v := .agg #[.int .i64 m'.w, .int .i64 m'.h, .int .i64 m'.l, .slice A1 m'.free.length c1, .slice A2 m'.up.length c2, .slice A3 m'.tasks.length c3]) (by simp [results, Try.results13, go_sem, y0, y1, y2, y3, y4, y5]) rfl
    ⟨_, m', rfl, Below.trans (HEA.out.trans HEX.out) (hEb.mono HBS.out.2.2.1), (HMZ.out.keep (w' := WZ) (fun b hb hlt => hk b hlt (by have := HBS.out.2.2.2; omega))).weaken (fun _ _ => trivial), HOB'.out⟩
 ·have H0 : Hid (OS wA w9 wA.heap.size b5 m.free.length m.tasks.length (K + 20) m.w m.h m.l (.slice AF m.free.length cF) (.slice Au m.up.length cu) (.slice AT m.tasks.length cT) vsf vst) := HO9.out.more (by omega)
  have hp1 := prodB ⟨hw0, hw1⟩ ⟨hh0, hh1⟩ hA0 hY0
  have hp2 := prodB hp1 ⟨hl0, hl1⟩ (Int.mul_nonneg hA0 hY0) hA0
  have hp3 : A * Y ≤ 100000 := by
   have := Int.mul_le_mul hA1 hY1 hY0 (by omega)
   omega
  have hp4 : A * Y * A ≤ 10000000 := by
   have := Int.mul_le_mul hp3 hA1 hA0 (by omega)
   omega
  have HND : Hid (∀ W, Calls Try.prog 48 #[.agg #[.int .i64 m.w, .int .i64 m.h, .int .i64 m.l, .slice Af m.free.length cf, .slice Au m.up.length cu, .slice At m.tasks.length ct]] W fun e w' => e = .returned (.int .i64 (m.w * m.h * m.l)) ∧ Below W.heap.size W w') := fun W => qnodes_calls m.w m.h m.l _ _ _ W (by omega) (by omega)
  clear hp1 hp2 hp3 hp4 HO9 hx9
  go_wp2_with fail
  go_loopg [7] 8 (fun gk v wr => ∃ (k nF nT : Nat) (vF vT : Value) (fs ts : List Value), v = .int .i64 k ∧ k ≤ 8 ∧ gk = 8 - k ∧ nF ≤ K + k ∧ nT ≤ K + k ∧ Hid (OS wA wr wA.heap.size b5 nF nT (K + 20) m.w m.h m.l vF (.slice Au m.up.length cu) vT fs ts))
  case atStart => exact ⟨0, _, _, _, _, _, _, rfl, by omega, rfl, by omega, by omega, H0.out⟩
  clear H0
  case round =>
   obtain ⟨k, nF, nT, vF, vT, fs, ts, rfl, hk8, rfl, hnF, hnT, hQ⟩ := hrel
   obtain ⟨wr9, rfl⟩ : ∃ wr9 : World, wr9 = wr := ⟨_, rfl⟩
   have hnw4 : IntKind.i64.wrap (4 + n) = 4 + n := by rw [IntKind.wrap_i64]; omega
   rcases Int.lt_or_le (k : Int) (4 + n) with hlt | hge
   ·have hd1 : decide ((k : Int) < 4 + n) = true := decide_eq_true hlt
    have hx9 : Ext wA wr9 := hQ.out.ext
    have c5 : wr9.cell? ⟨b5, 5, none⟩ = some vT := hQ.out.blk.cell (k := 5) rfl
    obtain ⟨AT2, cT2, rfl, -⟩ := Row.of_own hQ.out.T
    go_wp2_with (at_builtin; refine wpList_append_row (ok := fun _ => True) rfl _ _ _ eTask rfl wA.heap.size nT 1 ts [.string ⟨#[]⟩, .slice none 0 0, .slice none 0 0] _ _ rfl rfl (hQ.out.T.alloc _) (row3 wr9 _ _ _ _) (by simp [Value.oneCell']) (Nat.le_trans hx9.size (by simp)) (by unfold maxLen; omega) (by omega) ?_)
    intro vT' w5 hoT hgT hvT
    clear hvT
    have hOT := hQ.out.addT hoT hgT (by omega) (fun w2 hk hs j hj => by
     have hlen : ts.length = nT * 3 := hQ.out.T.1
     rcases Nat.lt_or_ge j nT with h1 | h1
     ·obtain ⟨s, u1, u2, h2, h3, h4, h5, h6⟩ := hQ.out.td.keep hk j h1
      exact ⟨s, u1, u2, by rw [List.getElem?_append_left (by omega)]; exact h2, by rw [List.getElem?_append_left (by omega)]; exact h3, by rw [List.getElem?_append_left (by omega)]; exact h4, h5, h6⟩
     ·obtain rfl : j = nT := by omega
      exact ⟨⟨#[]⟩, .slice none 0 0, .slice none 0 0, by rw [List.getElem?_append_right (by omega), show j * 3 - ts.length = 0 from by omega]; rfl, by rw [List.getElem?_append_right (by omega), show j * 3 + 1 - ts.length = 1 from by omega]; rfl, by rw [List.getElem?_append_right (by omega), show j * 3 + 2 - ts.length = 2 from by omega]; rfl, ⟨[], Nat.zero_le _, .inl (Ints.nil _ _)⟩, ⟨[], Nat.zero_le _, .inl (Ints.nil _ _)⟩⟩)
    have hb5w : w5.heap[b5]? = wr9.heap[b5]? := (hgT.block b5 (by have := lt_of_some hQ.out.blk; simp; omega) (fun e => own_blk_ne hQ.out.T hQ.out.blk (by decide) e.symm)).trans (Below.heap_alloc _ _ _ (lt_of_some hQ.out.blk))
    have c5' : w5.cell? ⟨b5, 5, none⟩ = some (.slice AT2 nT cT2) := (World.cell?_of_block (a := ⟨b5, 5, none⟩) hb5w).trans c5
    have f5' : w5.frozen? ⟨b5, 5, none⟩ = false := (World.frozen?_of_block (a := ⟨b5, 5, none⟩) hb5w).trans (hQ.out.blk.frozen 5)
    have HOT2 := Lib.hid hOT
    obtain ⟨AT3, cT3, rfl, -⟩ := Row.of_own hoT
    clear hOT hoT hgT hb5w c5
    go_upto_region 28 with fail
    clear c5' f5'
    generalize w5.setCell ⟨b5, 5, none⟩ (.slice AT3 (nT + 1) cT3) = wq at *
    have hxq : Ext wA wq := HOT2.out.ext
    have c3 : wq.cell? ⟨b5, 3, none⟩ = some vF := HOT2.out.blk.cell (k := 3) rfl
    have hf3 : wq.frozen? ⟨b5, 3, none⟩ = false := HOT2.out.blk.frozen 3
    obtain ⟨AF2, cF2, rfl, -⟩ := Row.of_own HOT2.out.F
    clear hx9
    obtain ⟨N, hN⟩ : ∃ N : Nat, (N : Int) = min 300 (max 0 (m.w * m.h * m.l)) := ⟨(min 300 (max 0 (m.w * m.h * m.l))).toNat, by omega⟩
    have hN3 : N ≤ 300 := by omega
    have hmk : ∀ W : World, (Instr.makeSlice 28 (.int .i64 (min 300 (max 0 (m.w * m.h * m.l)))) (.int .i64 (min 300 (max 0 (m.w * m.h * m.l))))).run Try.prog W = .ok (.slice (some ⟨W.heap.size, 0, none⟩) N N) (W.alloc (.cells (madeCells #[.bool false] N) 4)) := fun W => by
     rw [← hN]
     exact run_make_row' 28 4 (.bool false) 1 Try.underlying28 Try.infoBool rfl .i64 .i64 N (by omega) (by omega) W
    have HN := Lib.hid hN
    clear hN
    go_wp2_with fail
    have HEq : Hid (Ext wq wq.drew) := (Ext.refl wq).drew
    refine wp_region_held_drew (S := fun W => Ext wA W) mixedA hxq.drew (fun hHeld => ?_)
    refine wpAnyH_take (i := 0) (v := ?v1) rfl (by kernel_rfl) (by kernel_rfl) (by kernel_rfl) (fun _ _ _ h => h) (Or.inl ⟨?w1, ?y1⟩) hHeld ?r1
    case w1 => rfl
    case y1 => (intro w hSw; go_simp; try with_reducible rfl)
    simp only [rtPr, Act.put]
    refine wpAnyH_take (i := 2) (v := ?v2) rfl (by kernel_rfl) (by kernel_rfl) (by kernel_rfl) (fun _ _ _ h => h) (Or.inl ⟨?w2, ?y2⟩) hHeld ?r2
    case w2 => rfl
    case y2 => (intro w hSw; go_simp; try with_reducible rfl)
    simp only [rtPr, Act.put]
    refine wpAnyH_ready (rs := [1, 3]) (by kernel_rfl) (by simp) ?_
    refine AllReadyH.cons rfl (fun K hK => ?_) ?_
    ·have hcl : wq.drew.cell? ⟨b5, 3, none⟩ = some (.slice AF2 nF cF2) := HEq.out.cell c3
     go_simp
     clear hcl
     refine hK.out _ _ (hHeld) (fun hHeld => ?_)
     clear hK K
     try simp only [rtPr, Act.put]
     refine wpAnyH_ready (rs := [3]) (by kernel_rfl) (by simp) ?_
     refine AllReadyH.cons rfl (fun K hK => ?_) ?_
     ·go_simp
      go_at_call 48
      refine (HND.out _).mono ?_
      rintro e wn4 ⟨rfl, hbn4⟩
      have HEn4 : Hid (Ext wq wn4) := Ext.trans HEq.out hbn4
      clear hbn4
      go_simp
      refine hK.out _ _ (hxq.trans HEn4.out) (fun hHeld => ?_)
      clear hK K
      try simp only [rtPr, Act.put]
      refine wpAnyH_take (i := 4) (v := ?v5) rfl (by kernel_rfl) (by kernel_rfl) (by kernel_rfl) (fun _ _ _ h => h) (Or.inl ⟨?w5, ?y5⟩) hHeld ?r5
      case w5 => rfl
      case y5 => (intro w hSw; go_simp; try with_reducible rfl)
      simp only [rtPr, Act.put]
      refine wpAnyH_take (i := 5) (v := ?v6) rfl (by kernel_rfl) (by kernel_rfl) (by kernel_rfl) (fun _ _ _ h => h) (Or.inl ⟨?w6, ?y6⟩) hHeld ?r6
      case w6 => rfl
      case y6 => (intro w hSw; go_simp; try with_reducible rfl)
      simp only [rtPr, Act.put]
      refine wpAnyH_ready (rs := [6]) (by kernel_rfl) (by simp) ?_
      refine AllReadyH.cons rfl (fun K hK => ?_) ?_
      ·go_simp
       refine hK.out _ _ (hHeld.alloc _) (fun hHeld => ?_)
       clear hK K
       try simp only [rtPr, Act.put]
       obtain ⟨g7, hg7⟩ : ∃ g, g = wn4.heap.size := ⟨_, rfl⟩
       have HOB7 : Hid (OS wA (wn4.alloc (.cells (madeCells #[.bool false] N) 4)) wA.heap.size b5 nF (nT + 1) (K + 20) m.w m.h m.l (.slice AF2 nF cF2) (.slice Au m.up.length cu) (.slice AT3 (nT + 1) cT3) fs (ts ++ [.string ⟨#[]⟩, .slice none 0 0, .slice none 0 0]) ∧ OwnB (wn4.alloc (.cells (madeCells #[.bool false] N) 4)) wA.heap.size (.slice (some ⟨g7, 0, none⟩) N N) (List.replicate N false)) := ⟨HOT2.out.grow (HEn4.out.alloc _), by rw [hg7]; exact own_made wn4 wA.heap.size N (Nat.le_trans hxq.size HEn4.out.size) (by omega)⟩
       have HEm7 : Hid (Ext wq (wn4.alloc (.cells (madeCells #[.bool false] N) 4))) := HEn4.out.alloc _
       rw [← hg7]
       clear hg7
       generalize wn4.alloc (.cells (madeCells #[.bool false] N) 4) = wm7 at *
       refine wpAnyH_ready (rs := [7]) (by kernel_rfl) (by simp) ?_
       refine AllReadyH.cons rfl (fun K hK => ?_) ?_
       ·go_simp
        refine hK.out _ _ (hHeld.alloc _) (fun hHeld => ?_)
        clear hK K
        try simp only [rtPr, Act.put]
        have HEs8 : Hid (Ext wq (wm7.alloc (.cells #[.slice (some ⟨g7, 0, none⟩) N N] 28))) := HEm7.out.alloc _
        refine wpAnyH_ready (rs := [8]) (by kernel_rfl) (by simp) ?_
        refine AllReadyH.cons rfl (fun K hK => ?_) AllReadyH.nil
        refine step_append_row (ok := fun _ => True) rfl _ _ _ eBools rfl wA.heap.size nF 1 fs [.slice (some ⟨g7, 0, none⟩) N N] _ _ rfl rfl ((HOB7.out.1.F).alloc _) ⟨_, _, rfl, Nat.le_refl _, RowA.block (Blk.new _ _ _ rfl) trivial rfl⟩ (by simp [Value.oneCell']) (Nat.le_trans HOB7.out.1.ext.size (by simp)) (by unfold maxLen; omega) (by omega) ?_
        intro vF9 w9 hoF hgF hvF
        clear hvF
        have hO9 := HOB7.out.1.addF hoF hgF (by omega) (fun w2 hk hs u hu => by
         rw [List.mem_singleton] at hu
         subst hu
         exact FI.keep ⟨_, .inr HOB7.out.2⟩ hk)
        have HO9 := Lib.hid hO9
        have hb5w : w9.heap[b5]? = wm7.heap[b5]? := (hgF.block b5 (by have := lt_of_some HOB7.out.1.blk; simp; omega) (fun e => own_blk_ne HOB7.out.1.F HOB7.out.1.blk (by decide) e.symm)).trans (Below.heap_alloc _ _ _ (lt_of_some HOB7.out.1.blk))
        have c39 : w9.cell? ⟨b5, 3, none⟩ = some (.slice AF2 nF cF2) := (World.cell?_of_block (a := ⟨b5, 3, none⟩) hb5w).trans (HOB7.out.1.blk.cell (k := 3) rfl)
        have f39 : w9.frozen? ⟨b5, 3, none⟩ = false := (World.frozen?_of_block (a := ⟨b5, 3, none⟩) hb5w).trans (HOB7.out.1.blk.frozen 3)
        have hx9 : Ext wA w9 := (HOB7.out.1.ext.alloc _).grown hgF (Nat.le_trans HOB7.out.1.ext.size (by simp)) (fun k hk => (HOB7.out.1.F.lt k hk).1)
        obtain ⟨AF9, cF9, rfl, -⟩ := Row.of_own hoF
        have HX9 := Lib.hid hx9
        clear hO9 hoF hgF hb5w hx9
        refine hK.out _ _ (HX9.out) (fun hHeld => ?_)
        clear hK K
        try simp only [rtPr, Act.put]
        refine wpAnyH_take (i := 9) (v := ?v9) rfl (by kernel_rfl) (by kernel_rfl) (by kernel_rfl) (fun _ _ _ h => h) (Or.inl ⟨?w9, ?y9⟩) hHeld ?r9
        case w9 => rfl
        case y9 => (intro w hSw; go_simp; try with_reducible rfl)
        simp only [rtPr, Act.put]
        refine wpAnyH_ready (rs := [10]) (by kernel_rfl) (by simp) ?_
        refine AllReadyH.cons rfl (fun K hK => ?_) AllReadyH.nil
        go_simp
        refine hK.out _ _ (HX9.out.setCell (p := ⟨b5, 3, none⟩) (show wA.heap.size ≤ b5 from HO9.out.h5) _) (fun hHeld => ?_)
        clear hK K
        try simp only [rtPr, Act.put]
        refine wpAnyH_done (by kernel_rfl) ?_ _
        clear hHeld c39 f39 c3 hf3 hmk
        go_wp2_with fail
        go_roundg (8 - (k + 1))
        case measure => omega
        case rel => exact ⟨k + 1, nF + 1, nT + 1, _, _, _, _, by go_num, by omega, rfl, by omega, by omega, HO9.out⟩
       exact AllReadyH.nil
      exact AllReadyH.nil
     exact AllReadyH.nil
    refine AllReadyH.cons rfl (fun K hK => ?_) ?_
    ·go_simp
     go_at_call 48
     refine (HND.out _).mono ?_
     rintro e wn10 ⟨rfl, hbn10⟩
     have HEn10 : Hid (Ext wq wn10) := Ext.trans HEq.out hbn10
     clear hbn10
     go_simp
     refine hK.out _ _ (hxq.trans HEn10.out) (fun hHeld => ?_)
     clear hK K
     try simp only [rtPr, Act.put]
     refine wpAnyH_take (i := 4) (v := ?v11) rfl (by kernel_rfl) (by kernel_rfl) (by kernel_rfl) (fun _ _ _ h => h) (Or.inl ⟨?w11, ?y11⟩) hHeld ?r11
     case w11 => rfl
     case y11 => (intro w hSw; go_simp; try with_reducible rfl)
     simp only [rtPr, Act.put]
     refine wpAnyH_take (i := 5) (v := ?v12) rfl (by kernel_rfl) (by kernel_rfl) (by kernel_rfl) (fun _ _ _ h => h) (Or.inl ⟨?w12, ?y12⟩) hHeld ?r12
     case w12 => rfl
     case y12 => (intro w hSw; go_simp; try with_reducible rfl)
     simp only [rtPr, Act.put]
     refine wpAnyH_ready (rs := [1, 6]) (by kernel_rfl) (by simp) ?_
     refine AllReadyH.cons rfl (fun K hK => ?_) ?_
     ·have hcl : wn10.cell? ⟨b5, 3, none⟩ = some (.slice AF2 nF cF2) := HEn10.out.cell c3
      go_simp
      clear hcl
      refine hK.out _ _ (hHeld) (fun hHeld => ?_)
      clear hK K
      try simp only [rtPr, Act.put]
      refine wpAnyH_ready (rs := [6]) (by kernel_rfl) (by simp) ?_
      refine AllReadyH.cons rfl (fun K hK => ?_) ?_
      ·go_simp
       refine hK.out _ _ (hHeld.alloc _) (fun hHeld => ?_)
       clear hK K
       try simp only [rtPr, Act.put]
       obtain ⟨g14, hg14⟩ : ∃ g, g = wn10.heap.size := ⟨_, rfl⟩
       have HOB14 : Hid (OS wA (wn10.alloc (.cells (madeCells #[.bool false] N) 4)) wA.heap.size b5 nF (nT + 1) (K + 20) m.w m.h m.l (.slice AF2 nF cF2) (.slice Au m.up.length cu) (.slice AT3 (nT + 1) cT3) fs (ts ++ [.string ⟨#[]⟩, .slice none 0 0, .slice none 0 0]) ∧ OwnB (wn10.alloc (.cells (madeCells #[.bool false] N) 4)) wA.heap.size (.slice (some ⟨g14, 0, none⟩) N N) (List.replicate N false)) := ⟨HOT2.out.grow (HEn10.out.alloc _), by rw [hg14]; exact own_made wn10 wA.heap.size N (Nat.le_trans hxq.size HEn10.out.size) (by omega)⟩
       have HEm14 : Hid (Ext wq (wn10.alloc (.cells (madeCells #[.bool false] N) 4))) := HEn10.out.alloc _
       rw [← hg14]
       clear hg14
       generalize wn10.alloc (.cells (madeCells #[.bool false] N) 4) = wm14 at *
       refine wpAnyH_ready (rs := [7]) (by kernel_rfl) (by simp) ?_
       refine AllReadyH.cons rfl (fun K hK => ?_) ?_
       ·go_simp
        refine hK.out _ _ (hHeld.alloc _) (fun hHeld => ?_)
        clear hK K
        try simp only [rtPr, Act.put]
        have HEs15 : Hid (Ext wq (wm14.alloc (.cells #[.slice (some ⟨g14, 0, none⟩) N N] 28))) := HEm14.out.alloc _
        refine wpAnyH_ready (rs := [8]) (by kernel_rfl) (by simp) ?_
        refine AllReadyH.cons rfl (fun K hK => ?_) AllReadyH.nil
        refine step_append_row (ok := fun _ => True) rfl _ _ _ eBools rfl wA.heap.size nF 1 fs [.slice (some ⟨g14, 0, none⟩) N N] _ _ rfl rfl ((HOB14.out.1.F).alloc _) ⟨_, _, rfl, Nat.le_refl _, RowA.block (Blk.new _ _ _ rfl) trivial rfl⟩ (by simp [Value.oneCell']) (Nat.le_trans HOB14.out.1.ext.size (by simp)) (by unfold maxLen; omega) (by omega) ?_
        intro vF9 w9 hoF hgF hvF
        clear hvF
        have hO9 := HOB14.out.1.addF hoF hgF (by omega) (fun w2 hk hs u hu => by
         rw [List.mem_singleton] at hu
         subst hu
         exact FI.keep ⟨_, .inr HOB14.out.2⟩ hk)
        have HO9 := Lib.hid hO9
        have hb5w : w9.heap[b5]? = wm14.heap[b5]? := (hgF.block b5 (by have := lt_of_some HOB14.out.1.blk; simp; omega) (fun e => own_blk_ne HOB14.out.1.F HOB14.out.1.blk (by decide) e.symm)).trans (Below.heap_alloc _ _ _ (lt_of_some HOB14.out.1.blk))
        have c39 : w9.cell? ⟨b5, 3, none⟩ = some (.slice AF2 nF cF2) := (World.cell?_of_block (a := ⟨b5, 3, none⟩) hb5w).trans (HOB14.out.1.blk.cell (k := 3) rfl)
        have f39 : w9.frozen? ⟨b5, 3, none⟩ = false := (World.frozen?_of_block (a := ⟨b5, 3, none⟩) hb5w).trans (HOB14.out.1.blk.frozen 3)
        have hx9 : Ext wA w9 := (HOB14.out.1.ext.alloc _).grown hgF (Nat.le_trans HOB14.out.1.ext.size (by simp)) (fun k hk => (HOB14.out.1.F.lt k hk).1)
        obtain ⟨AF9, cF9, rfl, -⟩ := Row.of_own hoF
        have HX9 := Lib.hid hx9
        clear hO9 hoF hgF hb5w hx9
        refine hK.out _ _ (HX9.out) (fun hHeld => ?_)
        clear hK K
        try simp only [rtPr, Act.put]
        refine wpAnyH_take (i := 9) (v := ?v16) rfl (by kernel_rfl) (by kernel_rfl) (by kernel_rfl) (fun _ _ _ h => h) (Or.inl ⟨?w16, ?y16⟩) hHeld ?r16
        case w16 => rfl
        case y16 => (intro w hSw; go_simp; try with_reducible rfl)
        simp only [rtPr, Act.put]
        refine wpAnyH_ready (rs := [10]) (by kernel_rfl) (by simp) ?_
        refine AllReadyH.cons rfl (fun K hK => ?_) AllReadyH.nil
        go_simp
        refine hK.out _ _ (HX9.out.setCell (p := ⟨b5, 3, none⟩) (show wA.heap.size ≤ b5 from HO9.out.h5) _) (fun hHeld => ?_)
        clear hK K
        try simp only [rtPr, Act.put]
        refine wpAnyH_done (by kernel_rfl) ?_ _
        clear hHeld c39 f39 c3 hf3 hmk
        go_wp2_with fail
        go_roundg (8 - (k + 1))
        case measure => omega
        case rel => exact ⟨k + 1, nF + 1, nT + 1, _, _, _, _, by go_num, by omega, rfl, by omega, by omega, HO9.out⟩
       exact AllReadyH.nil
      exact AllReadyH.nil
     refine AllReadyH.cons rfl (fun K hK => ?_) ?_
     ·go_simp
      refine hK.out _ _ (hHeld.alloc _) (fun hHeld => ?_)
      clear hK K
      try simp only [rtPr, Act.put]
      obtain ⟨g17, hg17⟩ : ∃ g, g = wn10.heap.size := ⟨_, rfl⟩
      have HOB17 : Hid (OS wA (wn10.alloc (.cells (madeCells #[.bool false] N) 4)) wA.heap.size b5 nF (nT + 1) (K + 20) m.w m.h m.l (.slice AF2 nF cF2) (.slice Au m.up.length cu) (.slice AT3 (nT + 1) cT3) fs (ts ++ [.string ⟨#[]⟩, .slice none 0 0, .slice none 0 0]) ∧ OwnB (wn10.alloc (.cells (madeCells #[.bool false] N) 4)) wA.heap.size (.slice (some ⟨g17, 0, none⟩) N N) (List.replicate N false)) := ⟨HOT2.out.grow (HEn10.out.alloc _), by rw [hg17]; exact own_made wn10 wA.heap.size N (Nat.le_trans hxq.size HEn10.out.size) (by omega)⟩
      have HEm17 : Hid (Ext wq (wn10.alloc (.cells (madeCells #[.bool false] N) 4))) := HEn10.out.alloc _
      rw [← hg17]
      clear hg17
      generalize wn10.alloc (.cells (madeCells #[.bool false] N) 4) = wm17 at *
      refine wpAnyH_ready (rs := [1, 7]) (by kernel_rfl) (by simp) ?_
      refine AllReadyH.cons rfl (fun K hK => ?_) ?_
      ·have hcl : wm17.cell? ⟨b5, 3, none⟩ = some (.slice AF2 nF cF2) := HEm17.out.cell c3
       go_simp
       clear hcl
       refine hK.out _ _ (hHeld) (fun hHeld => ?_)
       clear hK K
       try simp only [rtPr, Act.put]
       refine wpAnyH_ready (rs := [7]) (by kernel_rfl) (by simp) ?_
       refine AllReadyH.cons rfl (fun K hK => ?_) ?_
       ·go_simp
        refine hK.out _ _ (hHeld.alloc _) (fun hHeld => ?_)
        clear hK K
        try simp only [rtPr, Act.put]
        have HEs19 : Hid (Ext wq (wm17.alloc (.cells #[.slice (some ⟨g17, 0, none⟩) N N] 28))) := HEm17.out.alloc _
        refine wpAnyH_ready (rs := [8]) (by kernel_rfl) (by simp) ?_
        refine AllReadyH.cons rfl (fun K hK => ?_) AllReadyH.nil
        refine step_append_row (ok := fun _ => True) rfl _ _ _ eBools rfl wA.heap.size nF 1 fs [.slice (some ⟨g17, 0, none⟩) N N] _ _ rfl rfl ((HOB17.out.1.F).alloc _) ⟨_, _, rfl, Nat.le_refl _, RowA.block (Blk.new _ _ _ rfl) trivial rfl⟩ (by simp [Value.oneCell']) (Nat.le_trans HOB17.out.1.ext.size (by simp)) (by unfold maxLen; omega) (by omega) ?_
        intro vF9 w9 hoF hgF hvF
        clear hvF
        have hO9 := HOB17.out.1.addF hoF hgF (by omega) (fun w2 hk hs u hu => by
         rw [List.mem_singleton] at hu
         subst hu
         exact FI.keep ⟨_, .inr HOB17.out.2⟩ hk)
        have HO9 := Lib.hid hO9
        have hb5w : w9.heap[b5]? = wm17.heap[b5]? := (hgF.block b5 (by have := lt_of_some HOB17.out.1.blk; simp; omega) (fun e => own_blk_ne HOB17.out.1.F HOB17.out.1.blk (by decide) e.symm)).trans (Below.heap_alloc _ _ _ (lt_of_some HOB17.out.1.blk))
        have c39 : w9.cell? ⟨b5, 3, none⟩ = some (.slice AF2 nF cF2) := (World.cell?_of_block (a := ⟨b5, 3, none⟩) hb5w).trans (HOB17.out.1.blk.cell (k := 3) rfl)
        have f39 : w9.frozen? ⟨b5, 3, none⟩ = false := (World.frozen?_of_block (a := ⟨b5, 3, none⟩) hb5w).trans (HOB17.out.1.blk.frozen 3)
        have hx9 : Ext wA w9 := (HOB17.out.1.ext.alloc _).grown hgF (Nat.le_trans HOB17.out.1.ext.size (by simp)) (fun k hk => (HOB17.out.1.F.lt k hk).1)
        obtain ⟨AF9, cF9, rfl, -⟩ := Row.of_own hoF
        have HX9 := Lib.hid hx9
        clear hO9 hoF hgF hb5w hx9
        refine hK.out _ _ (HX9.out) (fun hHeld => ?_)
        clear hK K
        try simp only [rtPr, Act.put]
        refine wpAnyH_take (i := 9) (v := ?v20) rfl (by kernel_rfl) (by kernel_rfl) (by kernel_rfl) (fun _ _ _ h => h) (Or.inl ⟨?w20, ?y20⟩) hHeld ?r20
        case w20 => rfl
        case y20 => (intro w hSw; go_simp; try with_reducible rfl)
        simp only [rtPr, Act.put]
        refine wpAnyH_ready (rs := [10]) (by kernel_rfl) (by simp) ?_
        refine AllReadyH.cons rfl (fun K hK => ?_) AllReadyH.nil
        go_simp
        refine hK.out _ _ (HX9.out.setCell (p := ⟨b5, 3, none⟩) (show wA.heap.size ≤ b5 from HO9.out.h5) _) (fun hHeld => ?_)
        clear hK K
        try simp only [rtPr, Act.put]
        refine wpAnyH_done (by kernel_rfl) ?_ _
        clear hHeld c39 f39 c3 hf3 hmk
        go_wp2_with fail
        go_roundg (8 - (k + 1))
        case measure => omega
        case rel => exact ⟨k + 1, nF + 1, nT + 1, _, _, _, _, by go_num, by omega, rfl, by omega, by omega, HO9.out⟩
       exact AllReadyH.nil
      refine AllReadyH.cons rfl (fun K hK => ?_) ?_
      ·go_simp
       refine hK.out _ _ (hHeld.alloc _) (fun hHeld => ?_)
       clear hK K
       try simp only [rtPr, Act.put]
       have HEs21 : Hid (Ext wq (wm17.alloc (.cells #[.slice (some ⟨g17, 0, none⟩) N N] 28))) := HEm17.out.alloc _
       refine wpAnyH_ready (rs := [1]) (by kernel_rfl) (by simp) ?_
       refine AllReadyH.cons rfl (fun K hK => ?_) ?_
       ·have hcl : (wm17.alloc (.cells #[.slice (some ⟨g17, 0, none⟩) N N] 28)).cell? ⟨b5, 3, none⟩ = some (.slice AF2 nF cF2) := HEs21.out.cell c3
        go_simp
        clear hcl
        refine hK.out _ _ (hHeld) (fun hHeld => ?_)
        clear hK K
        try simp only [rtPr, Act.put]
        refine wpAnyH_ready (rs := [8]) (by kernel_rfl) (by simp) ?_
        refine AllReadyH.cons rfl (fun K hK => ?_) AllReadyH.nil
        refine step_append_row (ok := fun _ => True) rfl _ _ _ eBools rfl wA.heap.size nF 1 fs [.slice (some ⟨g17, 0, none⟩) N N] _ _ rfl rfl ((HOB17.out.1.F).alloc _) ⟨_, _, rfl, Nat.le_refl _, RowA.block (Blk.new _ _ _ rfl) trivial rfl⟩ (by simp [Value.oneCell']) (Nat.le_trans HOB17.out.1.ext.size (by simp)) (by unfold maxLen; omega) (by omega) ?_
        intro vF9 w9 hoF hgF hvF
        clear hvF
        have hO9 := HOB17.out.1.addF hoF hgF (by omega) (fun w2 hk hs u hu => by
         rw [List.mem_singleton] at hu
         subst hu
         exact FI.keep ⟨_, .inr HOB17.out.2⟩ hk)
        have HO9 := Lib.hid hO9
        have hb5w : w9.heap[b5]? = wm17.heap[b5]? := (hgF.block b5 (by have := lt_of_some HOB17.out.1.blk; simp; omega) (fun e => own_blk_ne HOB17.out.1.F HOB17.out.1.blk (by decide) e.symm)).trans (Below.heap_alloc _ _ _ (lt_of_some HOB17.out.1.blk))
        have c39 : w9.cell? ⟨b5, 3, none⟩ = some (.slice AF2 nF cF2) := (World.cell?_of_block (a := ⟨b5, 3, none⟩) hb5w).trans (HOB17.out.1.blk.cell (k := 3) rfl)
        have f39 : w9.frozen? ⟨b5, 3, none⟩ = false := (World.frozen?_of_block (a := ⟨b5, 3, none⟩) hb5w).trans (HOB17.out.1.blk.frozen 3)
        have hx9 : Ext wA w9 := (HOB17.out.1.ext.alloc _).grown hgF (Nat.le_trans HOB17.out.1.ext.size (by simp)) (fun k hk => (HOB17.out.1.F.lt k hk).1)
        obtain ⟨AF9, cF9, rfl, -⟩ := Row.of_own hoF
        have HX9 := Lib.hid hx9
        clear hO9 hoF hgF hb5w hx9
        refine hK.out _ _ (HX9.out) (fun hHeld => ?_)
        clear hK K
        try simp only [rtPr, Act.put]
        refine wpAnyH_take (i := 9) (v := ?v23) rfl (by kernel_rfl) (by kernel_rfl) (by kernel_rfl) (fun _ _ _ h => h) (Or.inl ⟨?w23, ?y23⟩) hHeld ?r23
        case w23 => rfl
        case y23 => (intro w hSw; go_simp; try with_reducible rfl)
        simp only [rtPr, Act.put]
        refine wpAnyH_ready (rs := [10]) (by kernel_rfl) (by simp) ?_
        refine AllReadyH.cons rfl (fun K hK => ?_) AllReadyH.nil
        go_simp
        refine hK.out _ _ (HX9.out.setCell (p := ⟨b5, 3, none⟩) (show wA.heap.size ≤ b5 from HO9.out.h5) _) (fun hHeld => ?_)
        clear hK K
        try simp only [rtPr, Act.put]
        refine wpAnyH_done (by kernel_rfl) ?_ _
        clear hHeld c39 f39 c3 hf3 hmk
        go_wp2_with fail
        go_roundg (8 - (k + 1))
        case measure => omega
        case rel => exact ⟨k + 1, nF + 1, nT + 1, _, _, _, _, by go_num, by omega, rfl, by omega, by omega, HO9.out⟩
       exact AllReadyH.nil
      exact AllReadyH.nil
     exact AllReadyH.nil
    exact AllReadyH.nil
   ·have hd1 : decide ((k : Int) < 4 + n) = false := decide_eq_false (by omega)
    have hfin := hQ.out.fin (A := A + 6) (Y := 100 * Y) (by omega) (by omega) (by omega)
    have hx9 := hQ.out.ext
    clear hQ
    have HFN := Lib.hid hfin
    clear hfin
    go_upto_region 29 with fail
    generalize wr9 = wc at *
    have hfin := HFN.out
    try clear HO9
    obtain ⟨m', vF', vU', vT', hbk, hmz, hob, hext⟩ := hfin
    have HMZ := Lib.hid hmz
    have HOB' := Lib.hid hob
    have HEX := Lib.hid hext
    obtain ⟨f', u', t', e', ⟨_, ⟨A1, c1, rfl, -⟩, -⟩, ⟨A2, c2, rfl, -⟩, ⟨_, ⟨A3, c3, rfl, -⟩, -⟩⟩ := hmz
    injection e' with e'
    injection e' with e'
    simp only [List.cons.injEq, and_true, true_and] at e'
    obtain ⟨rfl, rfl, rfl⟩ := e'
    have m0 : wc.cell? ⟨b5, 0, none⟩ = some (.int .i64 m'.w) := hbk.cell (k := 0) rfl
    have m1 : wc.cell? ⟨b5, 1, none⟩ = some (.int .i64 m'.h) := hbk.cell (k := 1) rfl
    have m2 : wc.cell? ⟨b5, 2, none⟩ = some (.int .i64 m'.l) := hbk.cell (k := 2) rfl
    have m3 : wc.cell? ⟨b5, 3, none⟩ = some (.slice A1 m'.free.length c1) := hbk.cell (k := 3) rfl
    have m4 : wc.cell? ⟨b5, 4, none⟩ = some (.slice A2 m'.up.length c2) := hbk.cell (k := 4) rfl
    have m5 : wc.cell? ⟨b5, 5, none⟩ = some (.slice A3 m'.tasks.length c3) := hbk.cell (k := 5) rfl
    have hBZ : Blk wc b4 31 #[.int .i64 0, .int .i64 0, .int .i64 0, .slice none 0 0, .slice none 0 0, .slice none 0 0] := HB4.out.ext hext
    have z0 : wc.cell? ⟨b4, 0, none⟩ = some (.int .i64 0) := hBZ.cell (k := 0) rfl
    have z1 : wc.cell? ⟨b4, 1, none⟩ = some (.int .i64 0) := hBZ.cell (k := 1) rfl
    have z2 : wc.cell? ⟨b4, 2, none⟩ = some (.int .i64 0) := hBZ.cell (k := 2) rfl
    have z3 : wc.cell? ⟨b4, 3, none⟩ = some (.slice none 0 0) := hBZ.cell (k := 3) rfl
    have z4 : wc.cell? ⟨b4, 4, none⟩ = some (.slice none 0 0) := hBZ.cell (k := 4) rfl
    have z5 : wc.cell? ⟨b4, 5, none⟩ = some (.slice none 0 0) := hBZ.cell (k := 5) rfl
    have hfz : ∀ j, wc.frozen? ⟨b4, j, none⟩ = false := fun j => hBZ.frozen j
    have HBZ := Lib.hid hBZ
    clear hbk hob hext hBZ
    go_wp2_with fail
    refine case_fin (P := fun W => bodyPost Try.prog Try.f13 (OddPost w (A + 6) (100 * Y) (K + 20)) Exit.ret _ W) (g2 := b4) ?_ HBZ.out
    intro WZ hbz hEb hk
    have y0 : WZ.cell? ⟨b4, 0, none⟩ = some (.int .i64 m'.w) := hbz.cell (k := 0) rfl
    have y1 : WZ.cell? ⟨b4, 1, none⟩ = some (.int .i64 m'.h) := hbz.cell (k := 1) rfl
    have y2 : WZ.cell? ⟨b4, 2, none⟩ = some (.int .i64 m'.l) := hbz.cell (k := 2) rfl
    have y3 : WZ.cell? ⟨b4, 3, none⟩ = some (.slice A1 m'.free.length c1) := hbz.cell (k := 3) rfl
    have y4 : WZ.cell? ⟨b4, 4, none⟩ = some (.slice A2 m'.up.length c2) := hbz.cell (k := 4) rfl
    have y5 : WZ.cell? ⟨b4, 5, none⟩ = some (.slice A3 m'.tasks.length c3) := hbz.cell (k := 5) rfl
    exact bodyPost_ret (v := .agg #[.int .i64 m'.w, .int .i64 m'.h, .int .i64 m'.l, .slice A1 m'.free.length c1, .slice A2 m'.up.length c2, .slice A3 m'.tasks.length c3]) (by simp [results, Try.results13, go_sem, y0, y1, y2, y3, y4, y5]) rfl
     ⟨_, m', rfl, Below.trans (HEA.out.trans HEX.out) (hEb.mono HBS.out.2.2.1), (HMZ.out.keep (w' := WZ) (fun b hb hlt => hk b hlt (by have := HBS.out.2.2.2; omega))).weaken (fun _ _ => trivial), HOB'.out⟩
end Go.Proofs.Ytgpjfpcjiebjiaa
