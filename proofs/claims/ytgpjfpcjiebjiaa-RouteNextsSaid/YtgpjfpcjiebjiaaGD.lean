/- Walks: the law RouteNexts. -/
import Derived.Test.YtgpjfpcjiebjiaaGq
import Derived.Test.YtgpjfpcjiebjiaaGr
import Derived.Test.YtgpjfpcjiebjiaaGx
import Derived.Test.YtgpjfpcjiebjiaaGB
import Derived.Test.YtgpjfpcjiebjiaaGz
import Derived.Test.YtgpjfpcjiebjiaaGC
namespace Go.Proofs.Ytgpjfpcjiebjiaa
open Go.RowKit
set_option linter.unusedVariables false
set_option linter.unusedSimpArgs false
attribute [local go_sem ↓] Go.wp_at_zero Go.wp_at_succ

theorem ints_four (W : World) (a b c d : Int) : Hid (∀ i : Nat, i < 4 → ∃ n : Int, (W.alloc (.cells #[.int .i64 a, .int .i64 b, .int .i64 c, .int .i64 d] 3)).cell? ⟨W.heap.size, i, none⟩ = some (.int .i64 n)) := fun i hi => by
  have hB : Blk (W.alloc (.cells #[.int .i64 a, .int .i64 b, .int .i64 c, .int .i64 d] 3)) W.heap.size 3 #[.int .i64 a, .int .i64 b, .int .i64 c, .int .i64 d] := heap_alloc_new _ _
  match i, hi with
  | 0, _ => exact ⟨a, hB.cell (k := 0) rfl⟩
  | 1, _ => exact ⟨b, hB.cell (k := 1) rfl⟩
  | 2, _ => exact ⟨c, hB.cell (k := 2) rfl⟩
  | 3, _ => exact ⟨d, hB.cell (k := 3) rfl⟩
theorem pair_ints (W : World) (a b : Int) : Ints (W.alloc (.cells #[.int .i64 a, .int .i64 b] 3)) (fun _ => True) (.slice (some ⟨W.heap.size, 0, none⟩) 2 2) [a, b] :=
  (show Ints _ (fun k => W.heap.size ≤ k) _ _ from Row.of_own (⟨rfl, .inr ⟨W.heap.size, 2, #[.int .i64 a, .int .i64 b], rfl, Nat.le_refl _, heap_alloc_new W _, Nat.le_refl _, by decide, rfl, rfl⟩⟩ : OwnI (W.alloc (.cells #[.int .i64 a, .int .i64 b] 3)) W.heap.size (.slice (some ⟨W.heap.size, 0, none⟩) 2 2) [a, b])).weaken fun _ _ => trivial
theorem reachO_len (m : MZ) (t : Int) (f us : List Int) : (reachO m t f us).length ≤ 1000 := by
  unfold reachO
  split
  · rename_i h
    unfold reachL
    refine Nat.le_trans (List.length_filter_le _ _) ?_
    have h1 := (Good.of h.1).dim.n1
    have h2 : m.n = m.w * m.h * m.l := rfl
    simp
    omega
  · simp
theorem own_three (W : World) (B : Nat) (a b c : Int) (hB : B ≤ W.heap.size) : OwnI (W.alloc (.cells #[.int .i64 a, .int .i64 b, .int .i64 c] 3)) B (.slice (some ⟨W.heap.size, 0, none⟩) 3 3) [a, b, c] :=
  ⟨rfl, .inr ⟨W.heap.size, 3, #[.int .i64 a, .int .i64 b, .int .i64 c], rfl, hB, heap_alloc_new W _, Nat.le_refl _, by decide, rfl, rfl⟩⟩

set_option maxHeartbeats 8000000 in
set_option maxRecDepth 100000 in
theorem nexts_calls {ok ok2 okm : Nat → Prop} {v vn vm : Value} {mr : MZ} {ls : List (List Int)} {ns : List Int} (o0 o1 o2 p0 p1 : Int) (w : World) (hmr : MazeV w okm vm mr) (hmw : -9223372036854775808 ≤ mr.w ∧ mr.w ≤ 9223372036854775808) (hmh : -9223372036854775808 ≤ mr.h ∧ mr.h ≤ 9223372036854775808) (hml : -9223372036854775808 ≤ mr.l ∧ mr.l ≤ 9223372036854775808) (hl : Intss w ok v ls) (hll : ls.length ≤ 9223372036854775807) (hlx : ∀ l ∈ ls, l.length ≤ 9223372036854775807) (hn : Ints w ok2 vn ns) (hnl : ns.length ≤ 9223372036854775807) :
    Calls Try.prog 3 #[.agg #[v, .int .i64 o0, .int .i64 o1, .int .i64 o2, vn], vm, .agg #[.int .i64 p0, .int .i64 p1]] w fun e w' => e = .returned (.bool true) ∧ Ext w w' := by
  have HLS := Lib.hid hl
  have HNS := Lib.hid hn
  obtain ⟨vs, ⟨A, c, rfl, hc, -⟩, -⟩ := hl
  obtain ⟨A2, c2, rfl, hc2, -⟩ := hn
  have HLX := Lib.hid hlx
  have HMR := Lib.hid hmr
  obtain ⟨vfr', vup', vts', rfl, ⟨_, ⟨Ar, cr, rfl, -⟩, -⟩, ⟨Ar2, cr2, rfl, -⟩, ⟨_, ⟨Ar3, cr3, rfl, -⟩, -⟩⟩ := hmr
  have HMW := Lib.hid (And.intro hmw (And.intro hmh hml))
  clear hmw hmh hml
  clear hlx
  go_enter Try.func3, Try.ntmps3
  go_wp2_with fail
  generalize hwa : ((w.alloc (.cells #[.slice A ls.length c, .int .i64 o0, .int .i64 o1, .int .i64 o2, .slice A2 ns.length c2] 26)).alloc (.cells #[.int .i64 mr.w, .int .i64 mr.h, .int .i64 mr.l, .slice Ar mr.free.length cr, .slice Ar2 mr.up.length cr2, .slice Ar3 mr.tasks.length cr3] 31)).alloc (.cells #[.int .i64 p0, .int .i64 p1] 32) = wa
  have hEa : Ext w wa := by rw [← hwa]; exact (((Ext.refl _).alloc _).alloc _).alloc _
  have hBa : Blk wa w.heap.size 26 #[.slice A ls.length c, .int .i64 o0, .int .i64 o1, .int .i64 o2, .slice A2 ns.length c2] := by rw [← hwa]; exact ((Blk.new w _ _ rfl).alloc _).alloc _
  have hBr : Blk wa (w.heap.size + 1) 31 #[.int .i64 mr.w, .int .i64 mr.h, .int .i64 mr.l, .slice Ar mr.free.length cr, .slice Ar2 mr.up.length cr2, .slice Ar3 mr.tasks.length cr3] := by rw [← hwa]; exact (Blk.new _ _ _ (by simp)).alloc _
  have hBq : Blk wa (w.heap.size + 1 + 1) 32 #[.int .i64 p0, .int .i64 p1] := by rw [← hwa]; exact Blk.new _ _ _ (by simp)
  have t0 : ∀ W, Ext wa W → W.cell? ⟨w.heap.size + 1, 0, none⟩ = some (.int .i64 mr.w) := Ext.rule (hBr.cell (k := 0) rfl)
  have t1 : ∀ W, Ext wa W → W.cell? ⟨w.heap.size + 1, 1, none⟩ = some (.int .i64 mr.h) := Ext.rule (hBr.cell (k := 1) rfl)
  have t2 : ∀ W, Ext wa W → W.cell? ⟨w.heap.size + 1, 2, none⟩ = some (.int .i64 mr.l) := Ext.rule (hBr.cell (k := 2) rfl)
  have t3 : ∀ W, Ext wa W → W.cell? ⟨w.heap.size + 1, 3, none⟩ = some (.slice Ar mr.free.length cr) := Ext.rule (hBr.cell (k := 3) rfl)
  have t4 : ∀ W, Ext wa W → W.cell? ⟨w.heap.size + 1, 4, none⟩ = some (.slice Ar2 mr.up.length cr2) := Ext.rule (hBr.cell (k := 4) rfl)
  have t5 : ∀ W, Ext wa W → W.cell? ⟨w.heap.size + 1, 5, none⟩ = some (.slice Ar3 mr.tasks.length cr3) := Ext.rule (hBr.cell (k := 5) rfl)
  have u0' : ∀ W, Ext wa W → W.cell? ⟨w.heap.size + 1 + 1, 0, none⟩ = some (.int .i64 p0) := Ext.rule (hBq.cell (k := 0) rfl)
  have u1' : ∀ W, Ext wa W → W.cell? ⟨w.heap.size + 1 + 1, 1, none⟩ = some (.int .i64 p1) := Ext.rule (hBq.cell (k := 1) rfl)
  clear hBr hBq
  clear hwa
  have r0 : ∀ W, Ext wa W → W.cell? ⟨w.heap.size, 0, none⟩ = some (.slice A ls.length c) := Ext.rule (hBa.cell (k := 0) rfl)
  have r1 : ∀ W, Ext wa W → W.cell? ⟨w.heap.size, 1, none⟩ = some (.int .i64 o0) := Ext.rule (hBa.cell (k := 1) rfl)
  have r2 : ∀ W, Ext wa W → W.cell? ⟨w.heap.size, 2, none⟩ = some (.int .i64 o1) := Ext.rule (hBa.cell (k := 2) rfl)
  have r3 : ∀ W, Ext wa W → W.cell? ⟨w.heap.size, 3, none⟩ = some (.int .i64 o2) := Ext.rule (hBa.cell (k := 3) rfl)
  have r4 : ∀ W, Ext wa W → W.cell? ⟨w.heap.size, 4, none⟩ = some (.slice A2 ns.length c2) := Ext.rule (hBa.cell (k := 4) rfl)
  clear hBa
  refine (sanity_calls wa).mono ?_
  rintro e w1 ⟨rfl, hE1⟩
  have hx1 : Ext wa w1 := hE1
  go_wp2_with fail
  refine (caseMade_calls o0 o1 o2 w1 (HLS.out.below (hEa.trans hx1)) hll HLX.out (HNS.out.below (hEa.trans hx1)) hnl).mono ?_
  rintro e w2 ⟨v2, m, vl, l, rfl, hE2, hm, hMM, hMk, hl12, hlr⟩
  have HM := Lib.hid hm
  obtain ⟨vfr, vup, vts, rfl, ⟨_, ⟨Af, cf, rfl, -⟩, -⟩, ⟨Au, cu, rfl, -⟩, ⟨_, ⟨At, ct, rfl, -⟩, -⟩⟩ := hm
  have HI := Lib.hid hMk.ints
  obtain ⟨Al, cl, rfl, hcl⟩ := hMk.slice
  have HMM := Lib.hid hMM
  have HLR := Lib.hid hlr
  have HEW := Lib.hid ((hEa.trans hx1).trans hE2)
  have hxa2 : Ext wa w2 := hx1.trans hE2
  have HMK := Lib.hid hMk.own
  clear hMk hMM hlr hx1 hE1 hEa hE2
  obtain ⟨gm, hgm⟩ : ∃ gm, gm = w2.heap.size := ⟨_, rfl⟩
  have hg := HMM.out.good
  have hdimWH : 2 ≤ m.w * m.h ∧ m.w * m.h ≤ 16 := by
    have h0 := HMM.out.w
    have h1 := hg.dim.layer
    have h2 : m.n = m.w * m.h * m.l := rfl
    have h3 := Int.mul_le_mul_of_nonneg_left HMM.out.h.1 (show 0 ≤ m.w by omega)
    have := HMM.out.n
    omega
  have hdimN : 2 ≤ m.w * m.h * m.l ∧ m.w * m.h * m.l ≤ 16 := HMM.out.n
  have HG := Lib.hid hg
  clear hg
  obtain ⟨hd1, hd2⟩ := hdimWH
  obtain ⟨hd3, hd4⟩ := hdimN
  go_upto_region 3 with fail
  rw [← hgm]
  generalize hw5 : w2.alloc (.cells #[.int .i64 m.w, .int .i64 m.h, .int .i64 m.l, .slice Af m.free.length cf, .slice Au m.up.length cu, .slice At m.tasks.length ct] 31) = w5
  have hE5 : Ext w2 w5 := by rw [← hw5]; exact (Ext.refl _).alloc _
  have hBm : Blk w5 gm 31 #[.int .i64 m.w, .int .i64 m.h, .int .i64 m.l, .slice Af m.free.length cf, .slice Au m.up.length cu, .slice At m.tasks.length ct] := by rw [← hw5, hgm]; exact Blk.new _ _ _ rfl
  clear hw5 hgm
  obtain ⟨m0, m1, m2, m3, m4, m5⟩ := cells6 hBm
  have q0 := Ext.rule m0
  have q1 := Ext.rule m1
  have q2 := Ext.rule m2
  have q3 := Ext.rule m3
  have q4 := Ext.rule m4
  have q5 := Ext.rule m5
  clear m0 m1 m2 m3 m4 m5 hBm hd1 hd2 hd3 hd4
  have HM5 := Lib.hid (HM.out.below hE5)
  have HI5 := Lib.hid (HI.out.below hE5)
  have HEW5 : Hid (Ext w w5) := HEW.out.trans hE5
  have hxa5 : Ext wa w5 := hxa2.trans hE5
  clear hE5
  have hx5 := Ext.refl w5
  go_wp2_with fail
  refine (odd_calls o0 o1 o2 w5 HM5.out HMM.out.obL (by omega) (by omega) (by omega)).mono ?_
  rintro e w6 ⟨v6, m6, rfl, hx6, hm6, hob6⟩
  have HM6 := Lib.hid hm6
  have HO6 := Lib.hid hob6
  obtain ⟨f6, u6', t6, rfl, -, -, -⟩ := id hm6
  obtain ⟨oA, on, oc, oA', on', oc', oA'', on'', oc'', rfl, rfl, rfl⟩ := mazeV_slices hm6
  have hx56 : Ext w5 w6 := hx6
  clear hm6 hob6 hx6
  go_upto_region 4 with fail
  generalize hw7 : w6.alloc (.cells #[.int .i64 m6.w, .int .i64 m6.h, .int .i64 m6.l, .slice oA on oc, .slice oA' on' oc', .slice oA'' on'' oc''] 31) = w7
  have hE67 : Ext w6 w7 := by rw [← hw7]; exact (Ext.refl _).alloc _
  have hB7 : Blk w7 w6.heap.size 31 #[.int .i64 m6.w, .int .i64 m6.h, .int .i64 m6.l, .slice oA on oc, .slice oA' on' oc', .slice oA'' on'' oc''] := by rw [← hw7]; exact Blk.new _ _ _ rfl
  clear hw7
  obtain ⟨m0, m1, m2, m3, m4, m5⟩ := cells6 hB7
  have s0 := Ext.rule m0
  have s1 := Ext.rule m1
  have s2 := Ext.rule m2
  have s3 := Ext.rule m3
  have s4 := Ext.rule m4
  have s5 := Ext.rule m5
  clear m0 m1 m2 m3 m4 m5 hB7
  have hx57 : Ext w5 w7 := hx56.trans hE67
  have hxa7 : Ext wa w7 := hxa5.trans hx57
  have HM7 := Lib.hid (HM6.out.below hE67)
  have HR7 := Lib.hid (HMR.out.below (HEW5.out.trans hx57))
  have HM57 := Lib.hid (HM5.out.below hx57)
  obtain ⟨hmw, hmh, hml⟩ := HMW.out
  clear HM6 hE67 hx56 hx5
  go_cut [45, 46, 47] (fun v v46 v47 wx => v46 = .int .i64 4 ∧ v47 = .int .i64 0 ∧ ∃ b, v = .slice (some ⟨b, 0, none⟩) 4 4 ∧ Hid (MzsAt wx b 4) ∧ Hid (Ext w7 wx))
  case first =>
    go_region_held3 (fun w' => (Ext wa w' ∧ Ext w5 w') ∧ Ext w7 w')
      (first | (exact ⟨⟨hxa7.drew, hx57.drew⟩, (Ext.refl w7).drew⟩) | assumption | (exact ⟨⟨hxa7.trans hx7n, hx57.trans hx7n⟩, hx7n⟩) | (exact ⟨⟨hxa7.trans hx7q, hx57.trans hx7q⟩, hx7q⟩) | (exact ⟨⟨(hxa7.trans hx7q).alloc _, (hx57.trans hx7q).alloc _⟩, hx7q.alloc _⟩))
      (first
        | (go_at_call 13; refine (odd_calls o2 o1 o0 _ (HM7.out.below ((Ext.refl w7).drew)) HO6.out (by omega) (by omega) (by omega)).mono ?_; rintro e wn ⟨v9, m9, rfl, hE9, hm9, hob9⟩; have HM9 := Lib.hid hm9; have hx7n : Ext w7 wn := ((Ext.refl w7).drew).trans hE9; obtain ⟨f9, u9, t9, rfl, -, -, -⟩ := hm9)
        | (go_at_call 14; refine (cut_calls _ (HR7.out.below hx7n) hmw hmh hml).mono ?_; rintro e wq ⟨v10, m10, rfl, hE10, hm10, hl10⟩; have HM10 := Lib.hid hm10; have hx7q : Ext w7 wq := hx7n.trans hE10; have HM9q := Lib.hid (HM9.out.below hE10); obtain ⟨f10, u10, t10, rfl, -, -, -⟩ := hm10))
    rename_i hS
    have HM57q := Lib.hid (HM57.out.below hx7q)
    have HM7q := Lib.hid (HM7.out.below hx7q)
    have HOB := Lib.hid hob9
    have HLN := Lib.hid hl10
    clear hS hE9 hE10 hob9 hl10
    go_wp2_with fail
    go_meet
    exact ⟨rfl, rfl, _, rfl, mzs_four HM57q.out HM7q.out HM9q.out HM10.out HMM.out.lens (HO6.out.lens (by omega)) (HOB.out.lens (by omega)) HLN.out, hx7q.alloc _⟩
  case rest =>
    obtain ⟨rfl, rfl, bm, rfl, hMZ, hX7⟩ := hcut
    obtain ⟨wb, rfl⟩ : ∃ wb : World, wb = wc := ⟨_, rfl⟩
    have hx7b : Ext w7 wb := hX7.out
    have hx5b : Ext w5 wb := hx57.trans hx7b
    have hxab : Ext wa wb := hxa7.trans hx7b
    have HIB := Lib.hid (HI5.out.below hx5b)
    have HMB := Lib.hid (HM5.out.below hx5b)
    have q0b : ∀ W, Ext wb W → W.cell? ⟨gm, 0, none⟩ = some (.int .i64 m.w) := fun W h => q0 W (hx5b.trans h)
    have q1b : ∀ W, Ext wb W → W.cell? ⟨gm, 1, none⟩ = some (.int .i64 m.h) := fun W h => q1 W (hx5b.trans h)
    have q2b : ∀ W, Ext wb W → W.cell? ⟨gm, 2, none⟩ = some (.int .i64 m.l) := fun W h => q2 W (hx5b.trans h)
    have q3b : ∀ W, Ext wb W → W.cell? ⟨gm, 3, none⟩ = some (.slice Af m.free.length cf) := fun W h => q3 W (hx5b.trans h)
    have q4b : ∀ W, Ext wb W → W.cell? ⟨gm, 4, none⟩ = some (.slice Au m.up.length cu) := fun W h => q4 W (hx5b.trans h)
    have q5b : ∀ W, Ext wb W → W.cell? ⟨gm, 5, none⟩ = some (.slice At m.tasks.length ct) := fun W h => q5 W (hx5b.trans h)
    have u0b : ∀ W, Ext wb W → W.cell? ⟨w.heap.size + 1 + 1, 0, none⟩ = some (.int .i64 p0) := fun W h => u0' W (hxab.trans h)
    have u1b : ∀ W, Ext wb W → W.cell? ⟨w.heap.size + 1 + 1, 1, none⟩ = some (.int .i64 p1) := fun W h => u1' W (hxab.trans h)
    clear q0 q1 q2 q3 q4 q5 s0 s1 s2 s3 s4 s5 t0 t1 t2 t3 t4 t5 u0' u1' r0 r1 r2 r3 r4 hX7 HM57 HM7 HR7
    have HEB : Hid (Ext w wb) := HEW5.out.trans hx5b
    go_wp2_with fail
    go_loopg [47] 4 (fun gk v wr => ∃ i : Nat, v = .int .i64 i ∧ i ≤ 4 ∧ gk = 4 - i ∧ Hid (Ext wb wr))
    case atStart => exact ⟨0, rfl, by omega, rfl, Ext.refl _⟩
    case round =>
      obtain ⟨i, rfl, hi4, rfl, hX⟩ := hrel
      obtain ⟨wj, rfl⟩ : ∃ wj : World, wj = wr := ⟨_, rfl⟩
      have hxbj : Ext wb wj := hX.out
      by_cases hi : i < 4
      · obtain ⟨y, yf, yu, yt, y0, y1, y2, y3, y4, y5, hym, hyl⟩ := hMZ.out i hi
        obtain ⟨yA, yn, yc, yA', yn', yc', yA'', yn'', yc'', rfl, rfl, rfl⟩ := mazeV_slices hym
        have HYM := Lib.hid hym
        have HYL := Lib.hid hyl
        have q0' := Ext.rule y0
        have q1' := Ext.rule y1
        have q2' := Ext.rule y2
        have q3' := Ext.rule y3
        have q4' := Ext.rule y4
        have q5' := Ext.rule y5
        have hi0 : decide ((i : Int) < 4) = true := decide_eq_true (by omega)
        have hi1 : (i : Int) < 4 := by omega
        clear y0 y1 y2 y3 y4 y5 hym hyl
        go_upto_region 7 with fail
        generalize hwy : wj.alloc (.cells #[.int .i64 y.w, .int .i64 y.h, .int .i64 y.l, .slice yA yn yc, .slice yA' yn' yc', .slice yA'' yn'' yc''] 31) = wy
        have hEy : Ext wj wy := by rw [← hwy]; exact (Ext.refl _).alloc _
        have hBy : Blk wy wj.heap.size 31 #[.int .i64 y.w, .int .i64 y.h, .int .i64 y.l, .slice yA yn yc, .slice yA' yn' yc', .slice yA'' yn'' yc''] := by rw [← hwy]; exact Blk.new _ _ _ rfl
        clear hwy
        obtain ⟨m0, m1, m2, m3, m4, m5⟩ := cells6 hBy
        have s0 := Ext.rule m0
        have s1 := Ext.rule m1
        have s2 := Ext.rule m2
        have s3 := Ext.rule m3
        have s4 := Ext.rule m4
        have s5 := Ext.rule m5
        clear m0 m1 m2 m3 m4 m5 hBy q0' q1' q2' q3' q4' q5'
        have hxby : Ext wb wy := hxbj.trans hEy
        have hxyy : Ext wy wy := Ext.refl wy
        have HYY := Lib.hid (HYM.out.below hxby)
        clear hEy
        obtain ⟨ck, hck⟩ : ∃ ck, ck = chk y := ⟨_, rfl⟩
        have HCK1 : Hid (∀ W, Ext wy W → Calls Try.prog 15 #[.agg #[.int .i64 y.w, .int .i64 y.h, .int .i64 y.l, .slice yA yn yc, .slice yA' yn' yc', .slice yA'' yn'' yc'']] W fun e w' => e = .returned (.int .i64 ck) ∧ Below W.heap.size W w') := fun W hW => by rw [hck]; exact check_calls W (HYY.out.below hW) HYL.out
        have HCK2 : Hid (∀ W, Ext wy W → Calls Try.prog 16 #[.agg #[.int .i64 y.w, .int .i64 y.h, .int .i64 y.l, .slice yA yn yc, .slice yA' yn' yc', .slice yA'' yn'' yc'']] W fun e w' => e = .returned (.int .i64 ck) ∧ Below W.heap.size W w') := fun W hW => by rw [hck]; exact qcheck_calls W (HYY.out.below hW) HYL.out
        have hcc : (ck != ck) = false := by simp
        clear hck
        go_region_held3 (fun w' => Ext wy w')
          (first | (exact hxyy.drew) | (exact hxyy.drew.trans hbc1) | (exact Ext.trans (hxyy.drew.trans hbc1) hbc2))
          (first | (go_at_call 15; refine (HCK1.out _ hxyy.drew).mono ?_; rintro e wc1 ⟨rfl, hbc1⟩) | (go_at_call 16; refine (HCK2.out _ (hxyy.drew.trans hbc1)).mono ?_; rintro e wc2 ⟨rfl, hbc2⟩))
        rename_i hS
        have hx2 : Ext wy wc2 := hS
        have hx2b : Ext wb wc2 := hxby.trans hx2
        clear hbc1 hbc2 hS HCK1 HCK2
        go_upto_region 9 with fail
        have HI2 := Lib.hid (HIB.out.below hx2b)
        go_cut [60, 61, 62] (fun v v61 v62 wx => v62 = .int .i64 0 ∧ ∃ (A : Option Addr) (c : Nat) (L : List Int), v = .slice A L.length c ∧ v61 = .int .i64 (L.length : Int) ∧ L.length ≤ 15 ∧ Hid (OwnI wx wc2.heap.size v L) ∧ Hid (Ext wc2 wx))
        case first =>
          go_wp2_with (at_builtin; refine wpList_append_ints (ok := fun b => w1.heap.size ≤ b) rfl _ _ _ rfl wc2.heap.size [p0, -1, 0] l _ _ rfl rfl ?h1 ?h2 ?h3 ?h4 ?_)
          case h1 => exact own_three _ _ _ _ _ (Nat.le_refl _)
          case h2 => exact HI2.out.below ((Ext.refl wc2).alloc _)
          case h3 => (simp)
          case h4 => (simp; omega)
          intro v' w10 ho hg hat
          have hE10 : Ext wc2 w10 := below_app ((Ext.refl wc2).alloc (.cells #[.int .i64 p0, .int .i64 (-1), .int .i64 0] 3)) hg (by simp) (fun k hk => own_base (own_three wc2 wc2.heap.size p0 (-1) 0 (Nat.le_refl _)) hk)
          obtain ⟨A10, c10, hv10, hc10⟩ := own_slice ho
          obtain ⟨n10, hn10⟩ : ∃ n10, n10 = ([p0, -1, 0] ++ l).length := ⟨_, rfl⟩
          have hn15 : n10 ≤ 15 := by rw [hn10]; simp; omega
          have hv11 : v' = .slice A10 n10 c10 := by subst hn10; exact hv10
          clear hv10 hc10
          subst hv11
          have HO10 : Hid (OwnI w10 wc2.heap.size (.slice A10 n10 c10) ([p0, -1, 0] ++ l)) := ho
          have HN10 := Lib.hid hn10
          clear ho hg hat hn10
          go_wp2_with fail
          go_meet
          exact ⟨rfl, A10, c10, [p0, -1, 0] ++ l, by rw [← HN10.out], by rw [← HN10.out], by rw [← HN10.out]; exact hn15, HO10.out, hE10⟩
        case rest =>
          obtain ⟨rfl, AL, cL, L, rfl, rfl, hL15, hOL, hXL⟩ := hcut
          obtain ⟨wl, rfl⟩ : ∃ wl : World, wl = wc := ⟨_, rfl⟩
          have hxyl : Ext wy wl := hx2.trans hXL.out
          have hxbl : Ext wb wl := hxby.trans hxyl
          clear HI2 hXL
          go_wp2_with fail
          go_loopg [62] L.length (fun gk v wr => ∃ k : Nat, v = .int .i64 k ∧ k ≤ L.length ∧ gk = L.length - k ∧ Hid (Ext wl wr))
          case atStart => exact ⟨0, rfl, by omega, rfl, Ext.refl _⟩
          case round =>
            obtain ⟨k, rfl, hkL, rfl, hX⟩ := hrel
            obtain ⟨wk, rfl⟩ : ∃ wk : World, wk = wr := ⟨_, rfl⟩
            have hxlk : Ext wl wk := hX.out
            have hxyk : Ext wy wk := hxyl.trans hxlk
            have hxbk : Ext wb wk := hxbl.trans hxlk
            by_cases hk : k < L.length
            · obtain ⟨bl, e1, -, hcell⟩ := own_at hOL.out hk
              subst e1
              obtain ⟨n, hn⟩ : ∃ n, n = L[k] := ⟨_, rfl⟩
              rw [← hn] at hcell
              have rn := Ext.rule hcell
              have hk0 : decide ((k : Int) < (L.length : Int)) = true := decide_eq_true (by omega)
              have hk1 : (k : Int) < (L.length : Int) := by omega
              have hk2 : decide (k < L.length) = true := decide_eq_true hk
              clear hcell hn
              go_upto_region 12 with fail
              have HN1 : Hid (∀ W, Ext wy W → Calls Try.prog 18 #[.agg #[.int .i64 y.w, .int .i64 y.h, .int .i64 y.l, .slice yA yn yc, .slice yA' yn' yc', .slice yA'' yn'' yc''], .int .i64 n] W fun e w' => ∃ v', e = .returned v' ∧ Mk W w' v' (nextO y n)) := fun W hW => rNext_calls n W (HYY.out.below hW) HYL.out
              have HN2 : Hid (∀ W, Ext wy W → Calls Try.prog 19 #[.agg #[.int .i64 y.w, .int .i64 y.h, .int .i64 y.l, .slice yA yn yc, .slice yA' yn' yc', .slice yA'' yn'' yc''], .int .i64 n] W fun e w' => ∃ v', e = .returned v' ∧ Mk W w' v' (nextO y n)) := fun W hW => qNext_calls n W (HYY.out.below hW) HYL.out
              have hnl6 : (nextO y n).length ≤ 1000 := by
                unfold nextO
                split
                · exact Nat.le_trans (nextL_len y n) (by omega)
                · simp
              go_region_held3 (fun w' => Ext wy w' ∧ Ext wk w')
                (first | (exact ⟨hxyk.drew, (Ext.refl wk).drew⟩) | (exact ⟨hxyk.drew.trans hM1.ext, (Ext.refl wk).drew.trans hM1.ext⟩) | (exact ⟨(hxyk.drew.trans hM1.ext).trans hM2.ext, ((Ext.refl wk).drew.trans hM1.ext).trans hM2.ext⟩) | (exact ⟨((hxyk.drew.trans hM1.ext).trans hM2.ext).trans (hD3.below _), (((Ext.refl wk).drew.trans hM1.ext).trans hM2.ext).trans (hD3.below _)⟩))
                (first
                  | (go_at_call 18; refine (HN1.out _ hxyk.drew).mono ?_; rintro e wn1 ⟨v1', rfl, hM1⟩)
                  | (go_at_call 19; refine (HN2.out _ (hxyk.drew.trans hM1.ext)).mono ?_; rintro e wn2 ⟨v2', rfl, hM2⟩)
                  | (go_at_call 17; refine (is_t _ rfl (hM1.ints.below hM2.ext) hM2.ints hnl6).mono ?_; rintro e wn3 ⟨rfl, hD3⟩))
              rename_i hS
              have hxk3 : Ext wl wn3 := hxlk.trans hS.2
              clear hS hM1 hM2 hD3 HN1 HN2
              go_wp2_with fail
              go_roundg (L.length - (k + 1))
              case measure => omega
              case rel => exact ⟨k + 1, by go_num, hk, rfl, hxk3⟩
            · obtain rfl : k = L.length := by omega
              clear hOL
              have hk2 : decide (L.length < L.length) = false := decide_eq_false (by omega)
              go_upto_region 15 with fail
              have hx2k : Ext wb wk := hxbk
              go_cut [77, 78, 79] (fun v v78 v79 wx => v78 = .int .i64 4 ∧ v79 = .int .i64 0 ∧ ∃ b, v = .slice (some ⟨b, 0, none⟩) 4 4 ∧ Hid (∀ i : Nat, i < 4 → ∃ n : Int, wx.cell? ⟨b, i, none⟩ = some (.int .i64 n)) ∧ Hid (Ext wk wx))
              case first =>
                go_wp2_with fail
                go_meet
                exact ⟨rfl, rfl, _, rfl, ints_four _ _ _ _ _, (Ext.refl _).alloc _⟩
              case rest =>
                obtain ⟨rfl, rfl, bt, rfl, hTS, hXt⟩ := hcut
                obtain ⟨wt, rfl⟩ : ∃ wt : World, wt = wc := ⟨_, rfl⟩
                have hxyt : Ext wy wt := hxyk.trans hXt.out
                have hxbt : Ext wb wt := hxbk.trans hXt.out
                clear hXt
                go_wp2_with fail
                go_loopg [79] 4 (fun gk v wr => ∃ k : Nat, v = .int .i64 k ∧ k ≤ 4 ∧ gk = 4 - k ∧ Hid (Ext wt wr))
                case atStart => exact ⟨0, rfl, by omega, rfl, Ext.refl _⟩
                case round =>
                  obtain ⟨k, rfl, hk4, rfl, hX⟩ := hrel
                  obtain ⟨ws, rfl⟩ : ∃ ws : World, ws = wr := ⟨_, rfl⟩
                  have hxts : Ext wt ws := hX.out
                  have hxys : Ext wy ws := hxyt.trans hxts
                  have hxbs : Ext wb ws := hxbt.trans hxts
                  by_cases hk : k < 4
                  · obtain ⟨tt, hct⟩ := hTS.out k hk
                    have rt := Ext.rule hct
                    have hk0 : decide ((k : Int) < 4) = true := decide_eq_true (by omega)
                    have hk1 : (k : Int) < 4 := by omega
                    clear hct
                    go_upto_region 18 with fail
                    have hxys' : Ext wy ws := hxys
                    have HIs := Lib.hid (HIB.out.below hxbs)
                    obtain ⟨h, hh⟩ : ∃ h : Nat, h = l.length / 2 := ⟨_, rfl⟩
                    have hq1 : (l.length : Int).tdiv 2 = (h : Int) := by rw [Int.tdiv_eq_ediv_of_nonneg (by omega)]; omega
                    have hq2 : (l.length : Int) / 2 = (h : Int) := by omega
                    have hq3 : (0 : Int) ≤ (h : Int) := by omega
                    have hq4 : (h : Int) ≤ (l.length : Int) := by omega
                    have hq5 : (h : Int) ≤ (cl : Int) := by omega
                    have HHL : Hid (h ≤ l.length) := by show _ ≤ _; omega
                    have HH := Lib.hid hh
                    clear hh
                    go_cut [17, 18] (fun vf vu wx => Hid (Ints wx (fun b => w1.heap.size ≤ b) vf (l.take h) ∧ Ints wx (fun b => w1.heap.size ≤ b) vu (l.drop h) ∧ Ext ws wx))
                    case first =>
                      rcases Nat.eq_zero_or_pos l.length with hl0 | hl0
                      · obtain rfl : l = [] := List.eq_nil_of_length_eq_zero hl0
                        obtain rfl : h = 0 := by have := HH.out; simpa using this
                        have hEd : ∀ q, Ext ws (ws.drewN q) := fun q => (Ext.refl ws).drewN q
                        have HED := Lib.hid hEd
                        clear hEd hl0 hq1 hq2 hq3 hq4 hq5
                        rcases HMK.out.2 with ⟨e, -⟩ | ⟨g0, cap, cur, e, -, -, -, -, -, -⟩
                        · injection e with e1 e2 e3
                          subst e1 e3
                          clear e2
                          go_quiet (fail)
                          go_wp2_with fail
                          go_meet
                          exact ⟨Ints.nil _ _, Ints.nil _ _, (HED.out _)⟩
                        · injection e with e1 e2 e3
                          subst e1 e3
                          clear e2
                          by_cases hc0 : cl = 0
                          · subst hc0
                            go_quiet (fail)
                            go_wp2_with fail
                            go_meet
                            exact ⟨⟨_, _, rfl, Nat.le_refl _, RowA.nil _ _ _ _⟩, ⟨_, _, rfl, Nat.le_refl _, RowA.nil _ _ _ _⟩, (HED.out _)⟩
                          · have hcpos : 0 < cl := by omega
                            have hcpos2 : (0 : Int) < (cl : Int) := by omega
                            go_quiet (fail)
                            go_wp2_with fail
                            go_meet
                            exact ⟨⟨_, _, rfl, Nat.zero_le _, RowA.nil _ _ _ _⟩, ⟨_, _, rfl, Nat.zero_le _, RowA.nil _ _ _ _⟩, (HED.out _)⟩
                      · have hlt : (h : Int) < (cl : Int) := by have := HH.out; omega
                        have hlt2 : (h : Int) < (l.length : Int) := by have := HH.out; omega
                        obtain ⟨A0, c0, e, -, hr⟩ := id HIs.out
                        injection e with e1 e2 e3
                        subst e1
                        subst e3
                        obtain ⟨b0, of0, e4, hob, hcc'⟩ := hr.2 hl0
                        subst e4
                        have HCC := Lib.hid hcc'
                        have HOB := Lib.hid hob
                        clear hr hcc' hl0 e2 hob
                        go_quiet (fail)
                        go_wp2_with fail
                        go_meet
                        have hEd : Ext ws (ws.drewN nq) := (Ext.refl ws).drewN nq
                        refine ⟨⟨_, _, by rw [List.length_take, Nat.min_eq_left HHL.out], by rw [List.length_take]; have := HH.out; omega, by simp, fun _ => ⟨b0, of0, rfl, HOB.out, fun j u hu => hEd.cell (HCC.out j u ?_)⟩⟩, ⟨_, _, by rw [List.length_drop], by rw [List.length_drop]; omega, by simp, fun _ => ⟨b0, of0 + h, rfl, HOB.out, fun j u hu => ?_⟩⟩, hEd⟩
                        · rw [List.map_take, List.getElem?_take] at hu
                          split at hu
                          · exact hu
                          · cases hu
                        · rw [List.map_drop, List.getElem?_drop] at hu
                          have := HCC.out (h + j) u hu
                          rw [Nat.add_assoc]
                          exact hEd.cell this
                    case rest =>
                      obtain ⟨hvf, hvu, hx6⟩ := hcut.out
                      obtain ⟨wv, rfl⟩ : ∃ wv : World, wv = wc := ⟨_, rfl⟩
                      have HVF := Lib.hid hvf
                      have HVU := Lib.hid hvu
                      obtain ⟨Af1, cf1, rfl, -, -⟩ := hvf
                      obtain ⟨Au1, cu1, rfl, -, -⟩ := hvu
                      clear hcut
                      obtain ⟨fr, hfr⟩ : ∃ fr, fr = l.take h := ⟨_, rfl⟩
                      obtain ⟨us, hus⟩ : ∃ us, us = l.drop h := ⟨_, rfl⟩
                      rw [← hfr] at HVF ⊢
                      rw [← hus] at HVU ⊢
                      have hfl : fr.length ≤ 12 := by rw [hfr, List.length_take]; omega
                      have hul : us.length ≤ 12 := by rw [hus, List.length_drop]; omega
                      have hxyv : Ext wy wv := hxys.trans hx6
                      have hxbv : Ext wb wv := hxbs.trans hx6
                      have hxtv : Ext wt wv := hxts.trans hx6
                      have u0y : ∀ W, Ext wy W → W.cell? ⟨w.heap.size + 1 + 1, 0, none⟩ = some (.int .i64 p0) := fun W h => u0b W (hxby.trans h)
                      clear hfr hus hq1 hq2 hq3 hq4 hq5
                      go_wp2_with fail
                      refine wp_region_held_drew (S := (fun W => Ext wy W ∧ Ext wv W)) mixedA (⟨hxyv.drew, (Ext.refl wv).drew⟩) (fun hHeld => ?_)
                      have hd0 : Ext wv wv.drew := (Ext.refl wv).drew
                      generalize wv.drew = wd at hHeld hd0 ⊢
                      refine wpAnyH_take (i := 0) (v := ?v1) rfl (by kernel_rfl) (by kernel_rfl) (by kernel_rfl) (fun _ _ _ h => h) (Or.inl ⟨?w1, ?y1⟩) hHeld ?r1
                      case w1 => rfl
                      case y1 => (intro w hSw; go_simp; try with_reducible rfl)
                      simp only [List.getElem_toArray, List.getElem_cons_zero, Act.put, List.setIfInBounds_toArray, List.set_cons_zero, List.set_cons_succ]
                      refine wpAnyH_take (i := 1) (v := ?v2) rfl (by kernel_rfl) (by kernel_rfl) (by kernel_rfl) (fun _ _ _ h => h) (Or.inl ⟨?w2, ?y2⟩) hHeld ?r2
                      case w2 => rfl
                      case y2 => (intro w hSw; go_simp; try with_reducible rfl)
                      simp only [List.getElem_toArray, List.getElem_cons_succ, List.getElem_cons_zero, Act.put, List.setIfInBounds_toArray, List.set_cons_zero, List.set_cons_succ]
                      refine wpAnyH_take (i := 2) (v := ?v3) rfl (by kernel_rfl) (by kernel_rfl) (by kernel_rfl) (fun _ _ _ h => h) (Or.inl ⟨?w3, ?y3⟩) hHeld ?r3
                      case w3 => rfl
                      case y3 => (intro w hSw; go_simp; try with_reducible rfl)
                      simp only [List.getElem_toArray, List.getElem_cons_succ, List.getElem_cons_zero, Act.put, List.setIfInBounds_toArray, List.set_cons_zero, List.set_cons_succ]
                      refine wpAnyH_take (i := 3) (v := ?v4) rfl (by kernel_rfl) (by kernel_rfl) (by kernel_rfl) (fun _ _ _ h => h) (Or.inl ⟨?w4, ?y4⟩) hHeld ?r4
                      case w4 => rfl
                      case y4 => (intro w hSw; go_simp; try with_reducible rfl)
                      simp only [List.getElem_toArray, List.getElem_cons_succ, List.getElem_cons_zero, Act.put, List.setIfInBounds_toArray, List.set_cons_zero, List.set_cons_succ]
                      refine wpAnyH_take (i := 5) (v := ?v5) rfl (by kernel_rfl) (by kernel_rfl) (by kernel_rfl) (fun _ _ _ h => h) (Or.inl ⟨?w5, ?y5⟩) hHeld ?r5
                      case w5 => rfl
                      case y5 => (intro w hSw; go_simp; try with_reducible rfl)
                      simp only [List.getElem_toArray, List.getElem_cons_succ, List.getElem_cons_zero, Act.put, List.setIfInBounds_toArray, List.set_cons_zero, List.set_cons_succ]
                      refine wpAnyH_take (i := 6) (v := ?v6) rfl (by kernel_rfl) (by kernel_rfl) (by kernel_rfl) (fun _ _ _ h => h) (Or.inl ⟨?w6, ?y6⟩) hHeld ?r6
                      case w6 => rfl
                      case y6 => (intro w hSw; go_simp; try with_reducible rfl)
                      simp only [List.getElem_toArray, List.getElem_cons_succ, List.getElem_cons_zero, Act.put, List.setIfInBounds_toArray, List.set_cons_zero, List.set_cons_succ]
                      refine wpAnyH_take (i := 7) (v := ?v7) rfl (by kernel_rfl) (by kernel_rfl) (by kernel_rfl) (fun _ _ _ h => h) (Or.inl ⟨?w7, ?y7⟩) hHeld ?r7
                      case w7 => rfl
                      case y7 => (intro w hSw; go_simp; try with_reducible rfl)
                      simp only [List.getElem_toArray, List.getElem_cons_succ, List.getElem_cons_zero, Act.put, List.setIfInBounds_toArray, List.set_cons_zero, List.set_cons_succ]
                      refine wpAnyH_take (i := 8) (v := ?v8) rfl (by kernel_rfl) (by kernel_rfl) (by kernel_rfl) (fun _ _ _ h => h) (Or.inl ⟨?w8, ?y8⟩) hHeld ?r8
                      case w8 => rfl
                      case y8 => (intro w hSw; go_simp; try with_reducible rfl)
                      simp only [List.getElem_toArray, List.getElem_cons_succ, List.getElem_cons_zero, Act.put, List.setIfInBounds_toArray, List.set_cons_zero, List.set_cons_succ]
                      refine wpAnyH_ready (rs := [4]) (by kernel_rfl) (by simp) ?_
                      refine AllReadyH.cons rfl (fun K hK => ?_) ?_
                      · go_simp
                        go_at_call 20
                        have hXW1 : Ext wv wd := hd0
                        refine (rReach_calls tt wd (HYY.out.below (hxyv.trans hXW1)) HYL.out (HVF.out.below hXW1) (by omega) (HVU.out.below hXW1) (by omega)).mono ?_
                        rintro e wr1 ⟨v1', rfl, hM1⟩
                        have hX1 : Ext wv wr1 := hXW1.trans hM1.ext
                        have HR1 := Lib.hid hM1.ints
                        clear hM1
                        refine hK.out _ _ (⟨hxyv.trans (hX1), hX1⟩) (fun hHeld => ?_)
                        clear hK K
                        try simp only [List.getElem_toArray, List.getElem_cons_succ, List.getElem_cons_zero, Act.put, List.setIfInBounds_toArray, List.set_cons_zero, List.set_cons_succ]
                        refine wpAnyH_ready (rs := [9]) (by kernel_rfl) (by simp) ?_
                        refine AllReadyH.cons rfl (fun K hK => ?_) ?_
                        · go_simp
                          go_at_call 21
                          have hXW2 : Ext wv wr1 := hX1
                          refine (qReach_calls tt wr1 (HYY.out.below (hxyv.trans hXW2)) HYL.out (HVF.out.below hXW2) (by omega) (HVU.out.below hXW2) (by omega)).mono ?_
                          rintro e wr2 ⟨v2', rfl, hM2⟩
                          have Hm12 := Lib.hid (HR1.out.below hM2.ext)
                          have hX2 : Ext wv wr2 := hXW2.trans hM2.ext
                          have HR2 := Lib.hid hM2.ints
                          clear hM2
                          refine hK.out _ _ (⟨hxyv.trans (hX2), hX2⟩) (fun hHeld => ?_)
                          clear hK K
                          try simp only [List.getElem_toArray, List.getElem_cons_succ, List.getElem_cons_zero, Act.put, List.setIfInBounds_toArray, List.set_cons_zero, List.set_cons_succ]
                          refine wpAnyH_ready (rs := [10]) (by kernel_rfl) (by simp) ?_
                          refine AllReadyH.cons rfl (fun K hK => ?_) ?_
                          · go_simp
                            go_at_call 17
                            have hXW3 : Ext wv wr2 := hX2
                            refine (is_t wr2 rfl Hm12.out HR2.out (reachO_len _ _ _ _)).mono ?_
                            rintro e wr3 ⟨rfl, hD3⟩
                            have hX3 : Ext wv wr3 := hXW3.trans (hD3.below _)
                            clear hD3
                            refine hK.out _ _ (⟨hxyv.trans (hX3), hX3⟩) (fun hHeld => ?_)
                            clear hK K
                            try simp only [List.getElem_toArray, List.getElem_cons_succ, List.getElem_cons_zero, Act.put, List.setIfInBounds_toArray, List.set_cons_zero, List.set_cons_succ]
                            refine wpAnyH_take (i := 11) (v := ?v9) rfl (by kernel_rfl) (by kernel_rfl) (by kernel_rfl) (fun _ _ _ h => h) (Or.inl ⟨?w9, ?y9⟩) hHeld ?r9
                            case w9 => rfl
                            case y9 => (intro w hSw; go_simp; try with_reducible rfl)
                            simp only [List.getElem_toArray, List.getElem_cons_succ, List.getElem_cons_zero, Act.put, List.setIfInBounds_toArray, List.set_cons_zero, List.set_cons_succ]
                            refine wpAnyH_take (i := 12) (v := ?v10) rfl (by kernel_rfl) (by kernel_rfl) (by kernel_rfl) (fun _ _ _ h => h) (Or.inl ⟨?w10, ?y10⟩) hHeld ?r10
                            case w10 => rfl
                            case y10 => (intro w hSw; go_simp; try with_reducible rfl)
                            simp only [List.getElem_toArray, List.getElem_cons_succ, List.getElem_cons_zero, Act.put, List.setIfInBounds_toArray, List.set_cons_zero, List.set_cons_succ]
                            refine wpAnyH_take (i := 13) (v := ?v11) rfl (by kernel_rfl) (by kernel_rfl) (by kernel_rfl) (fun _ _ _ h => h) (Or.inl ⟨?w11, ?y11⟩) hHeld ?r11
                            case w11 => rfl
                            case y11 => (intro w hSw; go_simp; try with_reducible rfl)
                            simp only [List.getElem_toArray, List.getElem_cons_succ, List.getElem_cons_zero, Act.put, List.setIfInBounds_toArray, List.set_cons_zero, List.set_cons_succ]
                            refine wpAnyH_take (i := 14) (v := ?v12) rfl (by kernel_rfl) (by kernel_rfl) (by kernel_rfl) (fun _ _ _ h => h) (Or.inl ⟨?w12, ?y12⟩) hHeld ?r12
                            case w12 => rfl
                            case y12 => (intro w hSw; go_simp; try with_reducible rfl)
                            simp only [List.getElem_toArray, List.getElem_cons_succ, List.getElem_cons_zero, Act.put, List.setIfInBounds_toArray, List.set_cons_zero, List.set_cons_succ]
                            refine wpAnyH_take (i := 15) (v := ?v13) rfl (by kernel_rfl) (by kernel_rfl) (by kernel_rfl) (fun _ _ _ h => h) (Or.inl ⟨?w13, ?y13⟩) hHeld ?r13
                            case w13 => rfl
                            case y13 => (intro w hSw; go_simp; try with_reducible rfl)
                            simp only [List.getElem_toArray, List.getElem_cons_succ, List.getElem_cons_zero, Act.put, List.setIfInBounds_toArray, List.set_cons_zero, List.set_cons_succ]
                            refine wpAnyH_take (i := 16) (v := ?v14) rfl (by kernel_rfl) (by kernel_rfl) (by kernel_rfl) (fun _ _ _ h => h) (Or.inl ⟨?w14, ?y14⟩) hHeld ?r14
                            case w14 => rfl
                            case y14 => (intro w hSw; go_simp; try with_reducible rfl)
                            simp only [List.getElem_toArray, List.getElem_cons_succ, List.getElem_cons_zero, Act.put, List.setIfInBounds_toArray, List.set_cons_zero, List.set_cons_succ]
                            refine wpAnyH_take (i := 19) (v := ?v15) rfl (by kernel_rfl) (by kernel_rfl) (by kernel_rfl) (fun _ _ _ h => h) (Or.inl ⟨?w15, ?y15⟩) hHeld ?r15
                            case w15 => rfl
                            case y15 => (intro w hSw; go_simp; try with_reducible rfl)
                            simp only [List.getElem_toArray, List.getElem_cons_succ, List.getElem_cons_zero, Act.put, List.setIfInBounds_toArray, List.set_cons_zero, List.set_cons_succ]
                            refine wpAnyH_take (i := 20) (v := ?v16) rfl (by kernel_rfl) (by kernel_rfl) (by kernel_rfl) (fun _ _ _ h => h) (Or.inl ⟨?w16, ?y16⟩) hHeld ?r16
                            case w16 => rfl
                            case y16 => (intro w hSw; go_simp; try with_reducible rfl)
                            simp only [List.getElem_toArray, List.getElem_cons_succ, List.getElem_cons_zero, Act.put, List.setIfInBounds_toArray, List.set_cons_zero, List.set_cons_succ]
                            refine wpAnyH_take (i := 21) (v := ?v17) rfl (by kernel_rfl) (by kernel_rfl) (by kernel_rfl) (fun _ _ _ h => h) (Or.inl ⟨?w17, ?y17⟩) hHeld ?r17
                            case w17 => rfl
                            case y17 => (intro w hSw; go_simp; try with_reducible rfl)
                            simp only [List.getElem_toArray, List.getElem_cons_succ, List.getElem_cons_zero, Act.put, List.setIfInBounds_toArray, List.set_cons_zero, List.set_cons_succ]
                            refine wpAnyH_take (i := 22) (v := ?v18) rfl (by kernel_rfl) (by kernel_rfl) (by kernel_rfl) (fun _ _ _ h => h) (Or.inl ⟨?w18, ?y18⟩) hHeld ?r18
                            case w18 => rfl
                            case y18 => (intro w hSw; go_simp; try with_reducible rfl)
                            simp only [List.getElem_toArray, List.getElem_cons_succ, List.getElem_cons_zero, Act.put, List.setIfInBounds_toArray, List.set_cons_zero, List.set_cons_succ]
                            refine wpAnyH_ready (rs := [17, 23]) (by kernel_rfl) (by simp) ?_
                            refine AllReadyH.cons rfl (fun K hK => ?_) ?_
                            · go_simp
                              have hXW4 : Ext wv wr3 := hX3
                              have HP4 : Hid (Ints (wr3.alloc (.cells #[.int .i64 p0, .int .i64 0] 3)) (fun _ => True) (.slice (some ⟨wr3.heap.size, 0, none⟩) 2 2) [p0, 0]) := by have h := pair_ints wr3 p0 0; exact (show Ints _ _ _ _ by simpa using h)
                              refine hK.out _ _ (⟨hxyv.trans (hXW4.alloc (.cells #[.int .i64 p0, .int .i64 0] 3)), hXW4.alloc (.cells #[.int .i64 p0, .int .i64 0] 3)⟩) (fun hHeld => ?_)
                              clear hK K
                              try simp only [List.getElem_toArray, List.getElem_cons_succ, List.getElem_cons_zero, Act.put, List.setIfInBounds_toArray, List.set_cons_zero, List.set_cons_succ]
                              refine wpAnyH_ready (rs := [18, 23]) (by kernel_rfl) (by simp) ?_
                              refine AllReadyH.cons rfl (fun K hK => ?_) ?_
                              · go_simp
                                go_at_call 20
                                have hXW5 : Ext wv (wr3.alloc (.cells #[.int .i64 p0, .int .i64 0] 3)) := hXW4.alloc (.cells #[.int .i64 p0, .int .i64 0] 3)
                                refine (rReach_calls tt (wr3.alloc (.cells #[.int .i64 p0, .int .i64 0] 3)) (HYY.out.below (hxyv.trans hXW5)) HYL.out HP4.out (by simp) (Ints.nil _ (fun _ => True)) (by simp)).mono ?_
                                rintro e wr5 ⟨v5', rfl, hM5⟩
                                have Hp175 := Lib.hid (HP4.out.below hM5.ext)
                                have hX5 : Ext wv wr5 := hXW5.trans hM5.ext
                                have HR5 := Lib.hid hM5.ints
                                clear hM5
                                refine hK.out _ _ (⟨hxyv.trans (hX5), hX5⟩) (fun hHeld => ?_)
                                clear hK K
                                try simp only [List.getElem_toArray, List.getElem_cons_succ, List.getElem_cons_zero, Act.put, List.setIfInBounds_toArray, List.set_cons_zero, List.set_cons_succ]
                                refine wpAnyH_ready (rs := [23]) (by kernel_rfl) (by simp) ?_
                                refine AllReadyH.cons rfl (fun K hK => ?_) ?_
                                · go_simp
                                  have hXW6 : Ext wv wr5 := hX5
                                  have HP6 : Hid (Ints (wr5.alloc (.cells #[.int .i64 p0, .int .i64 0] 3)) (fun _ => True) (.slice (some ⟨wr5.heap.size, 0, none⟩) 2 2) [p0, 0]) := by have h := pair_ints wr5 p0 0; exact (show Ints _ _ _ _ by simpa using h)
                                  have Hp176 := Lib.hid (Hp175.out.below ((Ext.refl wr5).alloc (.cells #[.int .i64 p0, .int .i64 0] 3)))
                                  have Hm36 := Lib.hid (HR5.out.below ((Ext.refl wr5).alloc (.cells #[.int .i64 p0, .int .i64 0] 3)))
                                  refine hK.out _ _ (⟨hxyv.trans (hXW6.alloc (.cells #[.int .i64 p0, .int .i64 0] 3)), hXW6.alloc (.cells #[.int .i64 p0, .int .i64 0] 3)⟩) (fun hHeld => ?_)
                                  clear hK K
                                  try simp only [List.getElem_toArray, List.getElem_cons_succ, List.getElem_cons_zero, Act.put, List.setIfInBounds_toArray, List.set_cons_zero, List.set_cons_succ]
                                  refine wpAnyH_ready (rs := [24]) (by kernel_rfl) (by simp) ?_
                                  refine AllReadyH.cons rfl (fun K hK => ?_) ?_
                                  · go_simp
                                    go_at_call 21
                                    have hXW7 : Ext wv (wr5.alloc (.cells #[.int .i64 p0, .int .i64 0] 3)) := hXW6.alloc (.cells #[.int .i64 p0, .int .i64 0] 3)
                                    refine (qReach_calls tt (wr5.alloc (.cells #[.int .i64 p0, .int .i64 0] 3)) (HYY.out.below (hxyv.trans hXW7)) HYL.out HP6.out (by simp) (Ints.nil _ (fun _ => True)) (by simp)).mono ?_
                                    rintro e wr7 ⟨v7', rfl, hM7⟩
                                    have Hp177 := Lib.hid (Hp176.out.below hM7.ext)
                                    have Hp237 := Lib.hid (HP6.out.below hM7.ext)
                                    have Hm37 := Lib.hid (Hm36.out.below hM7.ext)
                                    have hX7 : Ext wv wr7 := hXW7.trans hM7.ext
                                    have HR7 := Lib.hid hM7.ints
                                    clear hM7
                                    refine hK.out _ _ (⟨hxyv.trans (hX7), hX7⟩) (fun hHeld => ?_)
                                    clear hK K
                                    try simp only [List.getElem_toArray, List.getElem_cons_succ, List.getElem_cons_zero, Act.put, List.setIfInBounds_toArray, List.set_cons_zero, List.set_cons_succ]
                                    refine wpAnyH_ready (rs := [25]) (by kernel_rfl) (by simp) ?_
                                    refine AllReadyH.cons rfl (fun K hK => ?_) ?_
                                    · go_simp
                                      go_at_call 17
                                      have hXW8 : Ext wv wr7 := hX7
                                      refine (is_t wr7 rfl Hm37.out HR7.out (reachO_len _ _ _ _)).mono ?_
                                      rintro e wr8 ⟨rfl, hD8⟩
                                      have hX8 : Ext wv wr8 := hXW8.trans (hD8.below _)
                                      clear hD8
                                      refine hK.out _ _ (⟨hxyv.trans (hX8), hX8⟩) (fun hHeld => ?_)
                                      clear hK K
                                      try simp only [List.getElem_toArray, List.getElem_cons_succ, List.getElem_cons_zero, Act.put, List.setIfInBounds_toArray, List.set_cons_zero, List.set_cons_succ]
                                      refine wpAnyH_take (i := 26) (v := ?v19) rfl (by kernel_rfl) (by kernel_rfl) (by kernel_rfl) (fun _ _ _ h => h) (Or.inl ⟨?w19, ?y19⟩) hHeld ?r19
                                      case w19 => rfl
                                      case y19 => (intro w hSw; go_simp; try with_reducible rfl)
                                      simp only [List.getElem_toArray, List.getElem_cons_succ, List.getElem_cons_zero, Act.put, List.setIfInBounds_toArray, List.set_cons_zero, List.set_cons_succ]
                                      refine wpAnyH_take (i := 27) (v := ?v20) rfl (by kernel_rfl) (by kernel_rfl) (by kernel_rfl) (fun _ _ _ h => h) (Or.inl ⟨?w20, ?y20⟩) hHeld ?r20
                                      case w20 => rfl
                                      case y20 => (intro w hSw; go_simp; try with_reducible rfl)
                                      simp only [List.getElem_toArray, List.getElem_cons_succ, List.getElem_cons_zero, Act.put, List.setIfInBounds_toArray, List.set_cons_zero, List.set_cons_succ]
                                      refine wpAnyH_done (by kernel_rfl) ?_ _
                                      have hXF := hxtv.trans (hX8)
                                      go_wp2_with fail
                                      go_roundg (4 - (k + 1))
                                      case measure => omega
                                      case rel => exact ⟨k + 1, by go_num, hk, rfl, hXF⟩
                                    exact AllReadyH.nil
                                  exact AllReadyH.nil
                                exact AllReadyH.nil
                              refine AllReadyH.cons rfl (fun K hK => ?_) ?_
                              · go_simp
                                have hXW9 : Ext wv (wr3.alloc (.cells #[.int .i64 p0, .int .i64 0] 3)) := hXW4.alloc (.cells #[.int .i64 p0, .int .i64 0] 3)
                                have HP9 : Hid (Ints ((wr3.alloc (.cells #[.int .i64 p0, .int .i64 0] 3)).alloc (.cells #[.int .i64 p0, .int .i64 0] 3)) (fun _ => True) (.slice (some ⟨wr3.heap.size + 1, 0, none⟩) 2 2) [p0, 0]) := by have h := pair_ints (wr3.alloc (.cells #[.int .i64 p0, .int .i64 0] 3)) p0 0; exact (show Ints _ _ _ _ by simpa using h)
                                have Hp179 := Lib.hid (HP4.out.below ((Ext.refl (wr3.alloc (.cells #[.int .i64 p0, .int .i64 0] 3))).alloc (.cells #[.int .i64 p0, .int .i64 0] 3)))
                                refine hK.out _ _ (⟨hxyv.trans (hXW9.alloc (.cells #[.int .i64 p0, .int .i64 0] 3)), hXW9.alloc (.cells #[.int .i64 p0, .int .i64 0] 3)⟩) (fun hHeld => ?_)
                                clear hK K
                                try simp only [List.getElem_toArray, List.getElem_cons_succ, List.getElem_cons_zero, Act.put, List.setIfInBounds_toArray, List.set_cons_zero, List.set_cons_succ]
                                refine wpAnyH_ready (rs := [18]) (by kernel_rfl) (by simp) ?_
                                refine AllReadyH.cons rfl (fun K hK => ?_) ?_
                                · go_simp
                                  go_at_call 20
                                  have hXW10 : Ext wv ((wr3.alloc (.cells #[.int .i64 p0, .int .i64 0] 3)).alloc (.cells #[.int .i64 p0, .int .i64 0] 3)) := hXW9.alloc (.cells #[.int .i64 p0, .int .i64 0] 3)
                                  refine (rReach_calls tt ((wr3.alloc (.cells #[.int .i64 p0, .int .i64 0] 3)).alloc (.cells #[.int .i64 p0, .int .i64 0] 3)) (HYY.out.below (hxyv.trans hXW10)) HYL.out Hp179.out (by simp) (Ints.nil _ (fun _ => True)) (by simp)).mono ?_
                                  rintro e wr10 ⟨v10', rfl, hM10⟩
                                  have Hp1710 := Lib.hid (Hp179.out.below hM10.ext)
                                  have Hp2310 := Lib.hid (HP9.out.below hM10.ext)
                                  have hX10 : Ext wv wr10 := hXW10.trans hM10.ext
                                  have HR10 := Lib.hid hM10.ints
                                  clear hM10
                                  refine hK.out _ _ (⟨hxyv.trans (hX10), hX10⟩) (fun hHeld => ?_)
                                  clear hK K
                                  try simp only [List.getElem_toArray, List.getElem_cons_succ, List.getElem_cons_zero, Act.put, List.setIfInBounds_toArray, List.set_cons_zero, List.set_cons_succ]
                                  refine wpAnyH_ready (rs := [24]) (by kernel_rfl) (by simp) ?_
                                  refine AllReadyH.cons rfl (fun K hK => ?_) ?_
                                  · go_simp
                                    go_at_call 21
                                    have hXW11 : Ext wv wr10 := hX10
                                    refine (qReach_calls tt wr10 (HYY.out.below (hxyv.trans hXW11)) HYL.out Hp2310.out (by simp) (Ints.nil _ (fun _ => True)) (by simp)).mono ?_
                                    rintro e wr11 ⟨v11', rfl, hM11⟩
                                    have Hp1711 := Lib.hid (Hp1710.out.below hM11.ext)
                                    have Hp2311 := Lib.hid (Hp2310.out.below hM11.ext)
                                    have Hm311 := Lib.hid (HR10.out.below hM11.ext)
                                    have hX11 : Ext wv wr11 := hXW11.trans hM11.ext
                                    have HR11 := Lib.hid hM11.ints
                                    clear hM11
                                    refine hK.out _ _ (⟨hxyv.trans (hX11), hX11⟩) (fun hHeld => ?_)
                                    clear hK K
                                    try simp only [List.getElem_toArray, List.getElem_cons_succ, List.getElem_cons_zero, Act.put, List.setIfInBounds_toArray, List.set_cons_zero, List.set_cons_succ]
                                    refine wpAnyH_ready (rs := [25]) (by kernel_rfl) (by simp) ?_
                                    refine AllReadyH.cons rfl (fun K hK => ?_) ?_
                                    · go_simp
                                      go_at_call 17
                                      have hXW12 : Ext wv wr11 := hX11
                                      refine (is_t wr11 rfl Hm311.out HR11.out (reachO_len _ _ _ _)).mono ?_
                                      rintro e wr12 ⟨rfl, hD12⟩
                                      have hX12 : Ext wv wr12 := hXW12.trans (hD12.below _)
                                      clear hD12
                                      refine hK.out _ _ (⟨hxyv.trans (hX12), hX12⟩) (fun hHeld => ?_)
                                      clear hK K
                                      try simp only [List.getElem_toArray, List.getElem_cons_succ, List.getElem_cons_zero, Act.put, List.setIfInBounds_toArray, List.set_cons_zero, List.set_cons_succ]
                                      refine wpAnyH_take (i := 26) (v := ?v21) rfl (by kernel_rfl) (by kernel_rfl) (by kernel_rfl) (fun _ _ _ h => h) (Or.inl ⟨?w21, ?y21⟩) hHeld ?r21
                                      case w21 => rfl
                                      case y21 => (intro w hSw; go_simp; try with_reducible rfl)
                                      simp only [List.getElem_toArray, List.getElem_cons_succ, List.getElem_cons_zero, Act.put, List.setIfInBounds_toArray, List.set_cons_zero, List.set_cons_succ]
                                      refine wpAnyH_take (i := 27) (v := ?v22) rfl (by kernel_rfl) (by kernel_rfl) (by kernel_rfl) (fun _ _ _ h => h) (Or.inl ⟨?w22, ?y22⟩) hHeld ?r22
                                      case w22 => rfl
                                      case y22 => (intro w hSw; go_simp; try with_reducible rfl)
                                      simp only [List.getElem_toArray, List.getElem_cons_succ, List.getElem_cons_zero, Act.put, List.setIfInBounds_toArray, List.set_cons_zero, List.set_cons_succ]
                                      refine wpAnyH_done (by kernel_rfl) ?_ _
                                      have hXF := hxtv.trans (hX12)
                                      go_wp2_with fail
                                      go_roundg (4 - (k + 1))
                                      case measure => omega
                                      case rel => exact ⟨k + 1, by go_num, hk, rfl, hXF⟩
                                    exact AllReadyH.nil
                                  exact AllReadyH.nil
                                exact AllReadyH.nil
                              exact AllReadyH.nil
                            refine AllReadyH.cons rfl (fun K hK => ?_) ?_
                            · go_simp
                              have hXW13 : Ext wv wr3 := hX3
                              have HP13 : Hid (Ints (wr3.alloc (.cells #[.int .i64 p0, .int .i64 0] 3)) (fun _ => True) (.slice (some ⟨wr3.heap.size, 0, none⟩) 2 2) [p0, 0]) := by have h := pair_ints wr3 p0 0; exact (show Ints _ _ _ _ by simpa using h)
                              refine hK.out _ _ (⟨hxyv.trans (hXW13.alloc (.cells #[.int .i64 p0, .int .i64 0] 3)), hXW13.alloc (.cells #[.int .i64 p0, .int .i64 0] 3)⟩) (fun hHeld => ?_)
                              clear hK K
                              try simp only [List.getElem_toArray, List.getElem_cons_succ, List.getElem_cons_zero, Act.put, List.setIfInBounds_toArray, List.set_cons_zero, List.set_cons_succ]
                              refine wpAnyH_ready (rs := [17]) (by kernel_rfl) (by simp) ?_
                              refine AllReadyH.cons rfl (fun K hK => ?_) ?_
                              · go_simp
                                have hXW14 : Ext wv (wr3.alloc (.cells #[.int .i64 p0, .int .i64 0] 3)) := hXW13.alloc (.cells #[.int .i64 p0, .int .i64 0] 3)
                                have HP14 : Hid (Ints ((wr3.alloc (.cells #[.int .i64 p0, .int .i64 0] 3)).alloc (.cells #[.int .i64 p0, .int .i64 0] 3)) (fun _ => True) (.slice (some ⟨wr3.heap.size + 1, 0, none⟩) 2 2) [p0, 0]) := by have h := pair_ints (wr3.alloc (.cells #[.int .i64 p0, .int .i64 0] 3)) p0 0; exact (show Ints _ _ _ _ by simpa using h)
                                have Hp2314 := Lib.hid (HP13.out.below ((Ext.refl (wr3.alloc (.cells #[.int .i64 p0, .int .i64 0] 3))).alloc (.cells #[.int .i64 p0, .int .i64 0] 3)))
                                refine hK.out _ _ (⟨hxyv.trans (hXW14.alloc (.cells #[.int .i64 p0, .int .i64 0] 3)), hXW14.alloc (.cells #[.int .i64 p0, .int .i64 0] 3)⟩) (fun hHeld => ?_)
                                clear hK K
                                try simp only [List.getElem_toArray, List.getElem_cons_succ, List.getElem_cons_zero, Act.put, List.setIfInBounds_toArray, List.set_cons_zero, List.set_cons_succ]
                                refine wpAnyH_ready (rs := [18]) (by kernel_rfl) (by simp) ?_
                                refine AllReadyH.cons rfl (fun K hK => ?_) ?_
                                · go_simp
                                  go_at_call 20
                                  have hXW15 : Ext wv ((wr3.alloc (.cells #[.int .i64 p0, .int .i64 0] 3)).alloc (.cells #[.int .i64 p0, .int .i64 0] 3)) := hXW14.alloc (.cells #[.int .i64 p0, .int .i64 0] 3)
                                  refine (rReach_calls tt ((wr3.alloc (.cells #[.int .i64 p0, .int .i64 0] 3)).alloc (.cells #[.int .i64 p0, .int .i64 0] 3)) (HYY.out.below (hxyv.trans hXW15)) HYL.out HP14.out (by simp) (Ints.nil _ (fun _ => True)) (by simp)).mono ?_
                                  rintro e wr15 ⟨v15', rfl, hM15⟩
                                  have Hp1715 := Lib.hid (HP14.out.below hM15.ext)
                                  have Hp2315 := Lib.hid (Hp2314.out.below hM15.ext)
                                  have hX15 : Ext wv wr15 := hXW15.trans hM15.ext
                                  have HR15 := Lib.hid hM15.ints
                                  clear hM15
                                  refine hK.out _ _ (⟨hxyv.trans (hX15), hX15⟩) (fun hHeld => ?_)
                                  clear hK K
                                  try simp only [List.getElem_toArray, List.getElem_cons_succ, List.getElem_cons_zero, Act.put, List.setIfInBounds_toArray, List.set_cons_zero, List.set_cons_succ]
                                  refine wpAnyH_ready (rs := [24]) (by kernel_rfl) (by simp) ?_
                                  refine AllReadyH.cons rfl (fun K hK => ?_) ?_
                                  · go_simp
                                    go_at_call 21
                                    have hXW16 : Ext wv wr15 := hX15
                                    refine (qReach_calls tt wr15 (HYY.out.below (hxyv.trans hXW16)) HYL.out Hp2315.out (by simp) (Ints.nil _ (fun _ => True)) (by simp)).mono ?_
                                    rintro e wr16 ⟨v16', rfl, hM16⟩
                                    have Hp1716 := Lib.hid (Hp1715.out.below hM16.ext)
                                    have Hp2316 := Lib.hid (Hp2315.out.below hM16.ext)
                                    have Hm316 := Lib.hid (HR15.out.below hM16.ext)
                                    have hX16 : Ext wv wr16 := hXW16.trans hM16.ext
                                    have HR16 := Lib.hid hM16.ints
                                    clear hM16
                                    refine hK.out _ _ (⟨hxyv.trans (hX16), hX16⟩) (fun hHeld => ?_)
                                    clear hK K
                                    try simp only [List.getElem_toArray, List.getElem_cons_succ, List.getElem_cons_zero, Act.put, List.setIfInBounds_toArray, List.set_cons_zero, List.set_cons_succ]
                                    refine wpAnyH_ready (rs := [25]) (by kernel_rfl) (by simp) ?_
                                    refine AllReadyH.cons rfl (fun K hK => ?_) ?_
                                    · go_simp
                                      go_at_call 17
                                      have hXW17 : Ext wv wr16 := hX16
                                      refine (is_t wr16 rfl Hm316.out HR16.out (reachO_len _ _ _ _)).mono ?_
                                      rintro e wr17 ⟨rfl, hD17⟩
                                      have hX17 : Ext wv wr17 := hXW17.trans (hD17.below _)
                                      clear hD17
                                      refine hK.out _ _ (⟨hxyv.trans (hX17), hX17⟩) (fun hHeld => ?_)
                                      clear hK K
                                      try simp only [List.getElem_toArray, List.getElem_cons_succ, List.getElem_cons_zero, Act.put, List.setIfInBounds_toArray, List.set_cons_zero, List.set_cons_succ]
                                      refine wpAnyH_take (i := 26) (v := ?v23) rfl (by kernel_rfl) (by kernel_rfl) (by kernel_rfl) (fun _ _ _ h => h) (Or.inl ⟨?w23, ?y23⟩) hHeld ?r23
                                      case w23 => rfl
                                      case y23 => (intro w hSw; go_simp; try with_reducible rfl)
                                      simp only [List.getElem_toArray, List.getElem_cons_succ, List.getElem_cons_zero, Act.put, List.setIfInBounds_toArray, List.set_cons_zero, List.set_cons_succ]
                                      refine wpAnyH_take (i := 27) (v := ?v24) rfl (by kernel_rfl) (by kernel_rfl) (by kernel_rfl) (fun _ _ _ h => h) (Or.inl ⟨?w24, ?y24⟩) hHeld ?r24
                                      case w24 => rfl
                                      case y24 => (intro w hSw; go_simp; try with_reducible rfl)
                                      simp only [List.getElem_toArray, List.getElem_cons_succ, List.getElem_cons_zero, Act.put, List.setIfInBounds_toArray, List.set_cons_zero, List.set_cons_succ]
                                      refine wpAnyH_done (by kernel_rfl) ?_ _
                                      have hXF := hxtv.trans (hX17)
                                      go_wp2_with fail
                                      go_roundg (4 - (k + 1))
                                      case measure => omega
                                      case rel => exact ⟨k + 1, by go_num, hk, rfl, hXF⟩
                                    exact AllReadyH.nil
                                  exact AllReadyH.nil
                                exact AllReadyH.nil
                              exact AllReadyH.nil
                            exact AllReadyH.nil
                          exact AllReadyH.nil
                        exact AllReadyH.nil
                      exact AllReadyH.nil
                  · obtain rfl : k = 4 := by omega
                    go_wp2_with fail
                    go_roundg (4 - (i + 1))
                    case measure => omega
                    case rel => exact ⟨i + 1, by go_num, hi, rfl, hxbs⟩
      · obtain rfl : i = 4 := by omega
        have hbb : Ext wb wj := hxbj
        have HFIN0 : Hid (Ext w wj) := HEB.out.trans hxbj
        have hck := good_chk HG.out
        go_wp2_with fail
        refine (check_calls wj (HMB.out.below hxbj) HMM.out.lens).mono ?_
        rintro e wz ⟨rfl, hbz⟩
        have hxz : Ext wj wz := hbz
        have HFIN : Hid (Ext w wz) := HFIN0.out.trans hxz
        rw [hck]
        clear hck hbz
        go_wp2_with fail
        go_ret
        exact ⟨rfl, HFIN.out⟩
set_option maxRecDepth 100000 in
theorem routeNexts_walk {H : Type} {enc : TypeId × Value → H} {base : Nat} {v0 v1 v2 : Value} {d0 d1 d2 : DataW H} {p0 p1 p2 : List MemPlace} (W : World) (hv0 : Value.okWide Try.prog W .any base 26 v0) (h0 : DataW.Trod enc Try.prog W 0 (fun _ => true) true 26 v0 d0 p0)
    (hv1 : Value.okWide Try.prog W .any base 31 v1) (h1 : DataW.Trod enc Try.prog W 0 (fun _ => true) true 31 v1 d1 p1) (hv2 : Value.okWide Try.prog W .any base 32 v2) (h2 : DataW.Trod enc Try.prog W 0 (fun _ => true) true 32 v2 d2 p2) :
    Calls Try.prog 3 #[v0, v1, v2] W fun e w' => e = .returned (.bool true) ∧ Below W.heap.size W w' := by
  obtain ⟨va, o0, o1, o2, vb, ls, ns, rfl, h3, h4, h5, h6, h7, -⟩ := caseOpen h0 (caseAgg hv0)
  obtain ⟨mr, hm, hw, hh, hl⟩ := mazeOpen h1 (mazeAgg hv1)
  obtain ⟨a, b, rfl⟩ := pairOpen h2 (pairAgg hv2)
  exact nexts_calls o0 o1 o2 a b W hm hw hh hl h3 h4 h5 h6 h7
end Go.Proofs.Ytgpjfpcjiebjiaa
