/- Walks: the law RouteLoads. -/
import Derived.Test.YtgpjfpcjiebjiaaGq
import Derived.Test.YtgpjfpcjiebjiaaGv
import Derived.Test.YtgpjfpcjiebjiaaGz
import Derived.Test.YtgpjfpcjiebjiaaGx
import Derived.Test.YtgpjfpcjiebjiaaGr
namespace Go.Proofs.Ytgpjfpcjiebjiaa
open Go.RowKit
set_option linter.unusedVariables false
set_option linter.unusedSimpArgs false
attribute [local go_sem ↓] Go.wp_at_zero Go.wp_at_succ

theorem loadE_zero {m : MZ} {ch : List Int} {st : Int} (h : loadE m ch st = 0) : chk m = 0 ∧ 0 ≤ st ∧ IsCh m ch ∧ (ch ≠ [] → openC m ch = true) := by
  unfold loadE at h
  split at h
  · rename_i h1; exact absurd h h1
  · rename_i h1
    split at h
    · cases h
    · split at h
      · rename_i h2 h3
        rw [Bool.and_eq_true, Bool.or_eq_true, decide_eq_true_eq] at h3
        refine ⟨by simpa using h1, by omega, isChB_iff.1 h3.1, fun hn => ?_⟩
        rcases h3.2 with h4 | h4
        · exact absurd h4 hn
        · exact h4
      · cases h
theorem rinv_loadS {m : MZ} {ch : List Int} {st : Int} (h : loadE m ch st = 0) : RInv m (loadS m ch st) := by
  obtain ⟨h1, h2, h3, h4⟩ := loadE_zero h
  exact ⟨h3, h2, rfl, h4⟩
/-- A router loaded, or an error. -/
theorem loadR_calls {okm okc : Nat → Prop} {v vc : Value} {m : MZ} {ch : List Int} (st : Int) (w : World) (hm : MazeV w okm v m) (hl : Lens m) (hch : Ints w okc vc ch) (hlc : ch.length ≤ 20000000000000) :
    Calls Try.prog 32 #[v, vc, .int .i64 st] w fun e w' => ∃ v', e = .returned (.tuple #[v', .int .i64 (loadE m ch st)]) ∧ Ext w w' ∧ ((loadE m ch st ≠ 0 ∧ v' = .pointer none) ∨ (loadE m ch st = 0 ∧ ∃ g, v' = .pointer (some ⟨g, 0, none⟩) ∧ OneR w w' g m (loadS m ch st))) := by
  refine (load_calls (Y := fun b => b < w.heap.size) st w (hm.bound.weaken fun b hb => hb.2) hl hch hlc (fun b hb => hb)).mono ?_
  rintro e w' ⟨v', rfl, hE, h | ⟨h1, h2, h3, g, gr, cap, pt, rfl, hr⟩⟩
  · exact ⟨v', rfl, hE, .inl h⟩
  · refine ⟨_, rfl, hE, .inr ⟨h1, g, rfl, _, hE, ⟨⟨gr, cap, pt, hr.bound⟩, fun k hk => hk.2, fun k hk => Nat.lt_of_lt_of_le hk hE.size, h2, hl, h3, (loadE_zero h1).2.1⟩, fun k hk => hk.1, rinv_loadS h1⟩⟩
/-- The two routers behind the two calls of Load. -/
theorem load_both {w w1 w2 : World} {m : MZ} {ch : List Int} {st : Int} {v1 v2 : Value} {okm : Nat → Prop} (hok : ∀ b, okm b → b < w.heap.size) (hE : Ext w w1)
    (h1 : (loadE m ch st ≠ 0 ∧ v1 = .pointer none) ∨ (loadE m ch st = 0 ∧ ∃ g, v1 = .pointer (some ⟨g, 0, none⟩) ∧ OneR w w1 g m (loadS m ch st))) (hE2 : Ext w1 w2)
    (h2 : (loadE m ch st ≠ 0 ∧ v2 = .pointer none) ∨ (loadE m ch st = 0 ∧ Good m ∧ IsCh m ch ∧ ∃ g, v2 = ptrV g ∧ w1.heap.size ≤ g ∧ QR2 w2 (fun b => (okm b ∨ w1.heap.size ≤ b) ∧ b ≠ g) g m (loadS m ch st))) :
    (loadE m ch st ≠ 0 ∧ v1 = .pointer none ∧ v2 = .pointer none) ∨ (loadE m ch st = 0 ∧ ∃ g gq, v1 = .pointer (some ⟨g, 0, none⟩) ∧ v2 = .pointer (some ⟨gq, 0, none⟩) ∧ BothR w w2 g gq m (loadS m ch st)) := by
  rcases h1 with ⟨a1, a2⟩ | ⟨a1, g, a2, a3⟩
  · rcases h2 with ⟨b1, b2⟩ | ⟨b1, _⟩
    · exact .inl ⟨a1, a2, b2⟩
    · exact absurd b1 a1
  · rcases h2 with ⟨b1, b2⟩ | ⟨b1, _, _, gq, b2, b3, b4⟩
    · exact absurd a1 b1
    · exact .inr ⟨a1, g, gq, a2, b2, BothR.make a3 hE2 b3 b4 hok⟩

theorem HalfR.ext {w wr : World} {g gq : Nat} {m : MZ} {s s' : RS} (h : HalfR w wr g gq m s s') : Ext w wr := by
  obtain ⟨X, h1, _⟩ := h
  exact h1.ext
set_option maxHeartbeats 8000000 in
set_option maxRecDepth 100000 in
theorem loads_calls {ok ok2 : Nat → Prop} {v vn : Value} {ls : List (List Int)} {ns : List Int} (o0 o1 o2 st : Int) (w : World) (hst : -9223372036854775808 ≤ st ∧ st ≤ 9223372036854775807) (hl : Intss w ok v ls) (hll : ls.length ≤ 9223372036854775807) (hlx : ∀ l ∈ ls, l.length ≤ 9223372036854775807) (hn : Ints w ok2 vn ns) (hnl : ns.length ≤ 9223372036854775807) :
    Calls Try.prog 5 #[.agg #[v, .int .i64 o0, .int .i64 o1, .int .i64 o2, vn], .int .i64 st] w fun e w' => e = .returned (.bool true) ∧ Ext w w' := by
  have HLS := Lib.hid hl
  have HNS := Lib.hid hn
  obtain ⟨vs, ⟨A, c, rfl, hc, -⟩, -⟩ := hl
  obtain ⟨A2, c2, rfl, hc2, -⟩ := hn
  have HLX := Lib.hid hlx
  clear hlx
  go_enter Try.func5, Try.ntmps5
  go_wp2_with fail
  generalize hwa : w.alloc (.cells #[.slice A ls.length c, .int .i64 o0, .int .i64 o1, .int .i64 o2, .slice A2 ns.length c2] 26) = wa
  have hEa : Ext w wa := by rw [← hwa]; exact (Ext.refl _).alloc _
  have hBa : Blk wa w.heap.size 26 #[.slice A ls.length c, .int .i64 o0, .int .i64 o1, .int .i64 o2, .slice A2 ns.length c2] := by rw [← hwa]; exact Blk.new _ _ _ rfl
  clear hwa
  have r0 : ∀ W, Ext wa W → W.cell? ⟨w.heap.size, 0, none⟩ = some (.slice A ls.length c) := Ext.rule (hBa.cell (k := 0) rfl)
  have r1 : ∀ W, Ext wa W → W.cell? ⟨w.heap.size, 1, none⟩ = some (.int .i64 o0) := Ext.rule (hBa.cell (k := 1) rfl)
  have r2 : ∀ W, Ext wa W → W.cell? ⟨w.heap.size, 2, none⟩ = some (.int .i64 o1) := Ext.rule (hBa.cell (k := 2) rfl)
  have r3 : ∀ W, Ext wa W → W.cell? ⟨w.heap.size, 3, none⟩ = some (.int .i64 o2) := Ext.rule (hBa.cell (k := 3) rfl)
  have r4 : ∀ W, Ext wa W → W.cell? ⟨w.heap.size, 4, none⟩ = some (.slice A2 ns.length c2) := Ext.rule (hBa.cell (k := 4) rfl)
  clear hBa
  refine (sanity_calls wa).mono ?_
  rintro e w1 ⟨rfl, hE1⟩
  have hx1 : Ext wa w1 := hE1
  go_wp2_with fail
  refine (caseMade_calls o0 o1 o2 w1 (HLS.out.below (hEa.trans hx1)) hll HLX.out (HNS.out.below (hEa.trans hx1)) hnl).mono ?_
  rintro e w2 ⟨v2, m, vl, l, rfl, hE2, hm, hMM, hMk, hl12, hlr⟩
  have HM := Lib.hid hm
  obtain ⟨vfr, vup, vts, rfl, ⟨_, ⟨Af, cf, rfl, -⟩, -⟩, ⟨Au, cu, rfl, -⟩, ⟨_, ⟨At, ct, rfl, -⟩, -⟩⟩ := hm
  have HI := Lib.hid hMk.ints
  obtain ⟨Al, cl, rfl, hcl⟩ := hMk.slice
  have HMM := Lib.hid hMM
  have HLR := Lib.hid hlr
  have HEW := Lib.hid ((hEa.trans hx1).trans hE2)
  have hxa2 : Ext wa w2 := hx1.trans hE2
  have HMK := Lib.hid hMk.own
  clear hMk hMM hlr hx1 hE1 hEa hE2
  obtain ⟨gm, hgm⟩ : ∃ gm, gm = w2.heap.size := ⟨_, rfl⟩
  have hg := HMM.out.good
  have hdimWH : 2 ≤ m.w * m.h ∧ m.w * m.h ≤ 16 := by
    have h0 := HMM.out.w
    have h1 := hg.dim.layer
    have h2 : m.n = m.w * m.h * m.l := rfl
    have h3 := Int.mul_le_mul_of_nonneg_left HMM.out.h.1 (show 0 ≤ m.w by omega)
    have := HMM.out.n
    omega
  have hdimN : 2 ≤ m.w * m.h * m.l ∧ m.w * m.h * m.l ≤ 16 := HMM.out.n
  have HG := Lib.hid hg
  clear hg
  obtain ⟨hd1, hd2⟩ := hdimWH
  obtain ⟨hd3, hd4⟩ := hdimN
  go_upto_region 3 with fail
  rw [← hgm]
  generalize hw5 : w2.alloc (.cells #[.int .i64 m.w, .int .i64 m.h, .int .i64 m.l, .slice Af m.free.length cf, .slice Au m.up.length cu, .slice At m.tasks.length ct] 31) = w5
  have hE5 : Ext w2 w5 := by rw [← hw5]; exact (Ext.refl _).alloc _
  have hBm : Blk w5 gm 31 #[.int .i64 m.w, .int .i64 m.h, .int .i64 m.l, .slice Af m.free.length cf, .slice Au m.up.length cu, .slice At m.tasks.length ct] := by rw [← hw5, hgm]; exact Blk.new _ _ _ rfl
  clear hw5 hgm
  obtain ⟨m0, m1, m2, m3, m4, m5⟩ := cells6 hBm
  have q0 := Ext.rule m0
  have q1 := Ext.rule m1
  have q2 := Ext.rule m2
  have q3 := Ext.rule m3
  have q4 := Ext.rule m4
  have q5 := Ext.rule m5
  clear m0 m1 m2 m3 m4 m5 hBm hd1 hd2 hd3 hd4
  have HM5 := Lib.hid (HM.out.below hE5)
  have HI5 := Lib.hid (HI.out.below hE5)
  have HEW5 : Hid (Ext w w5) := HEW.out.trans hE5
  have hxa5 : Ext wa w5 := hxa2.trans hE5
  clear hE5
  have hx5 := Ext.refl w5
  have hl12' : l.length ≤ 12 := hl12
  go_wp2_with fail
  refine (walk_calls w5 HM5.out HMM.out.lens (fun t ht => by have := (HMM.out.te t ht).2; omega) (HNS.out.below HEW5.out) hnl).mono ?_
  rintro e w6 ⟨v6, wl, rfl, hM6, hwl⟩
  obtain ⟨A6, c6, rfl, hc6⟩ := hM6.slice
  have hx6 : Ext w5 w6 := hM6.ext
  have HW6 := Lib.hid hM6.own
  have HI6 := Lib.hid (HI5.out.below hx6)
  clear hM6
  go_upto_region 4 with fail
  obtain ⟨h, hh⟩ : ∃ h : Nat, h = wl.length / 2 := ⟨_, rfl⟩
  have hq1 : (wl.length : Int).tdiv 2 = (h : Int) := by rw [Int.tdiv_eq_ediv_of_nonneg (by omega)]; omega
  have hq2 : (wl.length : Int) / 2 = (h : Int) := by omega
  have hq3 : (0 : Int) ≤ (h : Int) := by omega
  have hq4 : (h : Int) ≤ (wl.length : Int) := by omega
  have hq5 : (h : Int) ≤ (c6 : Int) := by omega
  have hhl : h ≤ wl.length := by omega
  have HHL := Lib.hid hhl
  have HWI : Hid (Ints w6 (fun b => w5.heap.size ≤ b) (.slice A6 wl.length c6) wl) := Row.of_own HW6.out
  have HWP : Hid (Ints w6 (fun b => w5.heap.size ≤ b) (.slice A6 h c6) (wl.take h)) := pref_ints HWI.out hhl
  have htl : (wl.take h).length ≤ 24 := by rw [List.length_take]; omega
  go_cut [36, 37, 38] (fun v v37 v38 wx => v37 = .int .i64 4 ∧ v38 = .int .i64 0 ∧ ∃ b, v = .slice (some ⟨b, 0, none⟩) 4 4 ∧ Hid (XsAt wx b) ∧ Hid (Ext w6 wx))
  case first =>
    rcases Nat.eq_zero_or_pos wl.length with hl0 | hl0
    · obtain rfl : wl = [] := List.eq_nil_of_length_eq_zero hl0
      obtain rfl : h = 0 := by simpa using hh
      clear hl0 hq1 hq2 hq3 hq4 hq5 hh hhl htl
      rcases HW6.out.2 with ⟨e, -⟩ | ⟨g0, cap, cur, e, -, -, -, -, -, -⟩
      · injection e with e1 e2 e3
        subst e1 e3
        clear e2
        go_wp2_with fail
        go_meet
        exact ⟨rfl, rfl, _, rfl, xs_make HWI.out HWP.out HI6.out (by simp) (by simp) (by omega), (Ext.refl _).alloc _⟩
      · injection e with e1 e2 e3
        subst e1 e3
        clear e2
        by_cases hc0 : c6 = 0
        · subst hc0
          go_wp2_with fail
          go_meet
          exact ⟨rfl, rfl, _, rfl, xs_make HWI.out HWP.out HI6.out (by simp) (by simp) (by omega), (Ext.refl _).alloc _⟩
        · have hcpos : 0 < c6 := by omega
          have hcpos2 : (0 : Int) < (c6 : Int) := by omega
          go_wp2_with fail
          go_meet
          exact ⟨rfl, rfl, _, rfl, xs_make HWI.out HWP.out HI6.out (by simp) (by simp) (by omega), (Ext.refl _).alloc _⟩
    · have hlt : (h : Int) < (c6 : Int) := by omega
      have hlt2 : (h : Int) < (wl.length : Int) := by omega
      obtain ⟨A0, c0, e, -, hr⟩ := id HWI.out
      injection e with e1 e2 e3
      subst e1
      subst e3
      obtain ⟨b0, of0, e4, hob, hcc⟩ := hr.2 hl0
      subst e4
      clear hr hcc hl0 e2 hob hh hhl
      go_wp2_with fail
      go_meet
      exact ⟨rfl, rfl, _, rfl, xs_make HWI.out HWP.out HI6.out (by omega) (by omega) (by omega), (Ext.refl _).alloc _⟩
  case rest =>
    obtain ⟨rfl, rfl, bx, rfl, hXS, hx6c⟩ := hcut
    have hx5c : Ext w5 wc := hx6.trans hx6c.out
    clear hq1 hq2 hq3 hq4 hq5 hh hhl htl HWI HWP HHL HW6 hx6c
    have hxac : Ext wa wc := hxa5.trans hx5c
    go_wp2_with fail
    go_loopg [38] 4 (fun gk v wr => ∃ i : Nat, v = .int .i64 i ∧ i ≤ 4 ∧ gk = 4 - i ∧ Hid (Ext wc wr))
    case atStart => exact ⟨0, rfl, by omega, rfl, Ext.refl _⟩
    case round =>
      obtain ⟨i, rfl, hi4, rfl, hX⟩ := hrel
      obtain ⟨wi, rfl⟩ : ∃ wi : World, wi = wr := ⟨_, rfl⟩
      have hxci : Ext wc wi := hX.out
      by_cases hi : i < 4
      · obtain ⟨Ax, cx, x, hcx, hix, hlx⟩ := hXS.out i hi
        have HIX := Lib.hid hix
        have rx := Ext.rule hcx
        have hx5i : Ext w5 wi := hx5c.trans hxci
        have hxai : Ext wa wi := hxac.trans hxci
        have hi0 : decide ((i : Int) < 4) = true := decide_eq_true (by omega)
        have hi1 : (i : Int) < 4 := by omega
        clear hcx hix
        go_upto_region 7 with fail
        go_cut [47, 48, 49] (fun v v48 v49 wx => v48 = .int .i64 2 ∧ v49 = .int .i64 0 ∧ ∃ b, v = .slice (some ⟨b, 0, none⟩) 2 2 ∧ Hid (MzsAt wx b 2) ∧ Hid (Ext wi wx))
        case first =>
          go_region_held3 (fun w' => (Ext wa w' ∧ Ext w5 w') ∧ Ext wi w')
            (first | (exact ⟨⟨hxai.drew, hx5i.drew⟩, (Ext.refl wi).drew⟩) | (exact ⟨⟨hxai.drew.trans hE9, hx5i.drew.trans hE9⟩, (Ext.refl wi).drew.trans hE9⟩) | (exact ⟨⟨(hxai.drew.trans hE9).alloc _, (hx5i.drew.trans hE9).alloc _⟩, ((Ext.refl wi).drew.trans hE9).alloc _⟩))
            ((go_at_call 13; refine (odd_calls o0 o1 o2 _ (HM5.out.below hx5i.drew) HMM.out.obL (by omega) (by omega) (by omega)).mono ?_; rintro e wn ⟨v9, m9, rfl, hE9, hm9, hob9⟩; have HM9 := Lib.hid hm9; obtain ⟨f9, u9, t9, rfl, -, -, -⟩ := hm9))
          rename_i hS
          have hEn : Ext wi wn := (Ext.refl wi).drew.trans hE9
          have hE5n : Ext w5 wn := hx5i.trans hEn
          have HOB := Lib.hid hob9
          clear hS hE9 hob9
          go_wp2_with fail
          go_meet
          exact ⟨rfl, rfl, _, rfl, mzs_two (HM5.out.below hE5n) HM9.out HMM.out.lens (HOB.out.lens (by omega)), hEn.alloc _⟩
        case rest =>
          obtain ⟨rfl, rfl, bm, rfl, hMZ, hXm⟩ := hcut
          obtain ⟨wm, rfl⟩ : ∃ wm : World, wm = wc := ⟨_, rfl⟩
          have hxim : Ext wi wm := hXm.out
          have HIX' := Lib.hid (HIX.out.below (hxci.trans hxim))
          have hxcm := hxci.trans hxim
          clear hXm rx HIX
          go_wp2_with fail
          go_loopg [49] 2 (fun gk v wr => ∃ j : Nat, v = .int .i64 j ∧ j ≤ 2 ∧ gk = 2 - j ∧ Hid (Ext wm wr))
          case atStart => exact ⟨0, rfl, by omega, rfl, Ext.refl _⟩
          case round =>
            obtain ⟨j, rfl, hj2, rfl, hX⟩ := hrel
            obtain ⟨wj, rfl⟩ : ∃ wj : World, wj = wr := ⟨_, rfl⟩
            have hxmj : Ext wm wj := hX.out
            by_cases hj : j < 2
            · obtain ⟨y, yf, yu, yt, y0, y1, y2, y3, y4, y5, hym, hyl⟩ := hMZ.out j hj
              obtain ⟨yA, yn, yc, yA', yn', yc', yA'', yn'', yc'', rfl, rfl, rfl⟩ := mazeV_slices hym
              have HYM := Lib.hid hym
              have HYL := Lib.hid hyl
              have q0' := Ext.rule y0
              have q1' := Ext.rule y1
              have q2' := Ext.rule y2
              have q3' := Ext.rule y3
              have q4' := Ext.rule y4
              have q5' := Ext.rule y5
              have hj0 : decide ((j : Int) < 2) = true := decide_eq_true (by omega)
              have hj1 : (j : Int) < 2 := by omega
              clear y0 y1 y2 y3 y4 y5 hym hyl
              go_upto_region 10 with fail
              generalize hwy : wj.alloc (.cells #[.int .i64 y.w, .int .i64 y.h, .int .i64 y.l, .slice yA yn yc, .slice yA' yn' yc', .slice yA'' yn'' yc''] 31) = wy
              have hEy : Ext wj wy := by rw [← hwy]; exact (Ext.refl _).alloc _
              have hBy : Blk wy wj.heap.size 31 #[.int .i64 y.w, .int .i64 y.h, .int .i64 y.l, .slice yA yn yc, .slice yA' yn' yc', .slice yA'' yn'' yc''] := by rw [← hwy]; exact Blk.new _ _ _ rfl
              clear hwy
              obtain ⟨m0, m1, m2, m3, m4, m5⟩ := cells6 hBy
              have s0 := Ext.rule m0
              have s1 := Ext.rule m1
              have s2 := Ext.rule m2
              have s3 := Ext.rule m3
              have s4 := Ext.rule m4
              have s5 := Ext.rule m5
              clear m0 m1 m2 m3 m4 m5 hBy q0' q1' q2' q3' q4' q5' q0 q1 q2 q3 q4 q5
              have hxmy : Ext wm wy := hxmj.trans hEy
              go_cut [54, 55, 56] (fun v v55 v56 wx => v55 = .int .i64 3 ∧ v56 = .int .i64 0 ∧ ∃ b, v = .slice (some ⟨b, 0, none⟩) 3 3 ∧ Hid (NsAt wx b) ∧ Hid (Ext wy wx))
              case first =>
                go_wp2_with fail
                go_meet
                exact ⟨rfl, rfl, _, rfl, ns_make _ _ _ _, (Ext.refl _).alloc _⟩
              case rest =>
                obtain ⟨rfl, rfl, bn, rfl, hNS, hXn⟩ := hcut
                obtain ⟨wz, rfl⟩ : ∃ wz : World, wz = wc := ⟨_, rfl⟩
                have hxyz : Ext wy wz := hXn.out
                have hxmz : Ext wm wz := hxmy.trans hxyz
                clear hXn hxmy hEy
                go_wp2_with fail
                go_loopg [56] 3 (fun gk v wr => ∃ k : Nat, v = .int .i64 k ∧ k ≤ 3 ∧ gk = 3 - k ∧ Hid (Ext wz wr))
                case atStart => exact ⟨0, rfl, by omega, rfl, Ext.refl _⟩
                case round =>
                  obtain ⟨k, rfl, hk3, rfl, hX⟩ := hrel
                  obtain ⟨wk, rfl⟩ : ∃ wk : World, wk = wr := ⟨_, rfl⟩
                  have hxzk : Ext wz wk := hX.out
                  have hxyk : Ext wy wk := hxyz.trans hxzk
                  have hxmk : Ext wm wk := hxmz.trans hxzk
                  by_cases hk : k < 3
                  · obtain ⟨n, hcn⟩ := hNS.out k hk
                    have rn := Ext.rule hcn
                    have hk0 : decide ((k : Int) < 3) = true := decide_eq_true (by omega)
                    have hk1 : (k : Int) < 3 := by omega
                    have HYK := Lib.hid ((HYM.out.below hxmk).bound)
                    have HIK := Lib.hid (HIX'.out.below hxmk)
                    clear hcn
                    go_wp2_with fail
                    refine (loadR_calls n wk HYK.out HYL.out HIK.out (by omega)).mono ?_
                    rintro e w1' ⟨v1, rfl, hE1, h1⟩
                    have H1 := Lib.hid h1
                    have hx1' : Ext wk w1' := hE1
                    have hxy1 : Ext wy w1' := hxyk.trans hE1
                    clear h1 hE1
                    go_wp2_with fail
                    refine (qLoad_calls n w1' (HYK.out.below hx1') HYL.out (HIK.out.below hx1') (by omega)).mono ?_
                    rintro e w2' ⟨v2, rfl, hE2, h2⟩
                    have HLB := Lib.hid (load_both (fun b hb => hb.2) hx1' H1.out hE2 h2)
                    have hxk2 : Ext wk w2' := hx1'.trans hE2
                    clear h2 hE2 H1 hxy1
                    obtain ⟨ee, hee⟩ : ∃ ee, ee = loadE y x n := ⟨_, rfl⟩
                    rw [← hee] at HLB ⊢
                    have HEE := Lib.hid hee
                    clear hee
                    have hee2 : (ee != ee) = false := by simp
                    rcases HLB.out with ⟨he0, rfl, rfl⟩ | ⟨rfl, g, gq, rfl, rfl, hB⟩
                    · have hd1 : (ee == 0) = false := by rw [beq_eq_false_iff_ne]; exact he0
                      have hd2 : (ee != 0) = true := by rw [bne_iff_ne]; exact he0
                      clear he0 HLB
                      go_wp2_with fail
                      go_roundg (3 - (k + 1))
                      case measure => omega
                      case rel => exact ⟨k + 1, by go_num, hk, rfl, hxzk.trans hxk2⟩
                    · have HBT := Lib.hid hB
                      clear hB HLB
                      by_cases hbig : 1099511627776 < n
                      · have hd1 : decide (1099511627776 < n) = true := decide_eq_true hbig
                        go_wp2_with fail
                        go_roundg (3 - (k + 1))
                        case measure => omega
                        case rel => exact ⟨k + 1, by go_num, hk, rfl, hxzk.trans hxk2⟩
                      · have hd1 : decide (1099511627776 < n) = false := decide_eq_false hbig
                        have hn0 := (loadE_zero HEE.out.symm).2.1
                        obtain ⟨s0, hs0⟩ : ∃ s0, s0 = loadS y x n := ⟨_, rfl⟩
                        have hst0 : s0.steps = n := by rw [hs0]; rfl
                        rw [← hs0] at HBT
                        obtain ⟨s1, hs1⟩ : ∃ s1, s1 = RS.run y 3 s0 := ⟨_, rfl⟩
                        obtain ⟨d, hd⟩ : ∃ d, d = s1.done := ⟨_, rfl⟩
                        obtain ⟨sc, hsc⟩ : ∃ sc, sc = s1.steps := ⟨_, rfl⟩
                        have hdd : (d != d) = false := by simp
                        have hss : (sc != sc) = false := by simp
                        have HC1 : Hid (Calls Try.prog 24 #[.pointer (some ⟨g, 0, none⟩), .int .i64 3] w2'.drew fun e w' => e = .returned (.bool d) ∧ HalfR wk w' g gq y s1 s0) := by
                          have h9 := (HBT.out.more ((Ext.refl w2').drew)).step 3 (by omega) (by omega)
                          rw [← hs1, ← hd] at h9
                          exact h9
                        have HC2 : Hid (∀ W, HalfR wk W g gq y s1 s0 → Calls Try.prog 25 #[.pointer (some ⟨gq, 0, none⟩), .int .i64 3] W fun e w' => e = .returned (.bool d) ∧ BothR wk w' g gq y s1) := fun W hW => by
                          have h9 := hW.step HYL.out HBT.out.one.inv.ch 3 (by omega) HBT.out.one.inv.st (by omega) hs1.symm
                          rw [← hd] at h9
                          exact h9
                        have HSTP : Hid (∀ W, BothR wk W g gq y s1 → Calls Try.prog 28 #[.pointer (some ⟨g, 0, none⟩)] W fun e w' => e = .returned (.int .i64 sc) ∧ W = w') := fun W hW => by rw [hsc]; exact hW.one.stepsC
                        have HCHO : Hid (∀ W, BothR wk W g gq y s1 → Calls Try.prog 29 #[.pointer (some ⟨g, 0, none⟩)] W fun e w' => ∃ v', e = .returned v' ∧ Mk W w' v' s1.ch) := fun W hW => hW.one.choices
                        have HCL : Hid (∀ W, BothR wk W g gq y s1 → ∃ vn, W.cell? ⟨gq, 6, none⟩ = some vn ∧ Ints W (fun _ => True) vn s1.ch ∧ W.cell? ⟨gq, 8, none⟩ = some (.int .i64 sc)) := fun W hW => by rw [hsc]; exact hW.cells
                        clear hs0 hst0 hs1 hd hsc hn0 HBT
                        go_wp2_with fail
                        refine wp_region_held_drew (S := (fun W => Ext wk W)) mixedA (hxk2.drew) (fun hHeld => ?_)
                        generalize w2'.drew = wd at HC1 hHeld ⊢
                        refine wpAnyH_take (i := 0) (v := ?v1) rfl (by kernel_rfl) (by kernel_rfl) (by kernel_rfl) (fun _ _ _ h => h) (Or.inl ⟨?w1, ?y1⟩) hHeld ?r1
                        case w1 => rfl
                        case y1 => (intro w hSw; go_simp; try with_reducible rfl)
                        simp only [List.getElem_toArray, List.getElem_cons_zero, Act.put, List.setIfInBounds_toArray, List.set_cons_zero, List.set_cons_succ]
                        refine wpAnyH_take (i := 2) (v := ?v2) rfl (by kernel_rfl) (by kernel_rfl) (by kernel_rfl) (fun _ _ _ h => h) (Or.inl ⟨?w2, ?y2⟩) hHeld ?r2
                        case w2 => rfl
                        case y2 => (intro w hSw; go_simp; try with_reducible rfl)
                        simp only [List.getElem_toArray, List.getElem_cons_succ, List.getElem_cons_zero, Act.put, List.setIfInBounds_toArray, List.set_cons_zero, List.set_cons_succ]
                        refine wpAnyH_ready (rs := [1]) (by kernel_rfl) (by simp) ?_
                        refine AllReadyH.cons rfl (fun K hK => ?_) ?_
                        · go_simp
                          go_at_call 24
                          refine HC1.out.mono ?_
                          rintro e wa1 ⟨rfl, hH⟩
                          have HH := Lib.hid hH
                          clear hH
                          refine hK.out _ _ (HH.out.ext) (fun hHeld => ?_)
                          clear hK K
                          try simp only [List.getElem_toArray, List.getElem_cons_succ, List.getElem_cons_zero, Act.put, List.setIfInBounds_toArray, List.set_cons_zero, List.set_cons_succ]
                          refine wpAnyH_ready (rs := [3]) (by kernel_rfl) (by simp) ?_
                          refine AllReadyH.cons rfl (fun K hK => ?_) ?_
                          · go_simp
                            go_at_call 25
                            refine (HC2.out _ HH.out).mono ?_
                            rintro e wb1 ⟨rfl, hB2⟩
                            have HB2 := Lib.hid hB2
                            clear hB2
                            obtain ⟨vn, hc6, hnw, hc8⟩ := HCL.out _ HB2.out
                            have HNW := Lib.hid hnw
                            clear hnw
                            refine hK.out _ _ (HB2.out.one.ext) (fun hHeld => ?_)
                            clear hK K
                            try simp only [List.getElem_toArray, List.getElem_cons_succ, List.getElem_cons_zero, Act.put, List.setIfInBounds_toArray, List.set_cons_zero, List.set_cons_succ]
                            refine wpAnyH_take (i := 4) (v := ?v3) rfl (by kernel_rfl) (by kernel_rfl) (by kernel_rfl) (fun _ _ _ h => h) (Or.inl ⟨?w3, ?y3⟩) hHeld ?r3
                            case w3 => rfl
                            case y3 => (intro w hSw; go_simp; try with_reducible rfl)
                            simp only [List.getElem_toArray, List.getElem_cons_succ, List.getElem_cons_zero, Act.put, List.setIfInBounds_toArray, List.set_cons_zero, List.set_cons_succ]
                            refine wpAnyH_take (i := 5) (v := ?v4) rfl (by kernel_rfl) (by kernel_rfl) (by kernel_rfl) (fun _ _ _ h => h) (Or.inl ⟨?w4, ?y4⟩) hHeld ?r4
                            case w4 => rfl
                            case y4 => (intro w hSw; go_simp; try with_reducible rfl)
                            simp only [List.getElem_toArray, List.getElem_cons_succ, List.getElem_cons_zero, Act.put, List.setIfInBounds_toArray, List.set_cons_zero, List.set_cons_succ]
                            refine wpAnyH_take (i := 6) (v := ?v5) rfl (by kernel_rfl) (by kernel_rfl) (by kernel_rfl) (fun _ _ _ h => h) (Or.inl ⟨?w5, ?y5⟩) hHeld ?r5
                            case w5 => rfl
                            case y5 => (intro w hSw; go_simp; try with_reducible rfl)
                            simp only [List.getElem_toArray, List.getElem_cons_succ, List.getElem_cons_zero, Act.put, List.setIfInBounds_toArray, List.set_cons_zero, List.set_cons_succ]
                            refine wpAnyH_take (i := 8) (v := ?v6) rfl (by kernel_rfl) (by kernel_rfl) (by kernel_rfl) (fun _ _ _ h => h) (Or.inl ⟨?w6, ?y6⟩) hHeld ?r6
                            case w6 => rfl
                            case y6 => (intro w hSw; go_simp; try with_reducible rfl)
                            simp only [List.getElem_toArray, List.getElem_cons_succ, List.getElem_cons_zero, Act.put, List.setIfInBounds_toArray, List.set_cons_zero, List.set_cons_succ]
                            refine wpAnyH_take (i := 9) (v := ?v7) rfl (by kernel_rfl) (by kernel_rfl) (by kernel_rfl) (fun _ _ _ h => h) (Or.inl ⟨?w7, ?y7⟩) hHeld ?r7
                            case w7 => rfl
                            case y7 => (intro w hSw; go_simp; try with_reducible rfl)
                            simp only [List.getElem_toArray, List.getElem_cons_succ, List.getElem_cons_zero, Act.put, List.setIfInBounds_toArray, List.set_cons_zero, List.set_cons_succ]
                            refine wpAnyH_take (i := 10) (v := ?v8) rfl (by kernel_rfl) (by kernel_rfl) (by kernel_rfl) (fun _ _ _ h => h) (Or.inl ⟨?w8, ?y8⟩) hHeld ?r8
                            case w8 => rfl
                            case y8 => (intro w hSw; go_simp; try with_reducible rfl)
                            simp only [List.getElem_toArray, List.getElem_cons_succ, List.getElem_cons_zero, Act.put, List.setIfInBounds_toArray, List.set_cons_zero, List.set_cons_succ]
                            refine wpAnyH_ready (rs := [7, 11]) (by kernel_rfl) (by simp) ?_
                            refine AllReadyH.cons rfl (fun K hK => ?_) ?_
                            · go_simp
                              go_at_call 28
                              refine (HSTP.out _ HB2.out).mono ?_
                              rintro e wq2 ⟨rfl, rfl⟩
                              refine hK.out _ _ (hHeld) (fun hHeld => ?_)
                              clear hK K
                              try simp only [List.getElem_toArray, List.getElem_cons_succ, List.getElem_cons_zero, Act.put, List.setIfInBounds_toArray, List.set_cons_zero, List.set_cons_succ]
                              refine wpAnyH_ready (rs := [11]) (by kernel_rfl) (by simp) ?_
                              refine AllReadyH.cons rfl (fun K hK => ?_) ?_
                              · go_simp
                                refine hK.out _ _ (hHeld) (fun hHeld => ?_)
                                clear hK K
                                try simp only [List.getElem_toArray, List.getElem_cons_succ, List.getElem_cons_zero, Act.put, List.setIfInBounds_toArray, List.set_cons_zero, List.set_cons_succ]
                                refine wpAnyH_take (i := 12) (v := ?v9) rfl (by kernel_rfl) (by kernel_rfl) (by kernel_rfl) (fun _ _ _ h => h) (Or.inl ⟨?w9, ?y9⟩) hHeld ?r9
                                case w9 => rfl
                                case y9 => (intro w hSw; go_simp; try with_reducible rfl)
                                simp only [List.getElem_toArray, List.getElem_cons_succ, List.getElem_cons_zero, Act.put, List.setIfInBounds_toArray, List.set_cons_zero, List.set_cons_succ]
                                refine wpAnyH_take (i := 13) (v := ?v10) rfl (by kernel_rfl) (by kernel_rfl) (by kernel_rfl) (fun _ _ _ h => h) (Or.inl ⟨?w10, ?y10⟩) hHeld ?r10
                                case w10 => rfl
                                case y10 => (intro w hSw; go_simp; try with_reducible rfl)
                                simp only [List.getElem_toArray, List.getElem_cons_succ, List.getElem_cons_zero, Act.put, List.setIfInBounds_toArray, List.set_cons_zero, List.set_cons_succ]
                                refine wpAnyH_take (i := 14) (v := ?v11) rfl (by kernel_rfl) (by kernel_rfl) (by kernel_rfl) (fun _ _ _ h => h) (Or.inl ⟨?w11, ?y11⟩) hHeld ?r11
                                case w11 => rfl
                                case y11 => (intro w hSw; go_simp; try with_reducible rfl)
                                simp only [List.getElem_toArray, List.getElem_cons_succ, List.getElem_cons_zero, Act.put, List.setIfInBounds_toArray, List.set_cons_zero, List.set_cons_succ]
                                refine wpAnyH_take (i := 15) (v := ?v12) rfl (by kernel_rfl) (by kernel_rfl) (by kernel_rfl) (fun _ _ _ h => h) (Or.inl ⟨?w12, ?y12⟩) hHeld ?r12
                                case w12 => rfl
                                case y12 => (intro w hSw; go_simp; try with_reducible rfl)
                                simp only [List.getElem_toArray, List.getElem_cons_succ, List.getElem_cons_zero, Act.put, List.setIfInBounds_toArray, List.set_cons_zero, List.set_cons_succ]
                                refine wpAnyH_take (i := 17) (v := ?v13) rfl (by kernel_rfl) (by kernel_rfl) (by kernel_rfl) (fun _ _ _ h => h) (Or.inl ⟨?w13, ?y13⟩) hHeld ?r13
                                case w13 => rfl
                                case y13 => (intro w hSw; go_simp; try with_reducible rfl)
                                simp only [List.getElem_toArray, List.getElem_cons_succ, List.getElem_cons_zero, Act.put, List.setIfInBounds_toArray, List.set_cons_zero, List.set_cons_succ]
                                refine wpAnyH_take (i := 18) (v := ?v14) rfl (by kernel_rfl) (by kernel_rfl) (by kernel_rfl) (fun _ _ _ h => h) (Or.inl ⟨?w14, ?y14⟩) hHeld ?r14
                                case w14 => rfl
                                case y14 => (intro w hSw; go_simp; try with_reducible rfl)
                                simp only [List.getElem_toArray, List.getElem_cons_succ, List.getElem_cons_zero, Act.put, List.setIfInBounds_toArray, List.set_cons_zero, List.set_cons_succ]
                                refine wpAnyH_take (i := 19) (v := ?v15) rfl (by kernel_rfl) (by kernel_rfl) (by kernel_rfl) (fun _ _ _ h => h) (Or.inl ⟨?w15, ?y15⟩) hHeld ?r15
                                case w15 => rfl
                                case y15 => (intro w hSw; go_simp; try with_reducible rfl)
                                simp only [List.getElem_toArray, List.getElem_cons_succ, List.getElem_cons_zero, Act.put, List.setIfInBounds_toArray, List.set_cons_zero, List.set_cons_succ]
                                refine wpAnyH_ready (rs := [16, 20]) (by kernel_rfl) (by simp) ?_
                                refine AllReadyH.cons rfl (fun K hK => ?_) ?_
                                · go_simp
                                  go_at_call 29
                                  refine (HCHO.out _ HB2.out).mono ?_
                                  rintro e wch ⟨vch, rfl, hM⟩
                                  have HB3 := Lib.hid (HB2.out.more hM.ext)
                                  have HM3 := Lib.hid hM.ints
                                  have hcc6 := hM.ext.cell hc6
                                  have HNW3 := Lib.hid (HNW.out.below hM.ext)
                                  clear hM
                                  refine hK.out _ _ (HB3.out.one.ext) (fun hHeld => ?_)
                                  clear hK K
                                  try simp only [List.getElem_toArray, List.getElem_cons_succ, List.getElem_cons_zero, Act.put, List.setIfInBounds_toArray, List.set_cons_zero, List.set_cons_succ]
                                  refine wpAnyH_ready (rs := [20]) (by kernel_rfl) (by simp) ?_
                                  refine AllReadyH.cons rfl (fun K hK => ?_) ?_
                                  · go_simp
                                    refine hK.out _ _ (hHeld) (fun hHeld => ?_)
                                    clear hK K
                                    try simp only [List.getElem_toArray, List.getElem_cons_succ, List.getElem_cons_zero, Act.put, List.setIfInBounds_toArray, List.set_cons_zero, List.set_cons_succ]
                                    refine wpAnyH_ready (rs := [21]) (by kernel_rfl) (by simp) ?_
                                    refine AllReadyH.cons rfl (fun K hK => ?_) ?_
                                    · go_simp
                                      go_at_call 17
                                      refine (is_t _ rfl HM3.out HNW3.out (by have := HB3.out.one.len; omega)).mono ?_
                                      rintro e wis ⟨rfl, hdj⟩
                                      have HB4 := Lib.hid (HB3.out.more (hdj.below _))
                                      clear hdj
                                      refine hK.out _ _ (HB4.out.one.ext) (fun hHeld => ?_)
                                      clear hK K
                                      try simp only [List.getElem_toArray, List.getElem_cons_succ, List.getElem_cons_zero, Act.put, List.setIfInBounds_toArray, List.set_cons_zero, List.set_cons_succ]
                                      refine wpAnyH_take (i := 22) (v := ?v16) rfl (by kernel_rfl) (by kernel_rfl) (by kernel_rfl) (fun _ _ _ h => h) (Or.inl ⟨?w16, ?y16⟩) hHeld ?r16
                                      case w16 => rfl
                                      case y16 => (intro w hSw; go_simp; try with_reducible rfl)
                                      simp only [List.getElem_toArray, List.getElem_cons_succ, List.getElem_cons_zero, Act.put, List.setIfInBounds_toArray, List.set_cons_zero, List.set_cons_succ]
                                      refine wpAnyH_take (i := 23) (v := ?v17) rfl (by kernel_rfl) (by kernel_rfl) (by kernel_rfl) (fun _ _ _ h => h) (Or.inl ⟨?w17, ?y17⟩) hHeld ?r17
                                      case w17 => rfl
                                      case y17 => (intro w hSw; go_simp; try with_reducible rfl)
                                      simp only [List.getElem_toArray, List.getElem_cons_succ, List.getElem_cons_zero, Act.put, List.setIfInBounds_toArray, List.set_cons_zero, List.set_cons_succ]
                                      refine wpAnyH_done (by kernel_rfl) ?_ _
                                      have HXF : Hid (Ext wk wis) := HB4.out.one.ext
                                      clear HB4 HB3 HB2 HM3 HNW3 hc6 hc8 hcc6 HH
                                      go_wp2_with fail
                                      go_roundg (3 - (k + 1))
                                      case measure => omega
                                      case rel => exact ⟨k + 1, by go_num, hk, rfl, hxzk.trans HXF.out⟩
                                    exact AllReadyH.nil
                                  exact AllReadyH.nil
                                refine AllReadyH.cons rfl (fun K hK => ?_) ?_
                                · go_simp
                                  refine hK.out _ _ (hHeld) (fun hHeld => ?_)
                                  clear hK K
                                  try simp only [List.getElem_toArray, List.getElem_cons_succ, List.getElem_cons_zero, Act.put, List.setIfInBounds_toArray, List.set_cons_zero, List.set_cons_succ]
                                  refine wpAnyH_ready (rs := [16]) (by kernel_rfl) (by simp) ?_
                                  refine AllReadyH.cons rfl (fun K hK => ?_) ?_
                                  · go_simp
                                    go_at_call 29
                                    refine (HCHO.out _ HB2.out).mono ?_
                                    rintro e wch ⟨vch, rfl, hM⟩
                                    have HB3 := Lib.hid (HB2.out.more hM.ext)
                                    have HM3 := Lib.hid hM.ints
                                    have hcc6 := hM.ext.cell hc6
                                    have HNW3 := Lib.hid (HNW.out.below hM.ext)
                                    clear hM
                                    refine hK.out _ _ (HB3.out.one.ext) (fun hHeld => ?_)
                                    clear hK K
                                    try simp only [List.getElem_toArray, List.getElem_cons_succ, List.getElem_cons_zero, Act.put, List.setIfInBounds_toArray, List.set_cons_zero, List.set_cons_succ]
                                    refine wpAnyH_ready (rs := [21]) (by kernel_rfl) (by simp) ?_
                                    refine AllReadyH.cons rfl (fun K hK => ?_) ?_
                                    · go_simp
                                      go_at_call 17
                                      refine (is_t _ rfl HM3.out HNW3.out (by have := HB3.out.one.len; omega)).mono ?_
                                      rintro e wis ⟨rfl, hdj⟩
                                      have HB4 := Lib.hid (HB3.out.more (hdj.below _))
                                      clear hdj
                                      refine hK.out _ _ (HB4.out.one.ext) (fun hHeld => ?_)
                                      clear hK K
                                      try simp only [List.getElem_toArray, List.getElem_cons_succ, List.getElem_cons_zero, Act.put, List.setIfInBounds_toArray, List.set_cons_zero, List.set_cons_succ]
                                      refine wpAnyH_take (i := 22) (v := ?v18) rfl (by kernel_rfl) (by kernel_rfl) (by kernel_rfl) (fun _ _ _ h => h) (Or.inl ⟨?w18, ?y18⟩) hHeld ?r18
                                      case w18 => rfl
                                      case y18 => (intro w hSw; go_simp; try with_reducible rfl)
                                      simp only [List.getElem_toArray, List.getElem_cons_succ, List.getElem_cons_zero, Act.put, List.setIfInBounds_toArray, List.set_cons_zero, List.set_cons_succ]
                                      refine wpAnyH_take (i := 23) (v := ?v19) rfl (by kernel_rfl) (by kernel_rfl) (by kernel_rfl) (fun _ _ _ h => h) (Or.inl ⟨?w19, ?y19⟩) hHeld ?r19
                                      case w19 => rfl
                                      case y19 => (intro w hSw; go_simp; try with_reducible rfl)
                                      simp only [List.getElem_toArray, List.getElem_cons_succ, List.getElem_cons_zero, Act.put, List.setIfInBounds_toArray, List.set_cons_zero, List.set_cons_succ]
                                      refine wpAnyH_done (by kernel_rfl) ?_ _
                                      have HXF : Hid (Ext wk wis) := HB4.out.one.ext
                                      clear HB4 HB3 HB2 HM3 HNW3 hc6 hc8 hcc6 HH
                                      go_wp2_with fail
                                      go_roundg (3 - (k + 1))
                                      case measure => omega
                                      case rel => exact ⟨k + 1, by go_num, hk, rfl, hxzk.trans HXF.out⟩
                                    exact AllReadyH.nil
                                  exact AllReadyH.nil
                                exact AllReadyH.nil
                              exact AllReadyH.nil
                            refine AllReadyH.cons rfl (fun K hK => ?_) ?_
                            · go_simp
                              refine hK.out _ _ (hHeld) (fun hHeld => ?_)
                              clear hK K
                              try simp only [List.getElem_toArray, List.getElem_cons_succ, List.getElem_cons_zero, Act.put, List.setIfInBounds_toArray, List.set_cons_zero, List.set_cons_succ]
                              refine wpAnyH_ready (rs := [7]) (by kernel_rfl) (by simp) ?_
                              refine AllReadyH.cons rfl (fun K hK => ?_) ?_
                              · go_simp
                                go_at_call 28
                                refine (HSTP.out _ HB2.out).mono ?_
                                rintro e wq2 ⟨rfl, rfl⟩
                                refine hK.out _ _ (hHeld) (fun hHeld => ?_)
                                clear hK K
                                try simp only [List.getElem_toArray, List.getElem_cons_succ, List.getElem_cons_zero, Act.put, List.setIfInBounds_toArray, List.set_cons_zero, List.set_cons_succ]
                                refine wpAnyH_take (i := 12) (v := ?v20) rfl (by kernel_rfl) (by kernel_rfl) (by kernel_rfl) (fun _ _ _ h => h) (Or.inl ⟨?w20, ?y20⟩) hHeld ?r20
                                case w20 => rfl
                                case y20 => (intro w hSw; go_simp; try with_reducible rfl)
                                simp only [List.getElem_toArray, List.getElem_cons_succ, List.getElem_cons_zero, Act.put, List.setIfInBounds_toArray, List.set_cons_zero, List.set_cons_succ]
                                refine wpAnyH_take (i := 13) (v := ?v21) rfl (by kernel_rfl) (by kernel_rfl) (by kernel_rfl) (fun _ _ _ h => h) (Or.inl ⟨?w21, ?y21⟩) hHeld ?r21
                                case w21 => rfl
                                case y21 => (intro w hSw; go_simp; try with_reducible rfl)
                                simp only [List.getElem_toArray, List.getElem_cons_succ, List.getElem_cons_zero, Act.put, List.setIfInBounds_toArray, List.set_cons_zero, List.set_cons_succ]
                                refine wpAnyH_take (i := 14) (v := ?v22) rfl (by kernel_rfl) (by kernel_rfl) (by kernel_rfl) (fun _ _ _ h => h) (Or.inl ⟨?w22, ?y22⟩) hHeld ?r22
                                case w22 => rfl
                                case y22 => (intro w hSw; go_simp; try with_reducible rfl)
                                simp only [List.getElem_toArray, List.getElem_cons_succ, List.getElem_cons_zero, Act.put, List.setIfInBounds_toArray, List.set_cons_zero, List.set_cons_succ]
                                refine wpAnyH_take (i := 15) (v := ?v23) rfl (by kernel_rfl) (by kernel_rfl) (by kernel_rfl) (fun _ _ _ h => h) (Or.inl ⟨?w23, ?y23⟩) hHeld ?r23
                                case w23 => rfl
                                case y23 => (intro w hSw; go_simp; try with_reducible rfl)
                                simp only [List.getElem_toArray, List.getElem_cons_succ, List.getElem_cons_zero, Act.put, List.setIfInBounds_toArray, List.set_cons_zero, List.set_cons_succ]
                                refine wpAnyH_take (i := 17) (v := ?v24) rfl (by kernel_rfl) (by kernel_rfl) (by kernel_rfl) (fun _ _ _ h => h) (Or.inl ⟨?w24, ?y24⟩) hHeld ?r24
                                case w24 => rfl
                                case y24 => (intro w hSw; go_simp; try with_reducible rfl)
                                simp only [List.getElem_toArray, List.getElem_cons_succ, List.getElem_cons_zero, Act.put, List.setIfInBounds_toArray, List.set_cons_zero, List.set_cons_succ]
                                refine wpAnyH_take (i := 18) (v := ?v25) rfl (by kernel_rfl) (by kernel_rfl) (by kernel_rfl) (fun _ _ _ h => h) (Or.inl ⟨?w25, ?y25⟩) hHeld ?r25
                                case w25 => rfl
                                case y25 => (intro w hSw; go_simp; try with_reducible rfl)
                                simp only [List.getElem_toArray, List.getElem_cons_succ, List.getElem_cons_zero, Act.put, List.setIfInBounds_toArray, List.set_cons_zero, List.set_cons_succ]
                                refine wpAnyH_take (i := 19) (v := ?v26) rfl (by kernel_rfl) (by kernel_rfl) (by kernel_rfl) (fun _ _ _ h => h) (Or.inl ⟨?w26, ?y26⟩) hHeld ?r26
                                case w26 => rfl
                                case y26 => (intro w hSw; go_simp; try with_reducible rfl)
                                simp only [List.getElem_toArray, List.getElem_cons_succ, List.getElem_cons_zero, Act.put, List.setIfInBounds_toArray, List.set_cons_zero, List.set_cons_succ]
                                refine wpAnyH_ready (rs := [16, 20]) (by kernel_rfl) (by simp) ?_
                                refine AllReadyH.cons rfl (fun K hK => ?_) ?_
                                · go_simp
                                  go_at_call 29
                                  refine (HCHO.out _ HB2.out).mono ?_
                                  rintro e wch ⟨vch, rfl, hM⟩
                                  have HB3 := Lib.hid (HB2.out.more hM.ext)
                                  have HM3 := Lib.hid hM.ints
                                  have hcc6 := hM.ext.cell hc6
                                  have HNW3 := Lib.hid (HNW.out.below hM.ext)
                                  clear hM
                                  refine hK.out _ _ (HB3.out.one.ext) (fun hHeld => ?_)
                                  clear hK K
                                  try simp only [List.getElem_toArray, List.getElem_cons_succ, List.getElem_cons_zero, Act.put, List.setIfInBounds_toArray, List.set_cons_zero, List.set_cons_succ]
                                  refine wpAnyH_ready (rs := [20]) (by kernel_rfl) (by simp) ?_
                                  refine AllReadyH.cons rfl (fun K hK => ?_) ?_
                                  · go_simp
                                    refine hK.out _ _ (hHeld) (fun hHeld => ?_)
                                    clear hK K
                                    try simp only [List.getElem_toArray, List.getElem_cons_succ, List.getElem_cons_zero, Act.put, List.setIfInBounds_toArray, List.set_cons_zero, List.set_cons_succ]
                                    refine wpAnyH_ready (rs := [21]) (by kernel_rfl) (by simp) ?_
                                    refine AllReadyH.cons rfl (fun K hK => ?_) ?_
                                    · go_simp
                                      go_at_call 17
                                      refine (is_t _ rfl HM3.out HNW3.out (by have := HB3.out.one.len; omega)).mono ?_
                                      rintro e wis ⟨rfl, hdj⟩
                                      have HB4 := Lib.hid (HB3.out.more (hdj.below _))
                                      clear hdj
                                      refine hK.out _ _ (HB4.out.one.ext) (fun hHeld => ?_)
                                      clear hK K
                                      try simp only [List.getElem_toArray, List.getElem_cons_succ, List.getElem_cons_zero, Act.put, List.setIfInBounds_toArray, List.set_cons_zero, List.set_cons_succ]
                                      refine wpAnyH_take (i := 22) (v := ?v27) rfl (by kernel_rfl) (by kernel_rfl) (by kernel_rfl) (fun _ _ _ h => h) (Or.inl ⟨?w27, ?y27⟩) hHeld ?r27
                                      case w27 => rfl
                                      case y27 => (intro w hSw; go_simp; try with_reducible rfl)
                                      simp only [List.getElem_toArray, List.getElem_cons_succ, List.getElem_cons_zero, Act.put, List.setIfInBounds_toArray, List.set_cons_zero, List.set_cons_succ]
                                      refine wpAnyH_take (i := 23) (v := ?v28) rfl (by kernel_rfl) (by kernel_rfl) (by kernel_rfl) (fun _ _ _ h => h) (Or.inl ⟨?w28, ?y28⟩) hHeld ?r28
                                      case w28 => rfl
                                      case y28 => (intro w hSw; go_simp; try with_reducible rfl)
                                      simp only [List.getElem_toArray, List.getElem_cons_succ, List.getElem_cons_zero, Act.put, List.setIfInBounds_toArray, List.set_cons_zero, List.set_cons_succ]
                                      refine wpAnyH_done (by kernel_rfl) ?_ _
                                      have HXF : Hid (Ext wk wis) := HB4.out.one.ext
                                      clear HB4 HB3 HB2 HM3 HNW3 hc6 hc8 hcc6 HH
                                      go_wp2_with fail
                                      go_roundg (3 - (k + 1))
                                      case measure => omega
                                      case rel => exact ⟨k + 1, by go_num, hk, rfl, hxzk.trans HXF.out⟩
                                    exact AllReadyH.nil
                                  exact AllReadyH.nil
                                refine AllReadyH.cons rfl (fun K hK => ?_) ?_
                                · go_simp
                                  refine hK.out _ _ (hHeld) (fun hHeld => ?_)
                                  clear hK K
                                  try simp only [List.getElem_toArray, List.getElem_cons_succ, List.getElem_cons_zero, Act.put, List.setIfInBounds_toArray, List.set_cons_zero, List.set_cons_succ]
                                  refine wpAnyH_ready (rs := [16]) (by kernel_rfl) (by simp) ?_
                                  refine AllReadyH.cons rfl (fun K hK => ?_) ?_
                                  · go_simp
                                    go_at_call 29
                                    refine (HCHO.out _ HB2.out).mono ?_
                                    rintro e wch ⟨vch, rfl, hM⟩
                                    have HB3 := Lib.hid (HB2.out.more hM.ext)
                                    have HM3 := Lib.hid hM.ints
                                    have hcc6 := hM.ext.cell hc6
                                    have HNW3 := Lib.hid (HNW.out.below hM.ext)
                                    clear hM
                                    refine hK.out _ _ (HB3.out.one.ext) (fun hHeld => ?_)
                                    clear hK K
                                    try simp only [List.getElem_toArray, List.getElem_cons_succ, List.getElem_cons_zero, Act.put, List.setIfInBounds_toArray, List.set_cons_zero, List.set_cons_succ]
                                    refine wpAnyH_ready (rs := [21]) (by kernel_rfl) (by simp) ?_
                                    refine AllReadyH.cons rfl (fun K hK => ?_) ?_
                                    · go_simp
                                      go_at_call 17
                                      refine (is_t _ rfl HM3.out HNW3.out (by have := HB3.out.one.len; omega)).mono ?_
                                      rintro e wis ⟨rfl, hdj⟩
                                      have HB4 := Lib.hid (HB3.out.more (hdj.below _))
                                      clear hdj
                                      refine hK.out _ _ (HB4.out.one.ext) (fun hHeld => ?_)
                                      clear hK K
                                      try simp only [List.getElem_toArray, List.getElem_cons_succ, List.getElem_cons_zero, Act.put, List.setIfInBounds_toArray, List.set_cons_zero, List.set_cons_succ]
                                      refine wpAnyH_take (i := 22) (v := ?v29) rfl (by kernel_rfl) (by kernel_rfl) (by kernel_rfl) (fun _ _ _ h => h) (Or.inl ⟨?w29, ?y29⟩) hHeld ?r29
                                      case w29 => rfl
                                      case y29 => (intro w hSw; go_simp; try with_reducible rfl)
                                      simp only [List.getElem_toArray, List.getElem_cons_succ, List.getElem_cons_zero, Act.put, List.setIfInBounds_toArray, List.set_cons_zero, List.set_cons_succ]
                                      refine wpAnyH_take (i := 23) (v := ?v30) rfl (by kernel_rfl) (by kernel_rfl) (by kernel_rfl) (fun _ _ _ h => h) (Or.inl ⟨?w30, ?y30⟩) hHeld ?r30
                                      case w30 => rfl
                                      case y30 => (intro w hSw; go_simp; try with_reducible rfl)
                                      simp only [List.getElem_toArray, List.getElem_cons_succ, List.getElem_cons_zero, Act.put, List.setIfInBounds_toArray, List.set_cons_zero, List.set_cons_succ]
                                      refine wpAnyH_done (by kernel_rfl) ?_ _
                                      have HXF : Hid (Ext wk wis) := HB4.out.one.ext
                                      clear HB4 HB3 HB2 HM3 HNW3 hc6 hc8 hcc6 HH
                                      go_wp2_with fail
                                      go_roundg (3 - (k + 1))
                                      case measure => omega
                                      case rel => exact ⟨k + 1, by go_num, hk, rfl, hxzk.trans HXF.out⟩
                                    exact AllReadyH.nil
                                  exact AllReadyH.nil
                                exact AllReadyH.nil
                              exact AllReadyH.nil
                            exact AllReadyH.nil
                          exact AllReadyH.nil
                        exact AllReadyH.nil
                  · obtain rfl : k = 3 := by omega
                    go_wp2_with fail
                    go_roundg (2 - (j + 1))
                    case measure => omega
                    case rel => exact ⟨j + 1, by go_num, hj, rfl, hxmk⟩
            · obtain rfl : j = 2 := by omega
              go_wp2_with fail
              go_roundg (4 - (i + 1))
              case measure => omega
              case rel => exact ⟨i + 1, by go_num, hi, rfl, hxcm.trans hxmj⟩
      · obtain rfl : i = 4 := by omega
        have HFIN : Hid (Ext w wi) := HEW5.out.trans (hx5c.trans hxci)
        go_wp2_with fail
        go_ret
        exact ⟨rfl, HFIN.out⟩
set_option maxRecDepth 100000 in
theorem intArg {H : Type} {enc : TypeId × Value → H} {base : Nat} {held : Bool} {w : World} {v : Value} {d : DataW H} {p : List MemPlace} {W : World} {b : Nat} (hv : Value.okWide Try.prog W .any b 3 v) (h : DataW.Trod enc Try.prog w base (fun _ => true) held 3 v d p) : ∃ n, v = .int .i64 n ∧ -9223372036854775808 ≤ n ∧ n ≤ 9223372036854775807 := by
  obtain ⟨fuel, h⟩ := h
  obtain ⟨n, e, h1, h2⟩ := intOpen h
  refine ⟨n, ?_, h1, h2⟩
  have hv2 : ∀ cs, v ≠ .agg cs := by
    rintro cs rfl
    unfold Value.okWide at hv
    rw [Try.underlying3] at hv
    simp [Cell.okWide, Cell.ok, Try.underlying3] at hv
  have h3 : v.cells = #[v] := by
    cases v <;> first | rfl | exact absurd rfl (hv2 _)
  rw [h3] at e
  injection e with e
set_option maxRecDepth 100000 in
theorem routeLoads_walk {H : Type} {enc : TypeId × Value → H} {base : Nat} {v0 v1 : Value} {d0 d1 : DataW H} {p0 p1 : List MemPlace} (W : World) (hv0 : Value.okWide Try.prog W .any base 26 v0) (h0 : DataW.Trod enc Try.prog W 0 (fun _ => true) true 26 v0 d0 p0)
    (hv1 : Value.okWide Try.prog W .any base 3 v1) (h1 : DataW.Trod enc Try.prog W 0 (fun _ => true) true 3 v1 d1 p1) :
    Calls Try.prog 5 #[v0, v1] W fun e w' => e = .returned (.bool true) ∧ Below W.heap.size W w' := by
  obtain ⟨va, o0, o1, o2, vb, ls, ns, rfl, h2, h3, h4, h5, h6, -⟩ := caseOpen h0 (caseAgg hv0)
  obtain ⟨n, rfl, h7, h8⟩ := intArg hv1 h1
  exact loads_calls o0 o1 o2 n W ⟨h7, h8⟩ h2 h3 h4 h5 h6
end Go.Proofs.Ytgpjfpcjiebjiaa
