/- Walks: the law RouteChoices. -/
import Derived.Test.YtgpjfpcjiebjiaaGq
import Derived.Test.YtgpjfpcjiebjiaaGr
import Derived.Test.YtgpjfpcjiebjiaaGx
import Derived.Test.YtgpjfpcjiebjiaaGE
import Derived.Test.YtgpjfpcjiebjiaaGz
import Derived.Test.YtgpjfpcjiebjiaaGL
import Derived.Test.YtgpjfpcjiebjiaaGK
namespace Go.Proofs.Ytgpjfpcjiebjiaa
open Go.RowKit
set_option linter.unusedVariables false
set_option linter.unusedSimpArgs false
attribute [local go_sem ↓] Go.wp_at_zero Go.wp_at_succ

theorem wrapNat (n : Nat) (h : n ≤ 1000) : IntKind.i64.wrap (n : Int) = (n : Int) := by
 have e : (n : Int) % 2 ^ 64 = n := Int.emod_eq_of_lt (by omega) (by omega)
 simp only [IntKind.wrap, IntKind.bits, IntKind.signed, e]
 rw [if_neg]
 simp
 omega
theorem xs_make4 {W : World} {ok0 ok1 ok2 ok3 : Nat → Prop} {v0 v1 v2 v3 : Value} {x0 x1 x2 x3 : List Int} (h0 : Ints W ok0 v0 x0) (h1 : Ints W ok1 v1 x1) (h2 : Ints W ok2 v2 x2) (h3 : Ints W ok3 v3 x3) (l0 : x0.length ≤ 24) (l1 : x1.length ≤ 24) (l2 : x2.length ≤ 24) (l3 : x3.length ≤ 24) :
  XsAt (W.alloc (.cells #[v0, v1, v2, v3] 24)) W.heap.size := fun i hi => by
 have hB : Blk (W.alloc (.cells #[v0, v1, v2, v3] 24)) W.heap.size 24 #[v0, v1, v2, v3] := heap_alloc_new _ _
 have hE : Ext W (W.alloc (.cells #[v0, v1, v2, v3] 24)) := (Ext.refl W).alloc _
 obtain ⟨A0, c0, rfl, -⟩ := id h0
 obtain ⟨A1, c1, rfl, -⟩ := id h1
 obtain ⟨A2, c2, rfl, -⟩ := id h2
 obtain ⟨A3, c3, rfl, -⟩ := id h3
 match i, hi with
 | 0, _ => exact ⟨A0, c0, x0, hB.cell (k := 0) rfl, (h0.weaken fun _ _ => trivial).below hE, l0⟩
 | 1, _ => exact ⟨A1, c1, x1, hB.cell (k := 1) rfl, (h1.weaken fun _ _ => trivial).below hE, l1⟩
 | 2, _ => exact ⟨A2, c2, x2, hB.cell (k := 2) rfl, (h2.weaken fun _ _ => trivial).below hE, l2⟩
 | 3, _ => exact ⟨A3, c3, x3, hB.cell (k := 3) rfl, (h3.weaken fun _ _ => trivial).below hE, l3⟩

set_option maxHeartbeats 8000000 in
set_option maxRecDepth 100000 in
theorem choices_calls {ok ok2 : Nat → Prop} {v vn : Value} {ls : List (List Int)} {ns : List Int} (o0 o1 o2 : Int) (w : World) (hl : Intss w ok v ls) (hll : ls.length ≤ 9223372036854775807) (hlx : ∀ l ∈ ls, l.length ≤ 9223372036854775807) (hn : Ints w ok2 vn ns) (hnl : ns.length ≤ 9223372036854775807) :
  Calls Try.prog 10 #[.agg #[v, .int .i64 o0, .int .i64 o1, .int .i64 o2, vn]] w fun e w' => e = .returned (.bool true) ∧ Ext w w' := by
 have HLS := Lib.hid hl
 have HNS := Lib.hid hn
 obtain ⟨vs, ⟨A, c, rfl, hc, -⟩, -⟩ := hl
 obtain ⟨A2, c2, rfl, hc2, -⟩ := hn
 have HLX := Lib.hid hlx
 clear hlx
 go_enter Try.func10, Try.ntmps10
 go_wp2_with fail
 generalize hwa : w.alloc (.cells #[.slice A ls.length c, .int .i64 o0, .int .i64 o1, .int .i64 o2, .slice A2 ns.length c2] 26) = wa
 have hEa : Ext w wa := by rw [← hwa]; exact (Ext.refl _).alloc _
 have hBa : Blk wa w.heap.size 26 #[.slice A ls.length c, .int .i64 o0, .int .i64 o1, .int .i64 o2, .slice A2 ns.length c2] := by rw [← hwa]; exact Blk.new _ _ _ rfl
 clear hwa
 have r0 : ∀ W, Ext wa W → W.cell? ⟨w.heap.size, 0, none⟩ = some (.slice A ls.length c) := Ext.rule (hBa.cell (k := 0) rfl)
 have r1 : ∀ W, Ext wa W → W.cell? ⟨w.heap.size, 1, none⟩ = some (.int .i64 o0) := Ext.rule (hBa.cell (k := 1) rfl)
 have r2 : ∀ W, Ext wa W → W.cell? ⟨w.heap.size, 2, none⟩ = some (.int .i64 o1) := Ext.rule (hBa.cell (k := 2) rfl)
 have r3 : ∀ W, Ext wa W → W.cell? ⟨w.heap.size, 3, none⟩ = some (.int .i64 o2) := Ext.rule (hBa.cell (k := 3) rfl)
 have r4 : ∀ W, Ext wa W → W.cell? ⟨w.heap.size, 4, none⟩ = some (.slice A2 ns.length c2) := Ext.rule (hBa.cell (k := 4) rfl)
 clear hBa
 refine (sanity_calls wa).mono ?_
 rintro e w1 ⟨rfl, hE1⟩
 have hx1 : Ext wa w1 := hE1
 go_wp2_with fail
 refine (caseMade_calls o0 o1 o2 w1 (HLS.out.below (hEa.trans hx1)) hll HLX.out (HNS.out.below (hEa.trans hx1)) hnl).mono ?_
 rintro e w2 ⟨v2, m, vl, l, rfl, hE2, hm, hMM, hMk, hl12, hlr⟩
 have HM := Lib.hid hm
 obtain ⟨vfr, vup, vts, rfl, ⟨_, ⟨Af, cf, rfl, -⟩, -⟩, ⟨Au, cu, rfl, -⟩, ⟨_, ⟨At, ct, rfl, -⟩, -⟩⟩ := hm
 have HI := Lib.hid hMk.ints
 obtain ⟨Al, cl, rfl, hcl⟩ := hMk.slice
 have HMM := Lib.hid hMM
 have HLR := Lib.hid hlr
 have HEW := Lib.hid ((hEa.trans hx1).trans hE2)
 have hxa2 : Ext wa w2 := hx1.trans hE2
 have HMK := Lib.hid hMk.own
 clear hMk hMM hlr hx1 hE1 hEa hE2
 obtain ⟨gm, hgm⟩ : ∃ gm, gm = w2.heap.size := ⟨_, rfl⟩
 have hg := HMM.out.good
 have hdimWH : 2 ≤ m.w * m.h ∧ m.w * m.h ≤ 16 := by
  have h0 := HMM.out.w
  have h1 := hg.dim.layer
  have h2 : m.n = m.w * m.h * m.l := rfl
  have h3 := Int.mul_le_mul_of_nonneg_left HMM.out.h.1 (show 0 ≤ m.w by omega)
  have := HMM.out.n
  omega
 have hdimN : 2 ≤ m.w * m.h * m.l ∧ m.w * m.h * m.l ≤ 16 := HMM.out.n
 have HG := Lib.hid hg
 clear hg
 obtain ⟨hd1, hd2⟩ := hdimWH
 obtain ⟨hd3, hd4⟩ := hdimN
 go_upto_region 3 with fail
 rw [← hgm]
 generalize hw5 : w2.alloc (.cells #[.int .i64 m.w, .int .i64 m.h, .int .i64 m.l, .slice Af m.free.length cf, .slice Au m.up.length cu, .slice At m.tasks.length ct] 31) = w5
 have hE5 : Ext w2 w5 := by rw [← hw5]; exact (Ext.refl _).alloc _
 have hBm : Blk w5 gm 31 #[.int .i64 m.w, .int .i64 m.h, .int .i64 m.l, .slice Af m.free.length cf, .slice Au m.up.length cu, .slice At m.tasks.length ct] := by rw [← hw5, hgm]; exact Blk.new _ _ _ rfl
 clear hw5 hgm
 obtain ⟨m0, m1, m2, m3, m4, m5⟩ := cells6 hBm
 have q0 := Ext.rule m0
 have q1 := Ext.rule m1
 have q2 := Ext.rule m2
 have q3 := Ext.rule m3
 have q4 := Ext.rule m4
 have q5 := Ext.rule m5
 clear m0 m1 m2 m3 m4 m5 hBm hd1 hd2 hd3 hd4
 have HM5 := Lib.hid (HM.out.below hE5)
 have HI5 := Lib.hid (HI.out.below hE5)
 have HEW5 : Hid (Ext w w5) := HEW.out.trans hE5
 have hxa5 : Ext wa w5 := hxa2.trans hE5
 clear hE5
 have hx5 := Ext.refl w5
 have hl12' : l.length ≤ 12 := hl12
 go_wp2_with fail
 refine (walk_calls w5 HM5.out HMM.out.lens (fun t ht => by have := (HMM.out.te t ht).2; omega) (HNS.out.below HEW5.out) hnl).mono ?_
 rintro e w6 ⟨v6, wl, rfl, hM6, hwl⟩
 obtain ⟨A6, c6, rfl, hc6⟩ := hM6.slice
 have hx6 : Ext w5 w6 := hM6.ext
 have HW6 := Lib.hid hM6.own
 have HI6 := Lib.hid (HI5.out.below hx6)
 clear hM6
 have hxa6 : Ext wa w6 := hxa5.trans hx6
 go_wp2_with fail
 refine (odd_calls o0 o1 o2 w6 (HM5.out.below hx6) HMM.out.obL (by omega) (by omega) (by omega)).mono ?_
 rintro e w7 ⟨v7, m7, rfl, hx7, hm7, hob7⟩
 have HM7' := Lib.hid hm7
 have HO7 := Lib.hid hob7
 obtain ⟨f7, u7', t7, rfl, -, -, -⟩ := id hm7
 obtain ⟨oA, on, oc, oA', on', oc', oA'', on'', oc'', rfl, rfl, rfl⟩ := mazeV_slices hm7
 have hx67 : Ext w6 w7 := hx7
 clear hm7 hob7 hx7
 go_upto_region 5 with fail
 generalize hw8 : w7.alloc (.cells #[.int .i64 m7.w, .int .i64 m7.h, .int .i64 m7.l, .slice oA on oc, .slice oA' on' oc', .slice oA'' on'' oc''] 31) = w8
 have hE78 : Ext w7 w8 := by rw [← hw8]; exact (Ext.refl _).alloc _
 have hB8 : Blk w8 w7.heap.size 31 #[.int .i64 m7.w, .int .i64 m7.h, .int .i64 m7.l, .slice oA on oc, .slice oA' on' oc', .slice oA'' on'' oc''] := by rw [← hw8]; exact Blk.new _ _ _ rfl
 clear hw8
 obtain ⟨m0, m1, m2, m3, m4, m5⟩ := cells6 hB8
 have s0 := Ext.rule m0
 have s1 := Ext.rule m1
 have s2 := Ext.rule m2
 have s3 := Ext.rule m3
 have s4 := Ext.rule m4
 have s5 := Ext.rule m5
 clear m0 m1 m2 m3 m4 m5 hB8
 have hx68 : Ext w6 w8 := hx67.trans hE78
 have hx58 : Ext w5 w8 := hx6.trans hx68
 have HM8 := Lib.hid (HM7'.out.below hE78)
 have HM58 := Lib.hid (HM5.out.below hx58)
 have HI8 := Lib.hid (HI5.out.below hx58)
 have HWI : Hid (Ints w6 (fun b => w5.heap.size ≤ b) (.slice A6 wl.length c6) wl) := Row.of_own HW6.out
 have HW8 := Lib.hid (HWI.out.below hx68)
 obtain ⟨h, hh⟩ : ∃ h : Nat, h = wl.length / 2 := ⟨_, rfl⟩
 have hq1 : (wl.length : Int).tdiv 2 = (h : Int) := by rw [Int.tdiv_eq_ediv_of_nonneg (by omega)]; omega
 have hq2 : (wl.length : Int) / 2 = (h : Int) := by omega
 have hq3 : (0 : Int) ≤ (h : Int) := by omega
 have hq4 : (h : Int) ≤ (wl.length : Int) := by omega
 have hq5 : (h : Int) ≤ (c6 : Int) := by omega
 have hhl : h ≤ wl.length := by omega
 have HHL := Lib.hid hhl
 have HWP : Hid (Ints w8 (fun b => w5.heap.size ≤ b) (.slice A6 h c6) (wl.take h)) := pref_ints HW8.out hhl
 have htl : (wl.take h).length ≤ 24 := by rw [List.length_take]; omega
 have hll12 : wl.length + l.length ≤ 24 := by omega
 go_cut [42, 43, 44] (fun v v43 v44 wx => v43 = .int .i64 4 ∧ v44 = .int .i64 0 ∧ ∃ b, v = .slice (some ⟨b, 0, none⟩) 4 4 ∧ Hid (XsAt wx b) ∧ Hid (Ext w8 wx))
 case first =>
  rcases Nat.eq_zero_or_pos wl.length with hl0 | hl0
  ·obtain rfl : wl = [] := List.eq_nil_of_length_eq_zero hl0
   obtain rfl : h = 0 := by simpa using hh
   clear hl0 hq1 hq2 hq3 hq4 hq5 hh hhl htl
   rcases HW6.out.2 with ⟨e, -⟩ | ⟨g0, cap, cur, e, -, -, -, -, -, -⟩
   ·injection e with e1 e2 e3
    subst e1 e3
    clear e2
    refine wp_region_held_drew (S := (fun W => Ext w8 W)) mixedA ((Ext.refl w8).drew) (fun hHeld => ?_)
    have hHd : Ext w8 w8.drew := hHeld
    generalize w8.drew = wd at hHeld hHd ⊢
    refine wpAnyH_take (i := 0) (v := ?v1_1) rfl (by kernel_rfl) (by kernel_rfl) (by kernel_rfl) (fun _ _ _ h => h) (Or.inl ⟨?w1_1, ?y1_1⟩) hHeld ?r1_1
    case w1_1 => rfl
    case y1_1 => (intro w hSw; go_simp; try with_reducible rfl)
    simp only [rtPr, Act.put]
    refine wpAnyH_take (i := 1) (v := ?v1_2) rfl (by kernel_rfl) (by kernel_rfl) (by kernel_rfl) (fun _ _ _ h => h) (Or.inl ⟨?w1_2, ?y1_2⟩) hHeld ?r1_2
    case w1_2 => rfl
    case y1_2 => (intro w hSw; go_simp; try with_reducible rfl)
    simp only [rtPr, Act.put]
    refine wpAnyH_take (i := 2) (v := ?v1_3) rfl (by kernel_rfl) (by kernel_rfl) (by kernel_rfl) (fun _ _ _ h => h) (Or.inl ⟨?w1_3, ?y1_3⟩) hHeld ?r1_3
    case w1_3 => rfl
    case y1_3 => (intro w hSw; go_simp; try with_reducible rfl)
    simp only [rtPr, Act.put]
    refine wpAnyH_take (i := 3) (v := ?v1_4) rfl (by kernel_rfl) (by kernel_rfl) (by kernel_rfl) (fun _ _ _ h => h) (Or.inl ⟨?w1_4, ?y1_4⟩) hHeld ?r1_4
    case w1_4 => rfl
    case y1_4 => (intro w hSw; go_simp; try with_reducible rfl)
    simp only [rtPr, Act.put]
    refine wpAnyH_take (i := 4) (v := ?v1_5) rfl (by kernel_rfl) (by kernel_rfl) (by kernel_rfl) (fun _ _ _ h => h) (Or.inl ⟨?w1_5, ?y1_5⟩) hHeld ?r1_5
    case w1_5 => rfl
    case y1_5 => (intro w hSw; go_simp; try with_reducible rfl)
    simp only [rtPr, Act.put]
    refine wpAnyH_take (i := 5) (v := .slice none 0 0) rfl (by kernel_rfl) (by kernel_rfl) (by kernel_rfl) (fun _ _ _ h => h) (Or.inl ⟨?w1_6, ?y1_6⟩) hHeld ?r1_6
    case w1_6 => rfl
    case y1_6 => (intro w hSw; go_simp; first | done | exact if_pos (by decide) | (rw [show IntKind.i64.wrap 0 = 0 from by decide, if_pos ⟨by omega, by omega⟩]; rfl) | (rw [show IntKind.i64.wrap 0 = 0 from by decide]; simp; done) | (trace_state; sorry))
    simp only [rtPr, Act.put]
    refine wpAnyH_take (i := 6) (v := ?v1_7) rfl (by kernel_rfl) (by kernel_rfl) (by kernel_rfl) (fun _ _ _ h => h) (Or.inl ⟨?w1_7, ?y1_7⟩) hHeld ?r1_7
    case w1_7 => rfl
    case y1_7 => (intro w hSw; go_simp; try with_reducible rfl)
    simp only [rtPr, Act.put]
    refine wpAnyH_take (i := 8) (v := ?v1_8) rfl (by kernel_rfl) (by kernel_rfl) (by kernel_rfl) (fun _ _ _ h => h) (Or.inl ⟨?w1_8, ?y1_8⟩) hHeld ?r1_8
    case w1_8 => rfl
    case y1_8 => (intro w hSw; go_simp; try with_reducible rfl)
    simp only [rtPr, Act.put]
    refine wpAnyH_take (i := 10) (v := ?v1_9) rfl (by kernel_rfl) (by kernel_rfl) (by kernel_rfl) (fun _ _ _ h => h) (Or.inl ⟨?w1_9, ?y1_9⟩) hHeld ?r1_9
    case w1_9 => rfl
    case y1_9 => (intro w hSw; go_simp; try with_reducible rfl)
    simp only [rtPr, Act.put]
    refine wpAnyH_take (i := 14) (v := ?v1_10) rfl (by kernel_rfl) (by kernel_rfl) (by kernel_rfl) (fun _ _ _ h => h) (Or.inl ⟨?w1_10, ?y1_10⟩) hHeld ?r1_10
    case w1_10 => rfl
    case y1_10 => (intro w hSw; go_simp; try with_reducible rfl)
    simp only [rtPr, Act.put]
    refine wpAnyH_ready (rs := [7]) (by kernel_rfl) (by simp) ?_
    refine AllReadyH.cons rfl (fun K hK => ?_) ?_
    ·go_simp
     have hEd : Ext w8 (wd.alloc (.cells #[] 3)) := hHd.alloc _
     refine hK.out _ _ (hEd) (fun hHeld => ?_)
     clear hK K
     try simp only [rtPr, Act.put]
     refine wpAnyH_ready (rs := [9]) (by kernel_rfl) (by simp) ?_
     refine AllReadyH.cons rfl (fun K hK => ?_) ?_
     ·refine step_append_ints (ok := fun b => w5.heap.size ≤ b) (by rfl) _ _ _ (by rfl) wd.heap.size [] [] _ _ (by rfl) (by rfl) (own_empty wd wd.heap.size (Nat.le_refl _)) (HW8.out.below hEd) (by simp) (by simp only [List.length_nil]; omega) ?_
      intro vN w9 ho9 hg9 hat9
      have HE9 : Hid (Ext wd w9) := below_app ((Ext.refl wd).alloc (.cells #[] 3)) hg9 (by simp) (fun k hk => own_base (own_empty wd wd.heap.size (Nat.le_refl _)) hk)
      rw [List.nil_append] at ho9
      have HO9 := Lib.hid ho9
      have h89 : Ext w8 w9 := hHd.trans HE9.out
      clear ho9 hg9 hat9
      refine hK.out _ _ (h89) (fun hHeld => ?_)
      clear hK K
      try simp only [rtPr, Act.put]
      refine wpAnyH_ready (rs := [11]) (by kernel_rfl) (by simp) ?_
      refine AllReadyH.cons rfl (fun K hK => ?_) ?_
      ·refine step_append_ints (ok := _) (by rfl) _ _ _ (by rfl) wd.heap.size [] l _ _ (by rfl) (by rfl) HO9.out (HI8.out.below h89) HE9.out.size (by omega) ?_
       intro vM wA hoA hgA hatA
       have HEA : Hid (Ext wd wA) := below_app HE9.out hgA HE9.out.size (fun k hk => own_base HO9.out hk)
       have h8A : Ext w8 wA := hHd.trans HEA.out
       obtain ⟨AM, nM, cM, rfl⟩ := own_slice3 hoA
       have HOA := Lib.hid (Row.of_own hoA)
       clear hoA hgA hatA
       refine hK.out _ _ (h8A) (fun hHeld => ?_)
       clear hK K
       try simp only [rtPr, Act.put]
       refine wpAnyH_ready (rs := [12]) (by kernel_rfl) (by simp) ?_
       refine AllReadyH.cons rfl (fun K hK => ?_) ?_
       ·go_simp
        have HXS : Hid (XsAt (wA.alloc (.cells #[.slice none 0 0, .slice none 0 0, .slice Al l.length cl, .slice AM nM cM] 24)) wA.heap.size) := xs_make4 (HW8.out.below h8A) (HWP.out.below h8A) (HI8.out.below h8A) HOA.out (by simp) (by simp) (by omega) (by rw [List.length_append]; omega)
        have h8B : Ext w8 (wA.alloc (.cells #[.slice none 0 0, .slice none 0 0, .slice Al l.length cl, .slice AM nM cM] 24)) := h8A.alloc _
        refine hK.out _ _ (h8B) (fun hHeld => ?_)
        clear hK K
        try simp only [rtPr, Act.put]
        refine wpAnyH_ready (rs := [13]) (by kernel_rfl) (by simp) ?_
        refine AllReadyH.cons rfl (fun K hK => ?_) ?_
        ·go_simp
         refine hK.out _ _ (hHeld) (fun hHeld => ?_)
         clear hK K
         try simp only [rtPr, Act.put]
         refine wpAnyH_done (by kernel_rfl) ?_ _
         go_wp2
         go_meet
         exact ⟨rfl, rfl, _, rfl, HXS, Lib.hid h8B⟩
        exact AllReadyH.nil
       exact AllReadyH.nil
      exact AllReadyH.nil
     exact AllReadyH.nil
    exact AllReadyH.nil
   ·injection e with e1 e2 e3
    subst e1 e3
    clear e2
    by_cases hc0 : c6 = 0
    ·subst hc0
     refine wp_region_held_drew (S := (fun W => Ext w8 W)) mixedA ((Ext.refl w8).drew) (fun hHeld => ?_)
     have hHd : Ext w8 w8.drew := hHeld
     generalize w8.drew = wd at hHeld hHd ⊢
     refine wpAnyH_take (i := 0) (v := ?v2_1) rfl (by kernel_rfl) (by kernel_rfl) (by kernel_rfl) (fun _ _ _ h => h) (Or.inl ⟨?w2_1, ?y2_1⟩) hHeld ?r2_1
     case w2_1 => rfl
     case y2_1 => (intro w hSw; go_simp; try with_reducible rfl)
     simp only [rtPr, Act.put]
     refine wpAnyH_take (i := 1) (v := ?v2_2) rfl (by kernel_rfl) (by kernel_rfl) (by kernel_rfl) (fun _ _ _ h => h) (Or.inl ⟨?w2_2, ?y2_2⟩) hHeld ?r2_2
     case w2_2 => rfl
     case y2_2 => (intro w hSw; go_simp; try with_reducible rfl)
     simp only [rtPr, Act.put]
     refine wpAnyH_take (i := 2) (v := ?v2_3) rfl (by kernel_rfl) (by kernel_rfl) (by kernel_rfl) (fun _ _ _ h => h) (Or.inl ⟨?w2_3, ?y2_3⟩) hHeld ?r2_3
     case w2_3 => rfl
     case y2_3 => (intro w hSw; go_simp; try with_reducible rfl)
     simp only [rtPr, Act.put]
     refine wpAnyH_take (i := 3) (v := ?v2_4) rfl (by kernel_rfl) (by kernel_rfl) (by kernel_rfl) (fun _ _ _ h => h) (Or.inl ⟨?w2_4, ?y2_4⟩) hHeld ?r2_4
     case w2_4 => rfl
     case y2_4 => (intro w hSw; go_simp; try with_reducible rfl)
     simp only [rtPr, Act.put]
     refine wpAnyH_take (i := 4) (v := ?v2_5) rfl (by kernel_rfl) (by kernel_rfl) (by kernel_rfl) (fun _ _ _ h => h) (Or.inl ⟨?w2_5, ?y2_5⟩) hHeld ?r2_5
     case w2_5 => rfl
     case y2_5 => (intro w hSw; go_simp; try with_reducible rfl)
     simp only [rtPr, Act.put]
     refine wpAnyH_take (i := 5) (v := .slice (some ⟨g0, 0, none⟩) 0 0) rfl (by kernel_rfl) (by kernel_rfl) (by kernel_rfl) (fun _ _ _ h => h) (Or.inl ⟨?w2_6, ?y2_6⟩) hHeld ?r2_6
     case w2_6 => rfl
     case y2_6 => (intro w hSw; go_simp; first | done | exact if_pos (by decide) | (rw [show IntKind.i64.wrap 0 = 0 from by decide, if_pos ⟨by omega, by omega⟩]; rfl) | (rw [show IntKind.i64.wrap 0 = 0 from by decide]; simp; done) | (trace_state; sorry))
     simp only [rtPr, Act.put]
     refine wpAnyH_take (i := 6) (v := ?v2_7) rfl (by kernel_rfl) (by kernel_rfl) (by kernel_rfl) (fun _ _ _ h => h) (Or.inl ⟨?w2_7, ?y2_7⟩) hHeld ?r2_7
     case w2_7 => rfl
     case y2_7 => (intro w hSw; go_simp; try with_reducible rfl)
     simp only [rtPr, Act.put]
     refine wpAnyH_take (i := 8) (v := ?v2_8) rfl (by kernel_rfl) (by kernel_rfl) (by kernel_rfl) (fun _ _ _ h => h) (Or.inl ⟨?w2_8, ?y2_8⟩) hHeld ?r2_8
     case w2_8 => rfl
     case y2_8 => (intro w hSw; go_simp; try with_reducible rfl)
     simp only [rtPr, Act.put]
     refine wpAnyH_take (i := 10) (v := ?v2_9) rfl (by kernel_rfl) (by kernel_rfl) (by kernel_rfl) (fun _ _ _ h => h) (Or.inl ⟨?w2_9, ?y2_9⟩) hHeld ?r2_9
     case w2_9 => rfl
     case y2_9 => (intro w hSw; go_simp; try with_reducible rfl)
     simp only [rtPr, Act.put]
     refine wpAnyH_take (i := 14) (v := ?v2_10) rfl (by kernel_rfl) (by kernel_rfl) (by kernel_rfl) (fun _ _ _ h => h) (Or.inl ⟨?w2_10, ?y2_10⟩) hHeld ?r2_10
     case w2_10 => rfl
     case y2_10 => (intro w hSw; go_simp; try with_reducible rfl)
     simp only [rtPr, Act.put]
     refine wpAnyH_ready (rs := [7]) (by kernel_rfl) (by simp) ?_
     refine AllReadyH.cons rfl (fun K hK => ?_) ?_
     ·go_simp
      have hEd : Ext w8 (wd.alloc (.cells #[] 3)) := hHd.alloc _
      refine hK.out _ _ (hEd) (fun hHeld => ?_)
      clear hK K
      try simp only [rtPr, Act.put]
      refine wpAnyH_ready (rs := [9]) (by kernel_rfl) (by simp) ?_
      refine AllReadyH.cons rfl (fun K hK => ?_) ?_
      ·refine step_append_ints (ok := fun b => w5.heap.size ≤ b) (by rfl) _ _ _ (by rfl) wd.heap.size [] [] _ _ (by rfl) (by rfl) (own_empty wd wd.heap.size (Nat.le_refl _)) (HW8.out.below hEd) (by simp) (by simp only [List.length_nil]; omega) ?_
       intro vN w9 ho9 hg9 hat9
       have HE9 : Hid (Ext wd w9) := below_app ((Ext.refl wd).alloc (.cells #[] 3)) hg9 (by simp) (fun k hk => own_base (own_empty wd wd.heap.size (Nat.le_refl _)) hk)
       rw [List.nil_append] at ho9
       have HO9 := Lib.hid ho9
       have h89 : Ext w8 w9 := hHd.trans HE9.out
       clear ho9 hg9 hat9
       refine hK.out _ _ (h89) (fun hHeld => ?_)
       clear hK K
       try simp only [rtPr, Act.put]
       refine wpAnyH_ready (rs := [11]) (by kernel_rfl) (by simp) ?_
       refine AllReadyH.cons rfl (fun K hK => ?_) ?_
       ·refine step_append_ints (ok := _) (by rfl) _ _ _ (by rfl) wd.heap.size [] l _ _ (by rfl) (by rfl) HO9.out (HI8.out.below h89) HE9.out.size (by omega) ?_
        intro vM wA hoA hgA hatA
        have HEA : Hid (Ext wd wA) := below_app HE9.out hgA HE9.out.size (fun k hk => own_base HO9.out hk)
        have h8A : Ext w8 wA := hHd.trans HEA.out
        obtain ⟨AM, nM, cM, rfl⟩ := own_slice3 hoA
        have HOA := Lib.hid (Row.of_own hoA)
        clear hoA hgA hatA
        refine hK.out _ _ (h8A) (fun hHeld => ?_)
        clear hK K
        try simp only [rtPr, Act.put]
        refine wpAnyH_ready (rs := [12]) (by kernel_rfl) (by simp) ?_
        refine AllReadyH.cons rfl (fun K hK => ?_) ?_
        ·go_simp
         have HXS : Hid (XsAt (wA.alloc (.cells #[.slice (some ⟨g0, 0, none⟩) 0 0, .slice (some ⟨g0, 0, none⟩) 0 0, .slice Al l.length cl, .slice AM nM cM] 24)) wA.heap.size) := xs_make4 (HW8.out.below h8A) (HWP.out.below h8A) (HI8.out.below h8A) HOA.out (by simp) (by simp) (by omega) (by rw [List.length_append]; omega)
         have h8B : Ext w8 (wA.alloc (.cells #[.slice (some ⟨g0, 0, none⟩) 0 0, .slice (some ⟨g0, 0, none⟩) 0 0, .slice Al l.length cl, .slice AM nM cM] 24)) := h8A.alloc _
         refine hK.out _ _ (h8B) (fun hHeld => ?_)
         clear hK K
         try simp only [rtPr, Act.put]
         refine wpAnyH_ready (rs := [13]) (by kernel_rfl) (by simp) ?_
         refine AllReadyH.cons rfl (fun K hK => ?_) ?_
         ·go_simp
          refine hK.out _ _ (hHeld) (fun hHeld => ?_)
          clear hK K
          try simp only [rtPr, Act.put]
          refine wpAnyH_done (by kernel_rfl) ?_ _
          go_wp2
          go_meet
          exact ⟨rfl, rfl, _, rfl, HXS, Lib.hid h8B⟩
         exact AllReadyH.nil
        exact AllReadyH.nil
       exact AllReadyH.nil
      exact AllReadyH.nil
     exact AllReadyH.nil
    ·have hcpos : 0 < c6 := by omega
     have hcpos2 : (0 : Int) < (c6 : Int) := by omega
     refine wp_region_held_drew (S := (fun W => Ext w8 W)) mixedA ((Ext.refl w8).drew) (fun hHeld => ?_)
     have hHd : Ext w8 w8.drew := hHeld
     generalize w8.drew = wd at hHeld hHd ⊢
     refine wpAnyH_take (i := 0) (v := ?v3_1) rfl (by kernel_rfl) (by kernel_rfl) (by kernel_rfl) (fun _ _ _ h => h) (Or.inl ⟨?w3_1, ?y3_1⟩) hHeld ?r3_1
     case w3_1 => rfl
     case y3_1 => (intro w hSw; go_simp; try with_reducible rfl)
     simp only [rtPr, Act.put]
     refine wpAnyH_take (i := 1) (v := ?v3_2) rfl (by kernel_rfl) (by kernel_rfl) (by kernel_rfl) (fun _ _ _ h => h) (Or.inl ⟨?w3_2, ?y3_2⟩) hHeld ?r3_2
     case w3_2 => rfl
     case y3_2 => (intro w hSw; go_simp; try with_reducible rfl)
     simp only [rtPr, Act.put]
     refine wpAnyH_take (i := 2) (v := ?v3_3) rfl (by kernel_rfl) (by kernel_rfl) (by kernel_rfl) (fun _ _ _ h => h) (Or.inl ⟨?w3_3, ?y3_3⟩) hHeld ?r3_3
     case w3_3 => rfl
     case y3_3 => (intro w hSw; go_simp; try with_reducible rfl)
     simp only [rtPr, Act.put]
     refine wpAnyH_take (i := 3) (v := ?v3_4) rfl (by kernel_rfl) (by kernel_rfl) (by kernel_rfl) (fun _ _ _ h => h) (Or.inl ⟨?w3_4, ?y3_4⟩) hHeld ?r3_4
     case w3_4 => rfl
     case y3_4 => (intro w hSw; go_simp; try with_reducible rfl)
     simp only [rtPr, Act.put]
     refine wpAnyH_take (i := 4) (v := ?v3_5) rfl (by kernel_rfl) (by kernel_rfl) (by kernel_rfl) (fun _ _ _ h => h) (Or.inl ⟨?w3_5, ?y3_5⟩) hHeld ?r3_5
     case w3_5 => rfl
     case y3_5 => (intro w hSw; go_simp; try with_reducible rfl)
     simp only [rtPr, Act.put]
     refine wpAnyH_take (i := 5) (v := .slice (some ⟨g0, 0, none⟩) 0 c6) rfl (by kernel_rfl) (by kernel_rfl) (by kernel_rfl) (fun _ _ _ h => h) (Or.inl ⟨?w3_6, ?y3_6⟩) hHeld ?r3_6
     case w3_6 => rfl
     case y3_6 => (intro w hSw; go_simp; first | done | exact if_pos (by decide) | (rw [show IntKind.i64.wrap 0 = 0 from by decide, if_pos ⟨by omega, by omega⟩]; rfl) | (rw [show IntKind.i64.wrap 0 = 0 from by decide]; simp; done) | (trace_state; sorry))
     simp only [rtPr, Act.put]
     refine wpAnyH_take (i := 6) (v := ?v3_7) rfl (by kernel_rfl) (by kernel_rfl) (by kernel_rfl) (fun _ _ _ h => h) (Or.inl ⟨?w3_7, ?y3_7⟩) hHeld ?r3_7
     case w3_7 => rfl
     case y3_7 => (intro w hSw; go_simp; try with_reducible rfl)
     simp only [rtPr, Act.put]
     refine wpAnyH_take (i := 8) (v := ?v3_8) rfl (by kernel_rfl) (by kernel_rfl) (by kernel_rfl) (fun _ _ _ h => h) (Or.inl ⟨?w3_8, ?y3_8⟩) hHeld ?r3_8
     case w3_8 => rfl
     case y3_8 => (intro w hSw; go_simp; try with_reducible rfl)
     simp only [rtPr, Act.put]
     refine wpAnyH_take (i := 10) (v := ?v3_9) rfl (by kernel_rfl) (by kernel_rfl) (by kernel_rfl) (fun _ _ _ h => h) (Or.inl ⟨?w3_9, ?y3_9⟩) hHeld ?r3_9
     case w3_9 => rfl
     case y3_9 => (intro w hSw; go_simp; try with_reducible rfl)
     simp only [rtPr, Act.put]
     refine wpAnyH_take (i := 14) (v := ?v3_10) rfl (by kernel_rfl) (by kernel_rfl) (by kernel_rfl) (fun _ _ _ h => h) (Or.inl ⟨?w3_10, ?y3_10⟩) hHeld ?r3_10
     case w3_10 => rfl
     case y3_10 => (intro w hSw; go_simp; try with_reducible rfl)
     simp only [rtPr, Act.put]
     refine wpAnyH_ready (rs := [7]) (by kernel_rfl) (by simp) ?_
     refine AllReadyH.cons rfl (fun K hK => ?_) ?_
     ·go_simp
      have hEd : Ext w8 (wd.alloc (.cells #[] 3)) := hHd.alloc _
      refine hK.out _ _ (hEd) (fun hHeld => ?_)
      clear hK K
      try simp only [rtPr, Act.put]
      refine wpAnyH_ready (rs := [9]) (by kernel_rfl) (by simp) ?_
      refine AllReadyH.cons rfl (fun K hK => ?_) ?_
      ·refine step_append_ints (ok := fun b => w5.heap.size ≤ b) (by rfl) _ _ _ (by rfl) wd.heap.size [] [] _ _ (by rfl) (by rfl) (own_empty wd wd.heap.size (Nat.le_refl _)) (HW8.out.below hEd) (by simp) (by simp only [List.length_nil]; omega) ?_
       intro vN w9 ho9 hg9 hat9
       have HE9 : Hid (Ext wd w9) := below_app ((Ext.refl wd).alloc (.cells #[] 3)) hg9 (by simp) (fun k hk => own_base (own_empty wd wd.heap.size (Nat.le_refl _)) hk)
       rw [List.nil_append] at ho9
       have HO9 := Lib.hid ho9
       have h89 : Ext w8 w9 := hHd.trans HE9.out
       clear ho9 hg9 hat9
       refine hK.out _ _ (h89) (fun hHeld => ?_)
       clear hK K
       try simp only [rtPr, Act.put]
       refine wpAnyH_ready (rs := [11]) (by kernel_rfl) (by simp) ?_
       refine AllReadyH.cons rfl (fun K hK => ?_) ?_
       ·refine step_append_ints (ok := _) (by rfl) _ _ _ (by rfl) wd.heap.size [] l _ _ (by rfl) (by rfl) HO9.out (HI8.out.below h89) HE9.out.size (by omega) ?_
        intro vM wA hoA hgA hatA
        have HEA : Hid (Ext wd wA) := below_app HE9.out hgA HE9.out.size (fun k hk => own_base HO9.out hk)
        have h8A : Ext w8 wA := hHd.trans HEA.out
        obtain ⟨AM, nM, cM, rfl⟩ := own_slice3 hoA
        have HOA := Lib.hid (Row.of_own hoA)
        clear hoA hgA hatA
        refine hK.out _ _ (h8A) (fun hHeld => ?_)
        clear hK K
        try simp only [rtPr, Act.put]
        refine wpAnyH_ready (rs := [12]) (by kernel_rfl) (by simp) ?_
        refine AllReadyH.cons rfl (fun K hK => ?_) ?_
        ·go_simp
         have HXS : Hid (XsAt (wA.alloc (.cells #[.slice (some ⟨g0, 0, none⟩) 0 c6, .slice (some ⟨g0, 0, none⟩) 0 c6, .slice Al l.length cl, .slice AM nM cM] 24)) wA.heap.size) := xs_make4 (HW8.out.below h8A) (HWP.out.below h8A) (HI8.out.below h8A) HOA.out (by simp) (by simp) (by omega) (by rw [List.length_append]; omega)
         have h8B : Ext w8 (wA.alloc (.cells #[.slice (some ⟨g0, 0, none⟩) 0 c6, .slice (some ⟨g0, 0, none⟩) 0 c6, .slice Al l.length cl, .slice AM nM cM] 24)) := h8A.alloc _
         refine hK.out _ _ (h8B) (fun hHeld => ?_)
         clear hK K
         try simp only [rtPr, Act.put]
         refine wpAnyH_ready (rs := [13]) (by kernel_rfl) (by simp) ?_
         refine AllReadyH.cons rfl (fun K hK => ?_) ?_
         ·go_simp
          refine hK.out _ _ (hHeld) (fun hHeld => ?_)
          clear hK K
          try simp only [rtPr, Act.put]
          refine wpAnyH_done (by kernel_rfl) ?_ _
          go_wp2
          go_meet
          exact ⟨rfl, rfl, _, rfl, HXS, Lib.hid h8B⟩
         exact AllReadyH.nil
        exact AllReadyH.nil
       exact AllReadyH.nil
      exact AllReadyH.nil
     exact AllReadyH.nil
  ·have hlt : (h : Int) < (c6 : Int) := by omega
   have hlt2 : (h : Int) < (wl.length : Int) := by omega
   obtain ⟨A0, c0, e, -, hr⟩ := id HW8.out
   injection e with e1 e2 e3
   subst e1
   subst e3
   obtain ⟨b0, of0, e4, hob, hcc⟩ := hr.2 hl0
   subst e4
   clear hr hcc hl0 e2 hob hh hhl
   refine wp_region_held_drew (S := (fun W => Ext w8 W)) mixedA ((Ext.refl w8).drew) (fun hHeld => ?_)
   have hHd : Ext w8 w8.drew := hHeld
   generalize w8.drew = wd at hHeld hHd ⊢
   refine wpAnyH_take (i := 0) (v := ?v4_1) rfl (by kernel_rfl) (by kernel_rfl) (by kernel_rfl) (fun _ _ _ h => h) (Or.inl ⟨?w4_1, ?y4_1⟩) hHeld ?r4_1
   case w4_1 => rfl
   case y4_1 => (intro w hSw; go_simp; try with_reducible rfl)
   simp only [rtPr, Act.put]
   refine wpAnyH_take (i := 1) (v := ?v4_2) rfl (by kernel_rfl) (by kernel_rfl) (by kernel_rfl) (fun _ _ _ h => h) (Or.inl ⟨?w4_2, ?y4_2⟩) hHeld ?r4_2
   case w4_2 => rfl
   case y4_2 => (intro w hSw; go_simp; try with_reducible rfl)
   simp only [rtPr, Act.put]
   refine wpAnyH_take (i := 2) (v := ?v4_3) rfl (by kernel_rfl) (by kernel_rfl) (by kernel_rfl) (fun _ _ _ h => h) (Or.inl ⟨?w4_3, ?y4_3⟩) hHeld ?r4_3
   case w4_3 => rfl
   case y4_3 => (intro w hSw; go_simp; try with_reducible rfl)
   simp only [rtPr, Act.put]
   refine wpAnyH_take (i := 3) (v := ?v4_4) rfl (by kernel_rfl) (by kernel_rfl) (by kernel_rfl) (fun _ _ _ h => h) (Or.inl ⟨?w4_4, ?y4_4⟩) hHeld ?r4_4
   case w4_4 => rfl
   case y4_4 => (intro w hSw; go_simp; try with_reducible rfl)
   simp only [rtPr, Act.put]
   refine wpAnyH_take (i := 4) (v := ?v4_5) rfl (by kernel_rfl) (by kernel_rfl) (by kernel_rfl) (fun _ _ _ h => h) (Or.inl ⟨?w4_5, ?y4_5⟩) hHeld ?r4_5
   case w4_5 => rfl
   case y4_5 => (intro w hSw; go_simp; try with_reducible rfl)
   simp only [rtPr, Act.put]
   refine wpAnyH_take (i := 5) (v := .slice (some ⟨b0, of0, none⟩) h c6) rfl (by kernel_rfl) (by kernel_rfl) (by kernel_rfl) (fun _ _ _ h => h) (Or.inl ⟨?w4_6, ?y4_6⟩) hHeld ?r4_6
   case w4_6 => rfl
   case y4_6 => (intro w hSw; go_simp; first | done | exact if_pos (by decide) | (rw [wrapNat h (by omega), if_pos ⟨by omega, by omega⟩]; rfl) | (rw [wrapNat h (by omega)]; simp; done) | (trace_state; sorry))
   simp only [rtPr, Act.put]
   refine wpAnyH_take (i := 6) (v := ?v4_7) rfl (by kernel_rfl) (by kernel_rfl) (by kernel_rfl) (fun _ _ _ h => h) (Or.inl ⟨?w4_7, ?y4_7⟩) hHeld ?r4_7
   case w4_7 => rfl
   case y4_7 => (intro w hSw; go_simp; try with_reducible rfl)
   simp only [rtPr, Act.put]
   refine wpAnyH_take (i := 8) (v := ?v4_8) rfl (by kernel_rfl) (by kernel_rfl) (by kernel_rfl) (fun _ _ _ h => h) (Or.inl ⟨?w4_8, ?y4_8⟩) hHeld ?r4_8
   case w4_8 => rfl
   case y4_8 => (intro w hSw; go_simp; try with_reducible rfl)
   simp only [rtPr, Act.put]
   refine wpAnyH_take (i := 10) (v := ?v4_9) rfl (by kernel_rfl) (by kernel_rfl) (by kernel_rfl) (fun _ _ _ h => h) (Or.inl ⟨?w4_9, ?y4_9⟩) hHeld ?r4_9
   case w4_9 => rfl
   case y4_9 => (intro w hSw; go_simp; try with_reducible rfl)
   simp only [rtPr, Act.put]
   refine wpAnyH_take (i := 14) (v := ?v4_10) rfl (by kernel_rfl) (by kernel_rfl) (by kernel_rfl) (fun _ _ _ h => h) (Or.inl ⟨?w4_10, ?y4_10⟩) hHeld ?r4_10
   case w4_10 => rfl
   case y4_10 => (intro w hSw; go_simp; try with_reducible rfl)
   simp only [rtPr, Act.put]
   refine wpAnyH_ready (rs := [7]) (by kernel_rfl) (by simp) ?_
   refine AllReadyH.cons rfl (fun K hK => ?_) ?_
   ·go_simp
    have hEd : Ext w8 (wd.alloc (.cells #[] 3)) := hHd.alloc _
    refine hK.out _ _ (hEd) (fun hHeld => ?_)
    clear hK K
    try simp only [rtPr, Act.put]
    refine wpAnyH_ready (rs := [9]) (by kernel_rfl) (by simp) ?_
    refine AllReadyH.cons rfl (fun K hK => ?_) ?_
    ·refine step_append_ints (ok := fun b => w5.heap.size ≤ b) (by rfl) _ _ _ (by rfl) wd.heap.size [] wl _ _ (by rfl) (by rfl) (own_empty wd wd.heap.size (Nat.le_refl _)) (HW8.out.below hEd) (by simp) (by simp only [List.length_nil]; omega) ?_
     intro vN w9 ho9 hg9 hat9
     have HE9 : Hid (Ext wd w9) := below_app ((Ext.refl wd).alloc (.cells #[] 3)) hg9 (by simp) (fun k hk => own_base (own_empty wd wd.heap.size (Nat.le_refl _)) hk)
     rw [List.nil_append] at ho9
     have HO9 := Lib.hid ho9
     have h89 : Ext w8 w9 := hHd.trans HE9.out
     clear ho9 hg9 hat9
     refine hK.out _ _ (h89) (fun hHeld => ?_)
     clear hK K
     try simp only [rtPr, Act.put]
     refine wpAnyH_ready (rs := [11]) (by kernel_rfl) (by simp) ?_
     refine AllReadyH.cons rfl (fun K hK => ?_) ?_
     ·refine step_append_ints (ok := _) (by rfl) _ _ _ (by rfl) wd.heap.size wl l _ _ (by rfl) (by rfl) HO9.out (HI8.out.below h89) HE9.out.size (by omega) ?_
      intro vM wA hoA hgA hatA
      have HEA : Hid (Ext wd wA) := below_app HE9.out hgA HE9.out.size (fun k hk => own_base HO9.out hk)
      have h8A : Ext w8 wA := hHd.trans HEA.out
      obtain ⟨AM, nM, cM, rfl⟩ := own_slice3 hoA
      have HOA := Lib.hid (Row.of_own hoA)
      clear hoA hgA hatA
      refine hK.out _ _ (h8A) (fun hHeld => ?_)
      clear hK K
      try simp only [rtPr, Act.put]
      refine wpAnyH_ready (rs := [12]) (by kernel_rfl) (by simp) ?_
      refine AllReadyH.cons rfl (fun K hK => ?_) ?_
      ·go_simp
       have HXS : Hid (XsAt (wA.alloc (.cells #[.slice (some ⟨b0, of0, none⟩) wl.length c6, .slice (some ⟨b0, of0, none⟩) h c6, .slice Al l.length cl, .slice AM nM cM] 24)) wA.heap.size) := xs_make4 (HW8.out.below h8A) (HWP.out.below h8A) (HI8.out.below h8A) HOA.out (by omega) (by omega) (by omega) (by rw [List.length_append]; omega)
       have h8B : Ext w8 (wA.alloc (.cells #[.slice (some ⟨b0, of0, none⟩) wl.length c6, .slice (some ⟨b0, of0, none⟩) h c6, .slice Al l.length cl, .slice AM nM cM] 24)) := h8A.alloc _
       refine hK.out _ _ (h8B) (fun hHeld => ?_)
       clear hK K
       try simp only [rtPr, Act.put]
       refine wpAnyH_ready (rs := [13]) (by kernel_rfl) (by simp) ?_
       refine AllReadyH.cons rfl (fun K hK => ?_) ?_
       ·go_simp
        refine hK.out _ _ (hHeld) (fun hHeld => ?_)
        clear hK K
        try simp only [rtPr, Act.put]
        refine wpAnyH_done (by kernel_rfl) ?_ _
        go_wp2
        go_meet
        exact ⟨rfl, rfl, _, rfl, HXS, Lib.hid h8B⟩
       exact AllReadyH.nil
      exact AllReadyH.nil
     exact AllReadyH.nil
    exact AllReadyH.nil
   exact AllReadyH.nil
 case rest =>
  obtain ⟨rfl, rfl, bx, rfl, hXS, hx8c⟩ := hcut
  have hx8c' : Ext w8 wc := hx8c.out
  have HM5c := Lib.hid (HM58.out.below hx8c')
  have HM7c := Lib.hid (HM8.out.below hx8c')
  have HIc := Lib.hid (HI8.out.below hx8c')
  have HEWc : Hid (Ext w wc) := HEW5.out.trans (hx58.trans hx8c')
  have hx5c : Ext w5 wc := hx58.trans hx8c'
  clear hq1 hq2 hq3 hq4 hq5 hh hhl htl HWP HHL HW6 hx8c HWI HW8 HI8 HM58 HM8 HM5 HI5 HM HI HI6 HM7'
  go_wp2_with fail
  go_loopg [44] 4 (fun gk v wr => ∃ i : Nat, v = .int .i64 i ∧ i ≤ 4 ∧ gk = 4 - i ∧ Hid (Ext wc wr))
  case atStart => exact ⟨0, rfl, by omega, rfl, Ext.refl _⟩
  case round =>
   obtain ⟨i, rfl, hi4, rfl, hX⟩ := hrel
   obtain ⟨wi, rfl⟩ : ∃ wi : World, wi = wr := ⟨_, rfl⟩
   have hxci : Ext wc wi := hX.out
   by_cases hi : i < 4
   ·obtain ⟨Ax, cx, x, hcx, hix, hlx⟩ := hXS.out i hi
    have HIX := Lib.hid hix
    have rx := Ext.rule hcx
    have hx5i : Ext w5 wi := hx5c.trans hxci
    have hx8i : Ext w8 wi := hx8c'.trans hxci
    have hi0 : decide ((i : Int) < 4) = true := decide_eq_true (by omega)
    have hi1 : (i : Int) < 4 := by omega
    clear hcx hix
    go_upto_region 8 with fail
    go_cut [50, 51, 52] (fun v v51 v52 wx => v51 = .int .i64 2 ∧ v52 = .int .i64 0 ∧ ∃ b, v = .slice (some ⟨b, 0, none⟩) 2 2 ∧ Hid (MzsAt wx b 2) ∧ Hid (Ext wi wx))
    case first =>
     go_wp2_with fail
     go_meet
     exact ⟨rfl, rfl, _, rfl, mzs_two (HM5c.out.below hxci) (HM7c.out.below hxci) HMM.out.lens (HO7.out.lens (by omega)), (Ext.refl _).alloc _⟩
    case rest =>
     obtain ⟨rfl, rfl, bm, rfl, hMZ, hXm⟩ := hcut
     obtain ⟨wm, rfl⟩ : ∃ wm : World, wm = wc := ⟨_, rfl⟩
     have hxim : Ext wi wm := hXm.out
     have HIX' := Lib.hid (HIX.out.below (hxci.trans hxim))
     have HIL' := Lib.hid (HIc.out.below (hxci.trans hxim))
     have hxcm := hxci.trans hxim
     clear hXm rx HIX
     go_wp2_with fail
     go_loopg [52] 2 (fun gk v wr => ∃ j : Nat, v = .int .i64 j ∧ j ≤ 2 ∧ gk = 2 - j ∧ Hid (Ext wm wr))
     case atStart => exact ⟨0, rfl, by omega, rfl, Ext.refl _⟩
     case round =>
      obtain ⟨j, rfl, hj2, rfl, hX⟩ := hrel
      obtain ⟨wj, rfl⟩ : ∃ wj : World, wj = wr := ⟨_, rfl⟩
      have hxmj : Ext wm wj := hX.out
      by_cases hj : j < 2
      ·obtain ⟨y, yf, yu, yt, y0, y1, y2, y3, y4, y5, hym, hyl⟩ := hMZ.out j hj
       obtain ⟨yA, yn, yc, yA', yn', yc', yA'', yn'', yc'', rfl, rfl, rfl⟩ := mazeV_slices hym
       have HYM := Lib.hid hym
       have HYL := Lib.hid hyl
       have q0' := Ext.rule y0
       have q1' := Ext.rule y1
       have q2' := Ext.rule y2
       have q3' := Ext.rule y3
       have q4' := Ext.rule y4
       have q5' := Ext.rule y5
       have hj0 : decide ((j : Int) < 2) = true := decide_eq_true (by omega)
       have hj1 : (j : Int) < 2 := by omega
       clear y0 y1 y2 y3 y4 y5 hym hyl s0 s1 s2 s3 s4 s5 q0 q1 q2 q3 q4 q5 r0 r1 r2 r3 r4
       go_upto_region 11 with fail
       generalize hwy : wj.alloc (.cells #[.int .i64 y.w, .int .i64 y.h, .int .i64 y.l, .slice yA yn yc, .slice yA' yn' yc', .slice yA'' yn'' yc''] 31) = wy
       have hEy : Ext wj wy := by rw [← hwy]; exact (Ext.refl _).alloc _
       have hBy : Blk wy wj.heap.size 31 #[.int .i64 y.w, .int .i64 y.h, .int .i64 y.l, .slice yA yn yc, .slice yA' yn' yc', .slice yA'' yn'' yc''] := by rw [← hwy]; exact Blk.new _ _ _ rfl
       clear hwy
       obtain ⟨m0, m1, m2, m3, m4, m5⟩ := cells6 hBy
       have s0 := Ext.rule m0
       have s1 := Ext.rule m1
       have s2 := Ext.rule m2
       have s3 := Ext.rule m3
       have s4 := Ext.rule m4
       have s5 := Ext.rule m5
       clear m0 m1 m2 m3 m4 m5 hBy q0' q1' q2' q3' q4' q5'
       have hxmy : Ext wm wy := hxmj.trans hEy
       have hxyy : Ext wy wy := Ext.refl wy
       have HYY := Lib.hid (HYM.out.below hxmy)
       have HIY := Lib.hid (HIX'.out.below hxmy)
       have HILY := Lib.hid (HIL'.out.below hxmy)
       clear hEy
       go_wp2_with fail
       refine (rPaths_calls wy HYY.out HYL.out HIY.out (by omega)).mono ?_
       rintro e w1' ⟨vp, rfl, hE1, hp1⟩
       have HP1 := Lib.hid hp1
       obtain ⟨_, ⟨Ap, cp, rfl, hcp, -⟩, -⟩ := hp1
       have hxy1 : Ext wy w1' := hE1
       clear hE1
       go_wp2_with fail
       refine (qPaths_calls w1' (HYY.out.below hxy1) HYL.out (HIY.out.below hxy1) (by omega)).mono ?_
       rintro e w2' ⟨vq, rfl, hE2, hp2⟩
       have HP2 := Lib.hid hp2
       obtain ⟨_, ⟨Aq, cq, rfl, hcq, -⟩, -⟩ := hp2
       have HP1' := Lib.hid (HP1.out.below hE2)
       have hxy2 : Ext wy w2' := hxy1.trans hE2
       clear hE2 HP1 hxy1
       obtain ⟨bo, hbo⟩ : ∃ bo, bo = okC y x := ⟨_, rfl⟩
       rw [← hbo]
       clear hbo
       have hbo2 : (bo != bo) = false := by simp
       have z0 : ∀ W, Ext w2' W → W.cell? ⟨wj.heap.size, 0, none⟩ = some (.int .i64 y.w) := fun W h => s0 W (hxy2.trans h)
       have z1 : ∀ W, Ext w2' W → W.cell? ⟨wj.heap.size, 1, none⟩ = some (.int .i64 y.h) := fun W h => s1 W (hxy2.trans h)
       have z2 : ∀ W, Ext w2' W → W.cell? ⟨wj.heap.size, 2, none⟩ = some (.int .i64 y.l) := fun W h => s2 W (hxy2.trans h)
       have z3 : ∀ W, Ext w2' W → W.cell? ⟨wj.heap.size, 3, none⟩ = some (.slice yA yn yc) := fun W h => s3 W (hxy2.trans h)
       have z4 : ∀ W, Ext w2' W → W.cell? ⟨wj.heap.size, 4, none⟩ = some (.slice yA' yn' yc') := fun W h => s4 W (hxy2.trans h)
       have z5 : ∀ W, Ext w2' W → W.cell? ⟨wj.heap.size, 5, none⟩ = some (.slice yA'' yn'' yc'') := fun W h => s5 W (hxy2.trans h)
       have HYY2 := Lib.hid (HYY.out.below hxy2)
       have HIY2 := Lib.hid (HIY.out.below hxy2)
       have HIL2 := Lib.hid (HILY.out.below hxy2)
       have hxm2 : Ext wm w2' := hxmy.trans hxy2
       obtain ⟨bop, hbop⟩ : ∃ b, b = openO y x := ⟨_, rfl⟩
       have hop2 : (bop != bop) = false := by simp
       have HOPR : Hid (∀ W, Ext w2' W → Calls Try.prog 38 #[.agg #[.int .i64 y.w, .int .i64 y.h, .int .i64 y.l, .slice yA yn yc, .slice yA' yn' yc', .slice yA'' yn'' yc''], .slice Ax x.length cx] W fun e w' => e = .returned (.bool bop) ∧ Ext W w') := fun W hW => by rw [hbop]; exact rOpen_calls W (HYY2.out.below hW) HYL.out (HIY2.out.below hW) (by omega)
       have HOPQ : Hid (∀ W, Ext w2' W → Calls Try.prog 43 #[.agg #[.int .i64 y.w, .int .i64 y.h, .int .i64 y.l, .slice yA yn yc, .slice yA' yn' yc', .slice yA'' yn'' yc''], .slice Ax x.length cx] W fun e w' => e = .returned (.bool bop) ∧ Ext W w') := fun W hW => by rw [hbop]; exact qOpen_calls W (HYY2.out.below hW) HYL.out (HIY2.out.below hW) (by omega)
       obtain ⟨bp, hbp⟩ : ∃ b, b = rightB y (pathsO y x) := ⟨_, rfl⟩
       have hbp2 : (bp != bp) = false := by simp
       have HRPR : Hid (∀ W, Ext w2' W → Calls Try.prog 37 #[.agg #[.int .i64 y.w, .int .i64 y.h, .int .i64 y.l, .slice yA yn yc, .slice yA' yn' yc', .slice yA'' yn'' yc''], .slice Ap (pathsO y x).length cp] W fun e w' => e = .returned (.bool bp) ∧ Ext W w') := fun W hW => by
        have h9 := pathsO_small y x
        rw [hbp]; exact right_calls W (HYY2.out.below hW) HYL.out (HP1'.out.below hW) (by omega) (fun z hz => by have := h9.2 z hz; omega)
       have HRPQ : Hid (∀ W, Ext w2' W → Calls Try.prog 44 #[.agg #[.int .i64 y.w, .int .i64 y.h, .int .i64 y.l, .slice yA yn yc, .slice yA' yn' yc', .slice yA'' yn'' yc''], .slice Ap (pathsO y x).length cp] W fun e w' => e = .returned (.bool bp) ∧ Ext W w') := fun W hW => by
        have h9 := pathsO_small y x
        rw [hbp]; exact qRight_calls W (HYY2.out.below hW) HYL.out (HP1'.out.below hW) (by omega) (fun z hz => by have := h9.2 z hz; omega)
       obtain ⟨bx2, hbx2⟩ : ∃ b, b = rightB y [x, l] := ⟨_, rfl⟩
       have hbx22 : (bx2 != bx2) = false := by simp
       have HRXR : Hid (∀ W v, Ext w2' W → Intss W (fun _ => True) v [x, l] → Calls Try.prog 37 #[.agg #[.int .i64 y.w, .int .i64 y.h, .int .i64 y.l, .slice yA yn yc, .slice yA' yn' yc', .slice yA'' yn'' yc''], v] W fun e w' => e = .returned (.bool bx2) ∧ Ext W w') := fun W v hW hv => by
        rw [hbx2]; exact right_calls W (HYY2.out.below hW) HYL.out hv (by simp) (fun z hz => by simp at hz; rcases hz with rfl | rfl <;> omega)
       have HRXQ : Hid (∀ W v, Ext w2' W → Intss W (fun _ => True) v [x, l] → Calls Try.prog 44 #[.agg #[.int .i64 y.w, .int .i64 y.h, .int .i64 y.l, .slice yA yn yc, .slice yA' yn' yc', .slice yA'' yn'' yc''], v] W fun e w' => e = .returned (.bool bx2) ∧ Ext W w') := fun W v hW hv => by
        rw [hbx2]; exact qRight_calls W (HYY2.out.below hW) HYL.out hv (by simp) (fun z hz => by simp at hz; rcases hz with rfl | rfl <;> omega)
       obtain ⟨bx1, hbx1⟩ : ∃ b, b = rightB y [x] := ⟨_, rfl⟩
       have hbx12 : (bx1 != bx1) = false := by simp
       have HR1R : Hid (∀ W v, Ext w2' W → Intss W (fun _ => True) v [x] → Calls Try.prog 37 #[.agg #[.int .i64 y.w, .int .i64 y.h, .int .i64 y.l, .slice yA yn yc, .slice yA' yn' yc', .slice yA'' yn'' yc''], v] W fun e w' => e = .returned (.bool bx1) ∧ Ext W w') := fun W v hW hv => by
        rw [hbx1]; exact right_calls W (HYY2.out.below hW) HYL.out hv (by simp) (fun z hz => by simp at hz; subst hz; omega)
       have HR1Q : Hid (∀ W v, Ext w2' W → Intss W (fun _ => True) v [x] → Calls Try.prog 44 #[.agg #[.int .i64 y.w, .int .i64 y.h, .int .i64 y.l, .slice yA yn yc, .slice yA' yn' yc', .slice yA'' yn'' yc''], v] W fun e w' => e = .returned (.bool bx1) ∧ Ext W w') := fun W v hW hv => by
        rw [hbx1]; exact qRight_calls W (HYY2.out.below hW) HYL.out hv (by simp) (fun z hz => by simp at hz; subst hz; omega)
       clear hbop hbp hbx2 hbx1 s0 s1 s2 s3 s4 s5
       have hl24 : l.length ≤ 24 := by omega
       go_upto_region 13 with fail
       refine c13_wp (y := y) (x := x) (bo := bo) (bop := bop) z0 z1 z2 z3 z4 z5 HYY2 HYL HIY2 (by omega) HP1' HP2 hbo2 hop2 HOPR HOPQ (fun c a a' W he h => (show a'.defers = [] ∧ (Ending.panicked c = .returned (.bool true) ∧ Ext w W) from ⟨he ▸ (show a.defers = [] ∧ (Ending.panicked c = .returned (.bool true) ∧ Ext w W) from h).1, (show a.defers = [] ∧ (Ending.panicked c = .returned (.bool true) ∧ Ext w W) from h).2⟩)) (fun wz x68 x69 x70 x71 x72 x73 x74 x75 x76 x77 x78 x79 x80 x81 x82 x83 x84 x85 x86 x87 x88 x89 x90 x91 x92 x93 x94 hx2z => ?_)
       have hx2z : Ext w2' wz := hx2z.out
       go_upto_region 15 with fail
       refine c15_wp (y := y) (x := x) (l := l) (bp := bp) (bx2 := bx2) (bx1 := bx1) hx2z z0 z1 z2 z3 z4 z5 HIY2 HIL2 hbp2 hbx22 hbx12 HRPR HRPQ HRXR HRXQ HR1R HR1Q (fun c a a' W he h => (show a'.defers = [] ∧ (Ending.panicked c = .returned (.bool true) ∧ Ext w W) from ⟨he ▸ (show a.defers = [] ∧ (Ending.panicked c = .returned (.bool true) ∧ Ext w W) from h).1, (show a.defers = [] ∧ (Ending.panicked c = .returned (.bool true) ∧ Ext w W) from h).2⟩)) (fun wc x96 x97 x98 x99 x100 x101 x102 x103 x104 x105 x106 x107 x108 x109 x110 x111 x112 x113 x114 x115 x116 x117 x118 x119 x120 x121 x122 x123 x124 x125 hx2y => ?_)
       have HXZ : Hid (Ext wm wc) := hxm2.trans hx2y.out
       go_wp2_with fail
       go_roundg (2 - (j + 1))
       case measure => omega
       case rel => exact ⟨j + 1, by go_num, hj, rfl, HXZ.out⟩
      ·obtain rfl : j = 2 := by omega
       go_wp2_with fail
       go_roundg (4 - (i + 1))
       case measure => omega
       case rel => exact ⟨i + 1, by go_num, hi, rfl, hxcm.trans hxmj⟩
   ·obtain rfl : i = 4 := by omega
    have HFIN : Hid (Ext w wi) := HEWc.out.trans hxci
    go_wp2_with fail
    go_ret
    exact ⟨rfl, HFIN.out⟩
set_option maxRecDepth 100000 in
theorem routeChoices_walk {H : Type} {enc : TypeId × Value → H} {base : Nat} {v0 : Value} {d0 : DataW H} {p0 : List MemPlace} (W : World) (hv0 : Value.okWide Try.prog W .any base 26 v0) (h0 : DataW.Trod enc Try.prog W 0 (fun _ => true) true 26 v0 d0 p0) :
  Calls Try.prog 10 #[v0] W fun e w' => e = .returned (.bool true) ∧ Below W.heap.size W w' := by
 obtain ⟨va, o0, o1, o2, vb, ls, ns, rfl, h2, h3, h4, h5, h6, -⟩ := caseOpen h0 (caseAgg hv0)
 exact choices_calls o0 o1 o2 W h2 h3 h4 h5 h6
end Go.Proofs.Ytgpjfpcjiebjiaa
