/- Walks: the law RouteGraph. -/
import Derived.Test.YtgpjfpcjiebjiaaRtMc
import Derived.Test.YtgpjfpcjiebjiaaRtSa
import Derived.Test.YtgpjfpcjiebjiaaRtGp
import Derived.Test.YtgpjfpcjiebjiaaRtOp
namespace Go.Proofs.Ytgpjfpcjiebjiaa
open Go.RowKit
set_option linter.unusedVariables false
set_option linter.unusedSimpArgs false
attribute [local go_sem ↓] Go.wp_at_zero Go.wp_at_succ

theorem nextO_eq {m : MZ} (g : Good m) {x : Int} (h0 : 0 ≤ x) (h1 : x < m.n) : nextO m x = nextL m x := by
  unfold nextO
  rw [if_pos ⟨good_chk g, h0, h1⟩]

theorem reachO_eq {m : MZ} (g : Good m) (ht : 0 < m.tasks.length) (f us : List Int) : reachO m 0 f us = reachL m 0 f us := by
  unfold reachO
  rw [if_pos ⟨good_chk g, by omega, by omega⟩]
  rfl
theorem reachL_len (m : MZ) (t : Nat) (f us : List Int) : (reachL m t f us).length ≤ m.n.toNat := by
  unfold reachL
  exact Nat.le_trans (List.length_filter_le _ _) (by simp)

set_option maxHeartbeats 8000000 in
set_option maxRecDepth 100000 in
theorem graph_calls {ok ok2 : Nat → Prop} {v vn : Value} {ls : List (List Int)} {ns : List Int} (o0 o1 o2 : Int) (w : World) (hl : Intss w ok v ls) (hll : ls.length ≤ 9223372036854775807) (hlx : ∀ l ∈ ls, l.length ≤ 9223372036854775807) (hn : Ints w ok2 vn ns) (hnl : ns.length ≤ 9223372036854775807) :
    Calls Try.prog 8 #[.agg #[v, .int .i64 o0, .int .i64 o1, .int .i64 o2, vn]] w fun e w' => e = .returned (.bool true) ∧ Ext w w' := by
  have HLS := Lib.hid hl
  have HNS := Lib.hid hn
  obtain ⟨vs, ⟨A, c, rfl, hc, -⟩, -⟩ := hl
  obtain ⟨A2, c2, rfl, hc2, -⟩ := hn
  have HLX := Lib.hid hlx
  clear hlx
  go_enter Try.func8, Try.ntmps8
  go_wp2_with fail
  generalize hwa : w.alloc (.cells #[.slice A ls.length c, .int .i64 o0, .int .i64 o1, .int .i64 o2, .slice A2 ns.length c2] 26) = wa
  have hEa : Ext w wa := by rw [← hwa]; exact (Ext.refl _).alloc _
  have hBa : Blk wa w.heap.size 26 #[.slice A ls.length c, .int .i64 o0, .int .i64 o1, .int .i64 o2, .slice A2 ns.length c2] := by rw [← hwa]; exact Blk.new _ _ _ rfl
  clear hwa
  have r0 : ∀ W, Ext wa W → W.cell? ⟨w.heap.size, 0, none⟩ = some (.slice A ls.length c) := Ext.rule (hBa.cell (k := 0) rfl)
  have r1 : ∀ W, Ext wa W → W.cell? ⟨w.heap.size, 1, none⟩ = some (.int .i64 o0) := Ext.rule (hBa.cell (k := 1) rfl)
  have r2 : ∀ W, Ext wa W → W.cell? ⟨w.heap.size, 2, none⟩ = some (.int .i64 o1) := Ext.rule (hBa.cell (k := 2) rfl)
  have r3 : ∀ W, Ext wa W → W.cell? ⟨w.heap.size, 3, none⟩ = some (.int .i64 o2) := Ext.rule (hBa.cell (k := 3) rfl)
  have r4 : ∀ W, Ext wa W → W.cell? ⟨w.heap.size, 4, none⟩ = some (.slice A2 ns.length c2) := Ext.rule (hBa.cell (k := 4) rfl)
  clear hBa
  refine (sanity_calls wa).mono ?_
  rintro e w1 ⟨rfl, hE1⟩
  have hx1 : Ext wa w1 := hE1
  go_wp2_with fail
  refine (caseMade_calls o0 o1 o2 w1 (HLS.out.below (hEa.trans hx1)) hll HLX.out (HNS.out.below (hEa.trans hx1)) hnl).mono ?_
  rintro e w2 ⟨v2, m, vl, l, rfl, hE2, hm, hMM, hMk, hl12, hlr⟩
  have HM := Lib.hid hm
  obtain ⟨vfr, vup, vts, rfl, ⟨_, ⟨Af, cf, rfl, -⟩, -⟩, ⟨Au, cu, rfl, -⟩, ⟨_, ⟨At, ct, rfl, -⟩, -⟩⟩ := hm
  have HI := Lib.hid hMk.ints
  obtain ⟨Al, cl, rfl, hcl⟩ := hMk.slice
  have HMM := Lib.hid hMM
  have HLR := Lib.hid hlr
  have HEW := Lib.hid ((hEa.trans hx1).trans hE2)
  have HMK := Lib.hid hMk.own
  clear hMk hMM hlr r0 r1 r2 r3 r4 hx1 hE1 hEa hE2
  go_wp2_with fail
  obtain ⟨gm, hgm⟩ : ∃ gm, gm = w2.heap.size := ⟨_, rfl⟩
  have hg := HMM.out.good
  have hdimWH : 2 ≤ m.w * m.h ∧ m.w * m.h ≤ 16 := by
    have h0 := HMM.out.w
    have h1 := hg.dim.layer
    have h2 : m.n = m.w * m.h * m.l := rfl
    have h3 := Int.mul_le_mul_of_nonneg_left HMM.out.h.1 (show 0 ≤ m.w by omega)
    have := HMM.out.n
    omega
  have hdimN : 2 ≤ m.w * m.h * m.l ∧ m.w * m.h * m.l ≤ 16 := HMM.out.n
  have HG := Lib.hid hg
  clear hg
  obtain ⟨hd1, hd2⟩ := hdimWH
  obtain ⟨hd3, hd4⟩ := hdimN
  go_upto_region 4 with fail
  rw [← hgm]
  generalize hw5 : w2.alloc (.cells #[.int .i64 m.w, .int .i64 m.h, .int .i64 m.l, .slice Af m.free.length cf, .slice Au m.up.length cu, .slice At m.tasks.length ct] 31) = w5
  have hE5 : Ext w2 w5 := by rw [← hw5]; exact (Ext.refl _).alloc _
  have hBm : Blk w5 gm 31 #[.int .i64 m.w, .int .i64 m.h, .int .i64 m.l, .slice Af m.free.length cf, .slice Au m.up.length cu, .slice At m.tasks.length ct] := by rw [← hw5, hgm]; exact Blk.new _ _ _ rfl
  clear hw5 hgm
  obtain ⟨m0, m1, m2, m3, m4, m5⟩ := cells6 hBm
  have q0 := Ext.rule m0
  have q1 := Ext.rule m1
  have q2 := Ext.rule m2
  have q3 := Ext.rule m3
  have q4 := Ext.rule m4
  have q5 := Ext.rule m5
  clear m0 m1 m2 m3 m4 m5 hBm
  have HM5 := Lib.hid (HM.out.below hE5)
  have HI5 := Lib.hid (HI.out.below hE5)
  have HEW5 : Hid (Ext w w5) := HEW.out.trans hE5
  clear hE5
  obtain ⟨N, hN⟩ : ∃ N : Nat, (N : Int) = m.w * m.h * m.l := ⟨(m.w * m.h * m.l).toNat, by omega⟩
  rw [IntWalk.wrap64_in (m.w * m.h) (by omega), IntWalk.wrap64_in (m.w * m.h * m.l) (by omega), ← hN]
  have HN := Lib.hid hN
  have hN16 : 2 ≤ N ∧ N ≤ 16 := by omega
  clear hd1 hd2 hd3 hd4 hN
  go_wp2_with fail
  go_loopg [7] N (fun gk v wr => ∃ k : Nat, v = .int .i64 k ∧ k ≤ N ∧ gk = N - k ∧ Hid (Ext w5 wr))
  case atStart => exact ⟨0, rfl, Nat.zero_le _, rfl, Ext.refl _⟩
  case round =>
    obtain ⟨k, rfl, hk, rfl, hX⟩ := hrel
    obtain ⟨wk, rfl⟩ : ∃ wk : World, wk = wr := ⟨_, rfl⟩
    have hx5 : Ext w5 wk := hX.out
    rcases Nat.lt_or_ge k N with hlt | hge
    · have hkn : (k : Int) < m.n := by have := HN.out; show _ < m.w * m.h * m.l; omega
      have HKN := Lib.hid hkn
      go_wp2_with fail
      refine (rNext_calls (k : Int) wk (HM5.out.below hx5) HMM.out.lens).mono ?_
      rintro e w6 ⟨v6, rfl, hM6⟩
      rw [nextO_eq HG.out (by omega) hkn] at hM6
      obtain ⟨A6, c6, rfl, hc6⟩ := hM6.slice
      have hx56 : Ext w5 w6 := hx5.trans hM6.ext
      have HM6 := Lib.hid hM6
      have hnl6 := nextL_len m (k : Int)
      obtain ⟨L, hL⟩ : ∃ L, L = nextL m (k : Int) := ⟨_, rfl⟩
      rw [← hL] at HM6 hc6 hnl6 ⊢
      have HLL := Lib.hid hL
      clear hM6 hL hkn hx5
      go_wp2_with fail
      go_loopg [45] L.length (fun gi v wr => ∃ i : Nat, v = .int .i64 i ∧ i ≤ L.length ∧ gi = L.length - i ∧ Hid (Ext w6 wr))
      case atStart => exact ⟨0, rfl, Nat.zero_le _, rfl, Ext.refl _⟩
      case round =>
        obtain ⟨i, rfl, hi, rfl, hZ⟩ := hrel
        have hz6 : Ext w6 wr := hZ.out
        have hz5 : Ext w5 wr := hx56.trans hz6
        rcases Nat.lt_or_ge i L.length with hil | hige
        · obtain ⟨bl, rfl, -, hcell⟩ := own_at HM6.out.own hil
          obtain ⟨x, hx⟩ : ∃ x, x = L[i] := ⟨_, rfl⟩
          rw [← hx] at hcell
          have rx := Ext.rule hcell
          have hxm : x ∈ nextL m (k : Int) := by rw [← HLL.out, hx]; exact List.getElem_mem _
          have hxr := nextL_range HG.out.dim (by omega) HKN.out hxm
          have hxN : x < (N : Int) := by have := HN.out; have h2 : m.n = m.w * m.h * m.l := rfl; omega
          have hx0 := hxr.1
          have HXM := Lib.hid hxm
          have HXR := Lib.hid hxr
          have hd1 : decide (x < 0) = false := decide_eq_false (by omega)
          have hd2 : decide ((N : Int) ≤ x) = false := decide_eq_false (by omega)
          have hCN : Hid (∀ W, Ext w5 W → Calls Try.prog 18 #[.agg #[.int .i64 m.w, .int .i64 m.h, .int .i64 m.l, .slice Af m.free.length cf, .slice Au m.up.length cu, .slice At m.tasks.length ct], .int .i64 x] W fun e w' => ∃ v', e = .returned v' ∧ Mk W w' v' (nextL m x)) := fun W hE => by
            have := rNext_calls x W (HM5.out.below hE) HMM.out.lens
            rwa [nextO_eq HG.out hx0 HXR.out.2] at this
          have hpi : Hid (0 < i → L[i - 1] < x) := fun h0 => by
            have := pw_step (HLL.out ▸ nextL_pw HG.out.dim (k : Int)) h0 hil
            rwa [← hx] at this
          clear hcell hx hxm hxr
          cases i with
          | zero =>
            have hd3 : decide ((0 : Int) < ((0 : Nat) : Int)) = false := by simp
            go_wp2_with fail
            refine (hCN.out wr hz5).mono ?_
            rintro e w8 ⟨v8, rfl, hM8⟩
            have hz8 : Ext w6 w8 := hz6.trans hM8.ext
            have HM8 := Lib.hid hM8
            clear hM8
            go_wp2_with fail
            refine (has_calls (k : Int) w8 HM8.out.ints (by have := nextL_len m x; omega)).mono ?_
            rintro e w9 ⟨rfl, rfl⟩
            rw [decide_eq_true (nextL_symm HG.out.dim (by omega) HKN.out HXM.out)]
            go_wp2_with fail
            go_roundg (L.length - (0 + 1))
            case measure => omega
            case rel => exact ⟨0 + 1, by go_num, hil, rfl, hz8⟩
          | succ j =>
            obtain ⟨_, e2, -, hcell2⟩ := own_at HM6.out.own (show j < L.length by omega)
            injection e2 with e2
            injection e2 with e2
            subst e2
            obtain ⟨y, hy⟩ : ∃ y, y = L[j] := ⟨_, rfl⟩
            rw [← hy] at hcell2
            have ry := Ext.rule hcell2
            have hyx : y < x := by have := hpi.out (by omega); rw [hy]; exact this
            have hd3 : decide ((0 : Int) < ((j + 1 : Nat) : Int)) = true := decide_eq_true (by omega)
            have hd4 : decide (x ≤ y) = false := decide_eq_false (by omega)
            have hj0 : (0 : Int) ≤ (j : Int) := by omega
            have hj1 : (j : Int) < (L.length : Int) := by omega
            clear hcell2 hy hpi
            go_wp2_with fail
            refine (hCN.out wr hz5).mono ?_
            rintro e w8 ⟨v8, rfl, hM8⟩
            have hz8 : Ext w6 w8 := hz6.trans hM8.ext
            have HM8 := Lib.hid hM8
            clear hM8
            go_wp2_with fail
            refine (has_calls (k : Int) w8 HM8.out.ints (by have := nextL_len m x; omega)).mono ?_
            rintro e w9 ⟨rfl, rfl⟩
            rw [decide_eq_true (nextL_symm HG.out.dim (by omega) HKN.out HXM.out)]
            go_wp2_with fail
            go_roundg (L.length - (j + 1 + 1))
            case measure => omega
            case rel => exact ⟨j + 1 + 1, by go_num, hil, rfl, hz8⟩
        · have hiL : i = L.length := by omega
          subst hiL
          go_wp2_with fail
          go_roundg (N - (k + 1))
          case measure => omega
          case rel => exact ⟨k + 1, by go_num, hlt, rfl, hz5⟩
    · have hkN : k = N := by omega
      subst hkN
      have hkd : decide (k < k) = false := decide_eq_false (by omega)
      obtain ⟨h, hh⟩ : ∃ h : Nat, h = l.length / 2 := ⟨_, rfl⟩
      have hq1 : (l.length : Int).tdiv 2 = (h : Int) := by rw [Int.tdiv_eq_ediv_of_nonneg (by omega)]; omega
      have hq2 : (l.length : Int) / 2 = (h : Int) := by omega
      have hq3 : (0 : Int) ≤ (h : Int) := by omega
      have hq4 : (h : Int) ≤ (l.length : Int) := by omega
      have hq5 : (h : Int) ≤ (cl : Int) := by omega
      have HHL : Hid (h ≤ l.length) := by show _ ≤ _; omega
      have HH := Lib.hid hh
      have HIk := Lib.hid (HI5.out.below hx5)
      clear hh
      go_upto_region 14 with fail
      go_cut [11, 12] (fun vf vu wx => Hid (Ints wx (fun b => w1.heap.size ≤ b) vf (l.take h) ∧ Ints wx (fun b => w1.heap.size ≤ b) vu (l.drop h) ∧ Ext w5 wx))
      case first =>
        rcases Nat.eq_zero_or_pos l.length with hl0 | hl0
        · obtain rfl : l = [] := List.eq_nil_of_length_eq_zero hl0
          obtain rfl : h = 0 := by have := HH.out; simpa using this
          have hEd : ∀ q, Ext wk (wk.drewN q) := fun q => (Ext.refl wk).drewN q
          have HED := Lib.hid hEd
          clear hEd hl0 hq1 hq2 hq3 hq4 hq5
          rcases HMK.out.2 with ⟨e, -⟩ | ⟨g0, cap, cur, e, -, -, -, -, -, -⟩
          · injection e with e1 e2 e3
            subst e1 e3
            clear e2
            go_quiet (fail)
            go_wp2_with fail
            go_meet
            exact ⟨Ints.nil _ _, Ints.nil _ _, hx5.trans (HED.out _)⟩
          · injection e with e1 e2 e3
            subst e1 e3
            clear e2
            by_cases hc0 : cl = 0
            · subst hc0
              go_quiet (fail)
              go_wp2_with fail
              go_meet
              exact ⟨⟨_, _, rfl, Nat.le_refl _, RowA.nil _ _ _ _⟩, ⟨_, _, rfl, Nat.le_refl _, RowA.nil _ _ _ _⟩, hx5.trans (HED.out _)⟩
            · have hcpos : 0 < cl := by omega
              have hcpos2 : (0 : Int) < (cl : Int) := by omega
              go_quiet (fail)
              go_wp2_with fail
              go_meet
              exact ⟨⟨_, _, rfl, Nat.zero_le _, RowA.nil _ _ _ _⟩, ⟨_, _, rfl, Nat.zero_le _, RowA.nil _ _ _ _⟩, hx5.trans (HED.out _)⟩
        · have hlt : (h : Int) < (cl : Int) := by have := HH.out; omega
          have hlt2 : (h : Int) < (l.length : Int) := by have := HH.out; omega
          obtain ⟨A0, c0, e, -, hr⟩ := id HIk.out
          injection e with e1 e2 e3
          subst e1
          subst e3
          obtain ⟨b0, of0, e4, hob, hcc⟩ := hr.2 hl0
          subst e4
          have HCC := Lib.hid hcc
          have HOB := Lib.hid hob
          clear hr hcc hl0 e2 hob
          go_quiet (fail)
          go_wp2_with fail
          go_meet
          have hEd : Ext wk (wk.drewN nq) := (Ext.refl wk).drewN nq
          refine ⟨⟨_, _, by rw [List.length_take, Nat.min_eq_left HHL.out], by rw [List.length_take]; have := HH.out; omega, by simp, fun _ => ⟨b0, of0, rfl, HOB.out, fun j u hu => hEd.cell (HCC.out j u ?_)⟩⟩, ⟨_, _, by rw [List.length_drop], by rw [List.length_drop]; omega, by simp, fun _ => ⟨b0, of0 + h, rfl, HOB.out, fun j u hu => ?_⟩⟩, hx5.trans hEd⟩
          · rw [List.map_take, List.getElem?_take] at hu
            split at hu
            · exact hu
            · cases hu
          · rw [List.map_drop, List.getElem?_drop] at hu
            have := HCC.out (h + j) u hu
            rw [Nat.add_assoc]
            exact hEd.cell this
      case rest =>
        obtain ⟨hvf, hvu, hx6⟩ := hcut.out
        have HVF := Lib.hid hvf
        have HVU := Lib.hid hvu
        obtain ⟨Af1, cf1, rfl, -, -⟩ := hvf
        obtain ⟨Au1, cu1, rfl, -, -⟩ := hvu
        clear hcut
        obtain ⟨fr, hfr⟩ : ∃ fr, fr = l.take h := ⟨_, rfl⟩
        obtain ⟨us, hus⟩ : ∃ us, us = l.drop h := ⟨_, rfl⟩
        rw [← hfr] at HVF ⊢
        rw [← hus] at HVU ⊢
        have hfl : fr.length ≤ 12 := by rw [hfr, List.length_take]; omega
        have hul : us.length ≤ 12 := by rw [hus, List.length_drop]; omega
        have HFR : Hid (∀ x ∈ fr, 0 ≤ x ∧ x ≤ m.n) := fun x hx => HLR.out x (List.mem_of_mem_take (hfr ▸ hx))
        clear hfr hus hq1 hq2 hq3 hq4 hq5
        go_wp2_with fail
        refine (rReach_calls 0 wc (HM5.out.below hx6) HMM.out.lens HVF.out (by omega) HVU.out (by omega)).mono ?_
        rintro e w7 ⟨v7, rfl, hM7⟩
        rw [reachO_eq HG.out HMM.out.tk.1] at hM7
        obtain ⟨A7, c7, rfl, hc7⟩ := hM7.slice
        have hx7 : Ext w5 w7 := hx6.trans hM7.ext
        have HM7 := Lib.hid hM7
        have HVF7 := Lib.hid (HVF.out.below hM7.ext)
        have HVU7 := Lib.hid (HVU.out.below hM7.ext)
        have hRl : (reachL m 0 fr us).length ≤ 16 := by
          have h1 := reachL_len m 0 fr us
          have h2 : m.n = m.w * m.h * m.l := rfl
          have h3 := HN.out
          omega
        obtain ⟨R, hR⟩ : ∃ R, R = reachL m 0 fr us := ⟨_, rfl⟩
        rw [← hR] at HM7 hc7 hRl ⊢
        have HRR := Lib.hid hR
        have HPW : Hid (R.Pairwise (· < ·)) := by rw [hR]; exact reachL_pw _ _ _ _
        have HRP : Hid (∀ y, y ∈ R ↔ RP m 0 fr us y) := fun y => by rw [hR]; exact mem_reachL HG.out.dim
        have hfl0 : 0 < m.free.length := by rw [HG.out.fl]; exact HMM.out.tk.1
        clear hM7 hR hx6 hx5
        go_wp2_with fail
        go_loopg [95] R.length (fun gi v wr => ∃ i : Nat, v = .int .i64 i ∧ i ≤ R.length ∧ gi = R.length - i ∧ Hid (Ext w7 wr))
        case atStart => exact ⟨0, rfl, Nat.zero_le _, rfl, Ext.refl _⟩
        case round =>
          obtain ⟨i, rfl, hi, rfl, hZ⟩ := hrel
          obtain ⟨wz, rfl⟩ : ∃ wz : World, wz = wr := ⟨_, rfl⟩
          have hz7 : Ext w7 wz := hZ.out
          have hz5 : Ext w5 wz := hx7.trans hz7
          rcases Nat.lt_or_ge i R.length with hil | hige
          · obtain ⟨bl, rfl, -, hcell⟩ := own_at HM7.out.own hil
            obtain ⟨x, hx⟩ : ∃ x, x = R[i] := ⟨_, rfl⟩
            rw [← hx] at hcell
            have rx := Ext.rule hcell
            have hxR : x ∈ R := by rw [hx]; exact List.getElem_mem _
            have hxp := (HRP.out x).1 hxR
            have hxr := hxp.range HG.out.dim
            have hxN : x < (k : Int) := by have := HN.out; have h2 : m.n = m.w * m.h * m.l := rfl; omega
            have hx0 := hxr.1
            have HXR := Lib.hid hxr
            have HXP := Lib.hid hxp
            have hd1 : decide (x < 0) = false := decide_eq_false (by omega)
            have hd2 : decide ((k : Int) ≤ x) = false := decide_eq_false (by omega)
            have hpi : Hid (0 < i → R[i - 1] < x) := fun h0 => by
              have := pw_step HPW.out h0 hil
              rwa [← hx] at this
            clear hcell hx hxr hxp hxR
            obtain ⟨y, hy⟩ : ∃ y, y = R.getD (i - 1) 0 := ⟨_, rfl⟩
            have hprev : 0 < i → ∀ W, Ext w7 W → W.cell? ⟨bl, i - 1, none⟩ = some (.int .i64 y) := fun h0 => by
              obtain ⟨_, e2, -, hcell2⟩ := own_at HM7.out.own (show i - 1 < R.length by omega)
              injection e2 with e2
              injection e2 with e2
              subst e2
              rw [hy, List.getD_eq_getElem?_getD, List.getElem?_eq_getElem (by omega), Option.getD_some]
              exact Ext.rule hcell2
            have hyx : 0 < i → y < x := fun h0 => by
              have := hpi.out h0
              rw [hy, List.getD_eq_getElem?_getD, List.getElem?_eq_getElem (by omega), Option.getD_some]
              exact this
            have HPREV := Lib.hid hprev
            have HYX := Lib.hid hyx
            clear hprev hyx hy hpi
            go_upto_region 19 with fail
            go_cut [119] (fun s wx => s = .bool false ∧ wz = wx)
            case first =>
              rcases Nat.eq_zero_or_pos i with hi0 | hi0
              · subst hi0
                have hi1 : decide ((0 : Int) < ((0 : Nat) : Int)) = false := by simp
                go_wp2_with fail
                go_meet
                exact ⟨rfl, rfl⟩
              · have hi1 : decide ((0 : Int) < (i : Int)) = true := decide_eq_true (by omega)
                have hi2 : decide (0 < i) = true := decide_eq_true hi0
                have hp := HPREV.out hi0
                have hd3 : decide (x ≤ y) = false := decide_eq_false (by have := HYX.out hi0; omega)
                have hi3 : (0 : Int) ≤ (i : Int) - 1 ∧ (i : Int) - 1 < (R.length : Int) := by omega
                have hi4 : ((i : Int) - 1).toNat = i - 1 := by omega
                go_wp2_with fail
                go_meet
                exact ⟨rfl, rfl⟩
            case rest =>
              obtain ⟨rfl, rfl⟩ := hcut
              go_wp2_with fail
              refine (has_calls x wz (HVF7.out.below hz7) (by omega)).mono ?_
              rintro e w8 ⟨rfl, rfl⟩
              obtain ⟨ld, hld⟩ : ∃ ld, ld = decide (x ∈ fr) := ⟨_, rfl⟩
              rw [← hld]
              have HLD := Lib.hid hld; clear hld
              go_wp2_with fail
              refine (rNext_calls x wz (HM5.out.below hz5) HMM.out.lens).mono ?_
              rintro e w9 ⟨v9, rfl, hM9⟩
              rw [nextO_eq HG.out hx0 HXR.out.2] at hM9
              obtain ⟨A9, c9, rfl, hc9⟩ := hM9.slice
              have hx79 : Ext w7 w9 := hz7.trans hM9.ext
              have HM9 := Lib.hid hM9
              have hnl9 := nextL_len m x
              obtain ⟨Q, hQ⟩ : ∃ Q, Q = nextL m x := ⟨_, rfl⟩
              rw [← hQ] at HM9 hc9 hnl9 ⊢
              have HQQ := Lib.hid hQ
              clear hM9 hQ
              go_wp2_with fail
              go_loopg [16, 127] Q.length (fun gj vl v wr => ∃ j : Nat, vl = .bool (ld || (Q.take j).any fun y => decide (y ∈ R)) ∧ v = .int .i64 j ∧ j ≤ Q.length ∧ gj = Q.length - j ∧ Hid (Ext w9 wr))
              case atStart => exact ⟨0, by simp, rfl, Nat.zero_le _, rfl, Ext.refl _⟩
              case round =>
                obtain ⟨j, rfl, rfl, hj, rfl, hY⟩ := hrel
                have hy9 : Ext w9 wr := hY.out
                have hy7 : Ext w7 wr := hx79.trans hy9
                have hy5 : Ext w5 wr := hx7.trans hy7
                rcases Nat.lt_or_ge j Q.length with hjl | hjge
                · obtain ⟨bq, rfl, -, hcell⟩ := own_at HM9.out.own hjl
                  obtain ⟨y, hy⟩ : ∃ y, y = Q[j] := ⟨_, rfl⟩
                  rw [← hy] at hcell
                  have ry := Ext.rule hcell
                  have hyQ : Hid (y ∈ nextL m x) := by show y ∈ _; rw [← HQQ.out, hy]; exact List.getElem_mem _
                  have hyr := nextL_range HG.out.dim hx0 HXR.out.2 hyQ.out
                  obtain ⟨lv, hlv⟩ : ∃ lv, lv = (ld || (Q.take j).any fun y => decide (y ∈ R)) := ⟨_, rfl⟩
                  rw [← hlv]
                  have HNX : Hid ((ld || (Q.take (j + 1)).any fun y => decide (y ∈ R)) = (lv || decide (y ∈ R))) := by
                    show _ = _
                    rw [List.take_succ_eq_append_getElem hjl, List.any_append, ← Bool.or_assoc, ← hlv, ← hy]
                    simp
                  have HIN : Hid (∀ W, Ext w7 W → Calls Try.prog 36 #[.slice (some ⟨bl, 0, none⟩) R.length c7, .int .i64 y] W fun e w' => e = .returned (.bool (decide (y ∈ R))) ∧ W = w') := fun W hE => has_calls y W (HM7.out.ints.below hE) (by omega)
                  have HUS : Hid (∀ W, Ext w7 W → Calls Try.prog 36 #[.slice Au1 us.length cu1, .int .i64 y] W fun e w' => e = .returned (.bool (decide (y ∈ us))) ∧ W = w') := fun W hE => has_calls y W (HVU7.out.below hE) (by omega)
                  obtain ⟨fb, fo, fc, gb, go, gl, gc, eF, hF1, hF2, hF3, hF4, hF5⟩ := mazeFree (HM5.out.below hy5) HG.out.fn hfl0 hyr.1 hyr.2
                  injection eF with eF1 _ eF3
                  subst eF1
                  subst eF3
                  rw [Nat.add_zero] at hF1
                  obtain ⟨fv, hfv⟩ : ∃ fv, fv = freeAt m 0 y := ⟨_, rfl⟩
                  rw [← hfv] at hF5
                  have HFV := Lib.hid hfv
                  have HYR := Lib.hid hyr
                  have hy0 := hyr.1
                  have hfm : (0 : Int) < (m.free.length : Int) := by omega
                  clear hcell hy hlv hfv hyr
                  go_upto_region 25 with fail
                  go_cut [16] (fun s wx => s = .bool (lv || decide (y ∈ R)) ∧ wr = wx)
                  case first =>
                    cases lv with
                    | true =>
                      go_wp2_with fail
                      go_meet
                      exact ⟨rfl, rfl⟩
                    | false =>
                      go_wp2_with fail
                      refine (HIN.out wr hy7).mono ?_
                      rintro e w' ⟨rfl, rfl⟩
                      go_wp2_with fail
                      go_meet
                      exact ⟨by simp, rfl⟩
                  case rest =>
                    obtain ⟨rfl, rfl⟩ := hcut
                    cases fv with
                    | false =>
                      go_wp2_with fail
                      go_roundg (Q.length - (j + 1))
                      case measure => omega
                      case rel => exact ⟨j + 1, by rw [HNX.out], by go_num, hjl, rfl, hy9⟩
                    | true =>
                      go_wp2_with fail
                      refine (HUS.out wr hy7).mono ?_
                      rintro e w' ⟨rfl, rfl⟩
                      by_cases hyu : y ∈ us
                      · rw [decide_eq_true hyu]
                        go_wp2_with fail
                        go_roundg (Q.length - (j + 1))
                        case measure => omega
                        case rel => exact ⟨j + 1, by rw [HNX.out], by go_num, hjl, rfl, hy9⟩
                      · rw [decide_eq_false hyu]
                        have hyR : Hid (y ∈ R) := (HRP.out y).2 (HXP.out.step hyQ.out HFV.out.symm hyu)
                        clear hyu
                        go_wp2_with fail
                        refine (HIN.out wr hy7).mono ?_
                        rintro e w' ⟨rfl, rfl⟩
                        have HNX2 : Hid ((ld || (Q.take (j + 1)).any fun y => decide (y ∈ R)) = (lv || true)) := by have := HNX.out; rwa [decide_eq_true hyR.out] at this
                        rw [decide_eq_true hyR.out]
                        go_wp2_with fail
                        go_roundg (Q.length - (j + 1))
                        case measure => omega
                        case rel => exact ⟨j + 1, by rw [HNX2.out]; cases lv <;> rfl, by go_num, hjl, rfl, hy9⟩
                · have hjL : j = Q.length := by omega
                  subst hjL
                  have hjd : decide (Q.length < Q.length) = false := decide_eq_false (by omega)
                  have hled := HXP.out.led HG.out.dim
                  have htr : (ld || (Q.take Q.length).any fun y => decide (y ∈ R)) = true := by
                    rw [List.take_length, Bool.or_eq_true]
                    rcases hled with h1 | ⟨-, -, z, hz, hzr⟩
                    · left; rw [HLD.out]; exact decide_eq_true h1
                    · right
                      rw [List.any_eq_true]
                      exact ⟨z, by rw [HQQ.out]; exact hz, decide_eq_true ((HRP.out z).2 hzr)⟩
                  rw [htr]
                  have HLED := Lib.hid hled
                  obtain ⟨fb, fo, fc, gb, go, gl, gc, eF, hF1, hF2, hF3, hF4, hF5⟩ := mazeFree (HM5.out.below hy5) HG.out.fn hfl0 hx0 HXR.out.2
                  injection eF with eF1 _ eF3
                  subst eF1
                  subst eF3
                  rw [Nat.add_zero] at hF1
                  have hfm : (0 : Int) < (m.free.length : Int) := by omega
                  have HFS : Hid (∀ W, Ext w7 W → Calls Try.prog 36 #[.slice Af1 fr.length cf1, .int .i64 x] W fun e w' => e = .returned (.bool ld) ∧ W = w') := fun W hE => by
                    rw [HLD.out]; exact has_calls x W (HVF7.out.below hE) (by omega)
                  clear htr hled
                  go_wp2_with fail
                  refine (HFS.out wr hy7).mono ?_
                  rintro e w' ⟨rfl, rfl⟩
                  cases ld with
                  | true =>
                    go_wp2_with fail
                    go_roundg (R.length - (i + 1))
                    case measure => omega
                    case rel => exact ⟨i + 1, by go_num, hil, rfl, hy7⟩
                  | false =>
                    have hnf : ¬ x ∈ fr := of_decide_eq_false HLD.out.symm
                    have hfx : freeAt m 0 x = true ∧ x ∉ us := by
                      rcases HLED.out with h1 | ⟨h1, h2, -⟩
                      · exact absurd h1 hnf
                      · exact ⟨h1, h2⟩
                    rw [hfx.1] at hF5
                    have HU0 : Hid (∀ W, Ext w7 W → Calls Try.prog 36 #[.slice Au1 us.length cu1, .int .i64 x] W fun e w' => e = .returned (.bool false) ∧ W = w') := fun W hE => by
                      have := has_calls x W (HVU7.out.below hE) (by omega)
                      rwa [decide_eq_false hfx.2] at this
                    clear hnf hfx
                    go_wp2_with fail
                    refine (HU0.out wr hy7).mono ?_
                    rintro e w' ⟨rfl, rfl⟩
                    go_wp2_with fail
                    go_roundg (R.length - (i + 1))
                    case measure => omega
                    case rel => exact ⟨i + 1, by go_num, hil, rfl, hy7⟩
          · have hiL : i = R.length := by omega
            subst hiL
            have hid : decide (R.length < R.length) = false := decide_eq_false (by omega)
            go_wp2_with fail
            go_loopg [183] fr.length (fun gi v wr => ∃ i : Nat, v = .int .i64 i ∧ i ≤ fr.length ∧ gi = fr.length - i ∧ Hid (Ext w7 wr))
            case atStart => exact ⟨0, rfl, Nat.zero_le _, rfl, hz7⟩
            case round =>
              obtain ⟨j, rfl, hj, rfl, hZ2⟩ := hrel
              have hy7 : Ext w7 wr := hZ2.out
              rcases Nat.lt_or_ge j fr.length with hjl | hjge
              · obtain ⟨A8, c8, e8, -, hr8⟩ := id HVF7.out
                injection e8 with e8 _ e9
                subst e8
                obtain ⟨bf, of1, e10, -, hcell⟩ := intsAt hr8 hjl hjl
                subst e10
                obtain ⟨x, hx⟩ : ∃ x, x = fr[j] := ⟨_, rfl⟩
                rw [← hx] at hcell
                have rx := Ext.rule hcell
                have hxf : Hid (x ∈ fr) := by show x ∈ fr; rw [hx]; exact List.getElem_mem _
                clear hcell hx hr8 e9
                by_cases hxk : x < (k : Int)
                · have hd1 : decide (x < (k : Int)) = true := decide_eq_true hxk
                  have hxRm : Hid (x ∈ R) := (HRP.out x).2 (RP.base hxf.out (HFR.out x hxf.out).1 (by have := HN.out; show x < m.w * m.h * m.l; omega))
                  go_wp2_with fail
                  refine (has_calls x wr (HM7.out.ints.below hy7) (by omega)).mono ?_
                  rintro e w8 ⟨rfl, rfl⟩
                  rw [decide_eq_true hxRm.out]
                  go_wp2_with fail
                  go_roundg (fr.length - (j + 1))
                  case measure => omega
                  case rel => exact ⟨j + 1, by go_num, hjl, rfl, hy7⟩
                · have hd1 : decide (x < (k : Int)) = false := decide_eq_false hxk
                  go_wp2_with fail
                  go_roundg (fr.length - (j + 1))
                  case measure => omega
                  case rel => exact ⟨j + 1, by go_num, hjl, rfl, hy7⟩
              · have hjL : j = fr.length := by omega
                subst hjL
                have hjd : decide (fr.length < fr.length) = false := decide_eq_false (by omega)
                go_wp2_with fail
                go_ret
                exact ⟨rfl, HEW5.out.trans (hx7.trans hy7)⟩
set_option maxRecDepth 100000 in
theorem routeGraph_walk {H : Type} {enc : TypeId × Value → H} {base : Nat} {v0 : Value} {d0 : DataW H} {p0 : List MemPlace} (W : World) (hv0 : Value.okWide Try.prog W .any base 26 v0) (h0 : DataW.Trod enc Try.prog W 0 (fun _ => true) true 26 v0 d0 p0) :
    Calls Try.prog 8 #[v0] W fun e w' => e = .returned (.bool true) ∧ Below W.heap.size W w' := by
  obtain ⟨va, o0, o1, o2, vb, ls, ns, rfl, h2, h3, h4, h5, h6, -⟩ := caseOpen h0 (caseAgg hv0)
  exact graph_calls o0 o1 o2 W h2 h3 h4 h5 h6
end Go.Proofs.Ytgpjfpcjiebjiaa
