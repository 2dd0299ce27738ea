/- Walks: the law RouteResumes. -/
import Derived.Test.YtgpjfpcjiebjiaaRtMc
import Derived.Test.YtgpjfpcjiebjiaaRtTw
import Derived.Test.YtgpjfpcjiebjiaaRtGp
import Derived.Test.YtgpjfpcjiebjiaaRtOp
namespace Go.Proofs.Ytgpjfpcjiebjiaa
open Go.RowKit
set_option linter.unusedVariables false
set_option linter.unusedSimpArgs false
attribute [local go_sem ↓] Go.wp_at_zero Go.wp_at_succ

set_option maxHeartbeats 8000000 in
set_option maxRecDepth 100000 in
theorem resumes_calls {ok ok2 okp : Nat → Prop} {v vn vp : Value} {bs : List Int} {ls : List (List Int)} {ns : List Int} (o0 o1 o2 : Int) (w : World) (hl : Intss w ok v ls) (hll : ls.length ≤ 9223372036854775807) (hlx : ∀ l ∈ ls, l.length ≤ 9223372036854775807) (hn : Ints w ok2 vn ns) (hnl : ns.length ≤ 9223372036854775807) (hbs : U8s w okp vp bs) (hbl : bs.length ≤ 9223372036854775807) :
    Calls Try.prog 6 #[.agg #[v, .int .i64 o0, .int .i64 o1, .int .i64 o2, vn], vp] w fun e w' => e = .returned (.bool true) ∧ Ext w w' := by
  have HLS := Lib.hid hl
  have HNS := Lib.hid hn
  obtain ⟨vs, ⟨A, c, rfl, hc, -⟩, -⟩ := hl
  obtain ⟨A2, c2, rfl, hc2, -⟩ := hn
  have HLX := Lib.hid hlx
  have HBS := Lib.hid hbs
  obtain ⟨⟨Ap, cp, rfl, hcp, -⟩, -⟩ := hbs
  clear hlx
  go_enter Try.func6, Try.ntmps6
  go_wp2_with fail
  generalize hwa : w.alloc (.cells #[.slice A ls.length c, .int .i64 o0, .int .i64 o1, .int .i64 o2, .slice A2 ns.length c2] 26) = wa
  have hEa : Ext w wa := by rw [← hwa]; exact (Ext.refl _).alloc _
  have hBa : Blk wa w.heap.size 26 #[.slice A ls.length c, .int .i64 o0, .int .i64 o1, .int .i64 o2, .slice A2 ns.length c2] := by rw [← hwa]; exact Blk.new _ _ _ rfl
  clear hwa
  have r0 : ∀ W, Ext wa W → W.cell? ⟨w.heap.size, 0, none⟩ = some (.slice A ls.length c) := Ext.rule (hBa.cell (k := 0) rfl)
  have r1 : ∀ W, Ext wa W → W.cell? ⟨w.heap.size, 1, none⟩ = some (.int .i64 o0) := Ext.rule (hBa.cell (k := 1) rfl)
  have r2 : ∀ W, Ext wa W → W.cell? ⟨w.heap.size, 2, none⟩ = some (.int .i64 o1) := Ext.rule (hBa.cell (k := 2) rfl)
  have r3 : ∀ W, Ext wa W → W.cell? ⟨w.heap.size, 3, none⟩ = some (.int .i64 o2) := Ext.rule (hBa.cell (k := 3) rfl)
  have r4 : ∀ W, Ext wa W → W.cell? ⟨w.heap.size, 4, none⟩ = some (.slice A2 ns.length c2) := Ext.rule (hBa.cell (k := 4) rfl)
  clear hBa
  refine (sanity_calls wa).mono ?_
  rintro e w1 ⟨rfl, hE1⟩
  have hx1 : Ext wa w1 := hE1
  go_wp2_with fail
  refine (caseMade_calls o0 o1 o2 w1 (HLS.out.below (hEa.trans hx1)) hll HLX.out (HNS.out.below (hEa.trans hx1)) hnl).mono ?_
  rintro e w2 ⟨v2, m, vl, l, rfl, hE2, hm, hMM, hMk, hl12, hlr⟩
  have HM := Lib.hid hm
  obtain ⟨vfr, vup, vts, rfl, ⟨_, ⟨Af, cf, rfl, -⟩, -⟩, ⟨Au, cu, rfl, -⟩, ⟨_, ⟨At, ct, rfl, -⟩, -⟩⟩ := hm
  have HI := Lib.hid hMk.ints
  obtain ⟨Al, cl, rfl, hcl⟩ := hMk.slice
  have HMM := Lib.hid hMM
  have HLR := Lib.hid hlr
  have HEW := Lib.hid ((hEa.trans hx1).trans hE2)
  have HMK := Lib.hid hMk.own
  clear hMk hMM hlr r0 r1 r2 r3 r4 hx1 hE1 hEa hE2
  go_wp2_with fail
  obtain ⟨gm, hgm⟩ : ∃ gm, gm = w2.heap.size := ⟨_, rfl⟩
  have hg := HMM.out.good
  have hdimWH : 2 ≤ m.w * m.h ∧ m.w * m.h ≤ 16 := by
    have h0 := HMM.out.w
    have h1 := hg.dim.layer
    have h2 : m.n = m.w * m.h * m.l := rfl
    have h3 := Int.mul_le_mul_of_nonneg_left HMM.out.h.1 (show 0 ≤ m.w by omega)
    have := HMM.out.n
    omega
  have hdimN : 2 ≤ m.w * m.h * m.l ∧ m.w * m.h * m.l ≤ 16 := HMM.out.n
  have HG := Lib.hid hg
  clear hg
  obtain ⟨hd1, hd2⟩ := hdimWH
  obtain ⟨hd3, hd4⟩ := hdimN
  go_upto_region 3 with fail
  rw [← hgm]
  generalize hw5 : w2.alloc (.cells #[.int .i64 m.w, .int .i64 m.h, .int .i64 m.l, .slice Af m.free.length cf, .slice Au m.up.length cu, .slice At m.tasks.length ct] 31) = w5
  have hE5 : Ext w2 w5 := by rw [← hw5]; exact (Ext.refl _).alloc _
  have hBm : Blk w5 gm 31 #[.int .i64 m.w, .int .i64 m.h, .int .i64 m.l, .slice Af m.free.length cf, .slice Au m.up.length cu, .slice At m.tasks.length ct] := by rw [← hw5, hgm]; exact Blk.new _ _ _ rfl
  clear hw5 hgm
  obtain ⟨m0, m1, m2, m3, m4, m5⟩ := cells6 hBm
  have q0 := Ext.rule m0
  have q1 := Ext.rule m1
  have q2 := Ext.rule m2
  have q3 := Ext.rule m3
  have q4 := Ext.rule m4
  have q5 := Ext.rule m5
  clear m0 m1 m2 m3 m4 m5 hBm hd1 hd2 hd3 hd4
  have HM5 := Lib.hid (HM.out.below hE5)
  have HEW5 : Hid (Ext w w5) := HEW.out.trans hE5
  have HB5 := Lib.hid (HBS.out.below HEW5.out)
  clear hE5
  have hck : Hid (chk m = 0) := good_chk HG.out
  have hx5 := Ext.refl w5
  go_wp2_with fail
  refine (new1 w5 w5 (Ext.refl _) HM5.out HMM.out.lens hck.out).mono ?_
  rintro e w6 ⟨gr, rfl, hE6, hR6⟩
  have hx6 : Ext w5 w6 := hE6
  have HR6 := Lib.hid hR6
  clear hR6 hE6
  go_wp2_with fail
  refine (HR6.out.new2 HM5.out hck.out).mono ?_
  rintro e w7 ⟨gs, rfl, hE7, hT7⟩
  have hx7 : Ext w5 w7 := hx6.trans hE7
  have HT7 := Lib.hid hT7
  clear hT7 hE7 HR6 hx6 hx5
  go_wp2_with fail
  go_loopg [12, 10] 4 (fun gk v vs wr => ∃ (k gs' : Nat) (s : RS), v = .int .i64 k ∧ vs = .pointer (some ⟨gs', 0, none⟩) ∧ k ≤ 4 ∧ gk = 4 - k ∧ s.steps ≤ 60 * k ∧ Hid (TwoR w5 wr gr gs' m s s))
  case atStart => exact ⟨0, gs, _, rfl, rfl, by omega, rfl, by exact Int.le_refl _, HT7.out⟩
  clear HT7 hx7
  case round =>
    obtain ⟨k, gs', s, rfl, rfl, hk4, rfl, hst, hT⟩ := hrel
    have hx : Ext w5 wr := hT.out.fst.ext
    by_cases hgo : k < bs.length ∧ k < 4
    · obtain ⟨hkb, hk4'⟩ := hgo
      have hk1 : decide ((k : Int) < (bs.length : Int)) = true := decide_eq_true (by omega)
      have hk2 : decide ((k : Int) < 4) = true := decide_eq_true (by omega)
      have hk3 : decide (k < bs.length) = true := decide_eq_true hkb
      have hk5 : decide (k < 4) = true := decide_eq_true hk4'
      obtain ⟨bb, off, rfl, hcell, hb0, hb1⟩ := u8At HB5.out hkb
      obtain ⟨y, hy⟩ : ∃ y, y = bs[k] := ⟨_, rfl⟩
      rw [← hy] at hcell hb0 hb1
      have qy := Ext.rule hcell
      obtain ⟨n, hn⟩ : ∃ n : Nat, (n : Int) = y.tmod 60 := ⟨(y.tmod 60).toNat, by have := Int.tmod_nonneg 60 hb0; omega⟩
      have hn60 : n < 60 := by have := Int.tmod_lt_of_pos y (show (0:Int) < 60 by omega); omega
      have hyw : IntKind.i64.wrap y = y := by rw [IntKind.wrap_i64]; omega
      clear hcell hy
      have hmod : y.tmod 60 = (n : Int) := hn.symm
      have HSS : Hid (s.steps ≤ 60 * k) := hst
      clear hn
      have hnw : IntKind.i64.wrap (n : Int) = (n : Int) := by rw [IntKind.wrap_i64]; omega
      go_wp2_with fail
      refine (hT.out.step n (by omega) (by have := HSS.out; omega)).mono ?_
      rintro e w8 ⟨rfl, hT8⟩
      have HT8 := Lib.hid hT8
      have hx8 : Ext w5 w8 := hT8.fst.ext
      clear hT8
      go_wp2_with fail
      refine (HT8.out.swap.step n (by omega) (by have := HSS.out; omega)).mono ?_
      rintro e w9 ⟨rfl, hT9⟩
      obtain ⟨s1, hs1⟩ : ∃ s1, s1 = RS.run m n s := ⟨_, rfl⟩
      have HSB : Hid (s1.steps ≤ 60 * (k + 1)) := by
        have h1 := (run_steps (m := m) n hT.out.fst.inv.ch).2
        rw [← hs1] at h1
        have := HSS.out
        show _ ≤ _
        omega
      rw [← hs1] at hT9 ⊢
      have HT9 := Lib.hid hT9.swap
      have hx9 : Ext w5 w9 := hT9.fst.ext
      clear hT9 hs1 hx8 hst
      obtain ⟨d, hd⟩ : ∃ d, d = s1.done := ⟨_, rfl⟩
      rw [← hd]
      have HDD := Lib.hid hd
      clear hd
      have hdd : (d != d) = false := by simp
      have p0 : ∀ W, Ext w9 W → W.cell? ⟨gm, 0, none⟩ = some (.int .i64 m.w) := fun W h => q0 W (hx9.trans h)
      have p1 : ∀ W, Ext w9 W → W.cell? ⟨gm, 1, none⟩ = some (.int .i64 m.h) := fun W h => q1 W (hx9.trans h)
      have p2 : ∀ W, Ext w9 W → W.cell? ⟨gm, 2, none⟩ = some (.int .i64 m.l) := fun W h => q2 W (hx9.trans h)
      have p3 : ∀ W, Ext w9 W → W.cell? ⟨gm, 3, none⟩ = some (.slice Af m.free.length cf) := fun W h => q3 W (hx9.trans h)
      have p4 : ∀ W, Ext w9 W → W.cell? ⟨gm, 4, none⟩ = some (.slice Au m.up.length cu) := fun W h => q4 W (hx9.trans h)
      have p5 : ∀ W, Ext w9 W → W.cell? ⟨gm, 5, none⟩ = some (.slice At m.tasks.length ct) := fun W h => q5 W (hx9.trans h)
      go_upto_region 14 with fail
      go_cut [16, 17] (fun v16 v17 wx => v17 = .int .i64 0 ∧ ∃ g', v16 = .pointer (some ⟨g', 0, none⟩) ∧ Hid (TwoR w5 wx gr g' m s1 s1))
      case first =>
        clear q0 q1 q2 q3 q4 q5 qy hx hk1 hk2 hk3 hk5 hmod hnw hyw hdd
        have HCH : Hid (∀ W, Ext w9 W → Calls Try.prog 29 #[.pointer (some ⟨gs', 0, none⟩)] W fun e w' => ∃ v', e = .returned v' ∧ Mk W w' v' s1.ch) := fun W hW => (HT9.out.more hW).snd.choices
        have HST : Hid (∀ W, Ext w9 W → Calls Try.prog 28 #[.pointer (some ⟨gs', 0, none⟩)] W fun e w' => e = .returned (.int .i64 s1.steps) ∧ W = w') := fun W hW => (HT9.out.more hW).snd.stepsC
        have HLD : Hid (∀ W okc vc, Ext w9 W → Ints W okc vc s1.ch → Calls Try.prog 32 #[.agg #[.int .i64 m.w, .int .i64 m.h, .int .i64 m.l, .slice Af m.free.length cf, .slice Au m.up.length cu, .slice At m.tasks.length ct], vc, .int .i64 s1.steps] W fun e w' => ∃ g', e = .returned (.tuple #[.pointer (some ⟨g', 0, none⟩), .int .i64 0]) ∧ Ext W w' ∧ TwoR w5 w' gr g' m s1 s1) := fun W okc vc hW hI =>
          OneR.load2 (s' := s1) (HT9.out.fst.more hW) HM5.out hck.out hI (by have := HT9.out.fst.len; omega) HT9.out.fst.inv
        clear hx9
        go_region_held3 (fun w' => Ext w9 w')
          (first | (exact (Ext.refl w9).drew) | (exact Ext.trans (by assumption) hM.ext) | assumption | (exact Ext.trans (by assumption) hEl))
          (first
            | (go_at_call 29; refine (HCH.out _ (by assumption)).mono ?_; rintro e wq ⟨vq, rfl, hM⟩)
            | (go_at_call 28; refine (HST.out _ (by assumption)).mono ?_; rintro e wq2 ⟨rfl, rfl⟩)
            | (go_at_call 32; refine (HLD.out _ _ _ (by assumption) hM.ints).mono ?_; rintro e wl ⟨g', rfl, hEl, hTl⟩))
        all_goals
          have HTL := Lib.hid hTl
          clear hTl hEl hM
          go_wp2_with fail
          go_meet
          exact ⟨rfl, _, rfl, HTL.out⟩
      case rest =>
        obtain ⟨rfl, g', rfl, hT'⟩ := hcut
        obtain ⟨wc2, hwc⟩ : ∃ wc2 : World, wc2 = wc := ⟨_, rfl⟩
        subst hwc
        clear q0 q1 q2 q3 q4 q5 p0 p1 p2 p3 p4 p5 qy hx hk1 hk2 hk3 hk5 hmod hnw hyw hx9
        have hps : (foundL m s1.ch).length ≤ 1000 ∧ ∀ x ∈ foundL m s1.ch, x.length ≤ 1000 := found_len hT'.out.fst.good.1 hT'.out.fst.good.2 hT'.out.fst.inv.ch
        have HPS := Lib.hid hps
        clear hps
        obtain ⟨cb, hcb⟩ : ∃ cb, cb = cmpC m s1.ch := ⟨_, rfl⟩
        have hcc : (cb != cb) = false := by simp
        have HCB := Lib.hid hcb
        clear hcb
        go_wp2_with fail
        refine hT'.out.fst.found.mono ?_
        rintro e wd ⟨vp, rfl, hed, hpd⟩
        rw [← HCB.out]
        have HTd := Lib.hid (hT'.out.more hed)
        have HPD := Lib.hid hpd
        clear hed hpd
        go_wp2_with fail
        refine HTd.out.snd.found.mono ?_
        rintro e we ⟨vq, rfl, hee, hqe⟩
        rw [← HCB.out]
        have HTe := Lib.hid (HTd.out.more hee)
        have HPE := Lib.hid (HPD.out.below hee)
        have HQE := Lib.hid hqe
        clear hee hqe HTd HPD
        go_wp2_with fail
        refine (samePaths_t we rfl HPE.out HQE.out HPS.out.1 HPS.out.2).mono ?_
        rintro e wf ⟨rfl, hdf⟩
        have HTf := Lib.hid (HTe.out.more (hdf.below _))
        clear hdf HTe HPE HQE
        go_wp2_with fail
        refine HTf.out.fst.stepsC.mono ?_
        rintro e wg ⟨rfl, rfl⟩
        obtain ⟨st, hst⟩ : ∃ st, st = s1.steps := ⟨_, rfl⟩
        have hss : (st != st) = false := by simp
        rw [← hst]
        have HST := Lib.hid hst
        clear hst
        go_wp2_with fail
        refine HTf.out.snd.stepsC.mono ?_
        rintro e wg ⟨rfl, rfl⟩
        rw [← HST.out]
        go_wp2_with fail
        refine HTf.out.snd.choices.mono ?_
        rintro e wh ⟨vh, rfl, hMh⟩
        have HTh := Lib.hid (HTf.out.more hMh.ext)
        have HIh := Lib.hid hMh.ints
        clear hMh HTf
        go_wp2_with fail
        refine HTh.out.fst.choices.mono ?_
        rintro e wi ⟨vi, rfl, hMi⟩
        have HTi := Lib.hid (HTh.out.more hMi.ext)
        have HIi := Lib.hid hMi.ints
        have HIh := Lib.hid (HIh.out.below hMi.ext)
        clear hMi HTh
        go_wp2_with fail
        refine (is_t wi rfl HIh.out HIi.out (by have := HTi.out.fst.len; omega)).mono ?_
        rintro e wj ⟨rfl, hdj⟩
        have HTj := Lib.hid (HTi.out.more (hdj.below _))
        clear hdj HTi HIh HIi
        go_wp2_with fail
        refine (HTj.out.swap.step 0 (by omega) (by have := HSB.out; omega)).mono ?_
        rintro e wl ⟨rfl, hTl⟩
        rw [show RS.run m 0 s1 = s1 from rfl] at hTl ⊢
        rw [← HDD.out]
        have HTL := Lib.hid hTl.swap
        clear hTl HTj
        go_wp2_with fail
        go_roundg (4 - (k + 1))
        case measure => omega
        case rel => exact ⟨k + 1, g', s1, by go_num, rfl, by omega, rfl, by have := HSB.out; simpa using this, HTL.out⟩
    · have hno : decide (k < bs.length) = false ∨ (decide (k < bs.length) = true ∧ decide ((k : Int) < 4) = false) := by
        by_cases h1 : k < bs.length
        · exact .inr ⟨decide_eq_true h1, decide_eq_false (by omega)⟩
        · exact .inl (decide_eq_false h1)
      have HFIN : Hid (Ext w wr) := HEW5.out.trans hx
      clear hgo q0 q1 q2 q3 q4 q5 hx
      rcases hno with h1 | ⟨h1, h2⟩
      all_goals
        go_wp2_with fail
        go_ret
        exact ⟨rfl, HFIN.out⟩
set_option maxRecDepth 100000 in
theorem routeResumes_walk {H : Type} {enc : TypeId × Value → H} {base : Nat} {v0 v1 : Value} {d0 d1 : DataW H} {p0 p1 : List MemPlace} (W : World) (hv0 : Value.okWide Try.prog W .any base 26 v0) (h0 : DataW.Trod enc Try.prog W 0 (fun _ => true) true 26 v0 d0 p0)
    (hv1 : Value.okWide Try.prog W .any base 45 v1) (h1 : DataW.Trod enc Try.prog W 0 (fun _ => true) true 45 v1 d1 p1) :
    Calls Try.prog 6 #[v0, v1] W fun e w' => e = .returned (.bool true) ∧ Below W.heap.size W w' := by
  obtain ⟨va, o0, o1, o2, vb, ls, ns, rfl, h2, h3, h4, h5, h6, -⟩ := caseOpen h0 (caseAgg hv0)
  obtain ⟨bs, h7, h8⟩ := bytesOpen hv1 h1
  exact resumes_calls o0 o1 o2 W h2 h3 h4 h5 h6 h7 h8
end Go.Proofs.Ytgpjfpcjiebjiaa
