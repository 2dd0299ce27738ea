/- Walks: the law RouteRuns. -/
import Derived.Test.YtgpjfpcjiebjiaaGq
import Derived.Test.YtgpjfpcjiebjiaaGu
import Derived.Test.YtgpjfpcjiebjiaaGr
namespace Go.Proofs.Ytgpjfpcjiebjiaa
open Go.RowKit
set_option linter.unusedVariables false
set_option linter.unusedSimpArgs false
attribute [local go_sem ↓] Go.wp_at_zero Go.wp_at_succ

theorem QR2.bound {w : World} {ok : Nat → Prop} {g : Nat} {m : MZ} {s : RS} (h : QR2 w ok g m s) : QR2 w (fun b => ok b ∧ b < w.heap.size) g m s := by
  obtain ⟨f, u, t, vn, h⟩ := h
  exact ⟨f, u, t, vn, h.blk, h.maze.bound, h.now.bound, fun h' => h.ng h'.1⟩
/-- The program's router at g and the reference's at gq, at the same state, that lie apart. -/
def BothX (w wr : World) (X : Nat → Prop) (g gq : Nat) (m : MZ) (s : RS) : Prop := OneX w wr X g m s ∧ QR2 wr (fun b => ¬ X b ∧ b ≠ gq) gq m s ∧ ¬ X gq ∧ w.heap.size ≤ gq
def BothR (w wr : World) (g gq : Nat) (m : MZ) (s : RS) : Prop := ∃ X, BothX w wr X g gq m s
/-- The program's router is a step further. -/
def HalfR (w wr : World) (g gq : Nat) (m : MZ) (s s' : RS) : Prop := ∃ X, OneX w wr X g m s ∧ QR2 wr (fun b => ¬ X b ∧ b ≠ gq) gq m s' ∧ ¬ X gq ∧ w.heap.size ≤ gq
section
variable {w wr w' : World} {X : Nat → Prop} {g gq : Nat} {m : MZ} {s : RS}
theorem BothR.more (h : BothR w wr g gq m s) (hE : Ext wr w') : BothR w w' g gq m s := by
  obtain ⟨X, h1, h2, h3, h4⟩ := h
  exact ⟨X, h1.more hE, h2.ext hE, h3, h4⟩
theorem BothR.one (h : BothR w wr g gq m s) : OneR w wr g m s := by
  obtain ⟨X, h1, h2, h3, h4⟩ := h
  exact ⟨X, h1⟩
theorem BothR.ref (h : BothR w wr g gq m s) : ∃ ok, QR2 wr ok gq m s := by
  obtain ⟨X, h1, h2, h3, h4⟩ := h
  exact ⟨_, h2⟩
theorem BothR.make {ok : Nat → Prop} (h1 : OneR w wr g m s) (hE : Ext wr w') (hq : wr.heap.size ≤ gq) (h2 : QR2 w' (fun b => (ok b ∨ wr.heap.size ≤ b) ∧ b ≠ gq) gq m s) (hok : ∀ b, ok b → b < w.heap.size) : BothR w w' g gq m s := by
  obtain ⟨X, h1⟩ := h1
  refine ⟨X, h1.more hE, h2.weaken (fun b hb => ⟨fun hx => ?_, hb.2⟩) (fun h => h.2 rfl), fun hx => ?_, Nat.le_trans h1.ext.size hq⟩
  · rcases hb.1 with h | h
    · have := hok b h
      have := h1.lo b hx
      omega
    · have := h1.rt.xb b hx
      omega
  · have := h1.rt.xb gq hx
    omega
theorem BothR.step (h : BothR w wr g gq m s) (n : Nat) (hn : n ≤ 1000000) (hs1 : s.steps ≤ 3000000000000000000) :
    Calls Try.prog 24 #[.pointer (some ⟨g, 0, none⟩), .int .i64 n] wr fun e w' => e = .returned (.bool (RS.run m n s).done) ∧ HalfR w w' g gq m (RS.run m n s) s := by
  obtain ⟨X, h1, h2, h3, h4⟩ := h
  refine (h1.step n hn hs1).mono ?_
  rintro e w' ⟨rfl, hr, hc⟩
  have hgl := h2.lt
  refine ⟨rfl, _, hr, (h2.bound.keep (fun b hb hx => hc.block b hb (fun hX => ?_))).weaken (fun b hb => ⟨fun hX => ?_, hb.1.2⟩) (fun h => h.2 rfl), fun hX => ?_, h4⟩
  · rcases hx with rfl | hx
    · exact h3 hX
    · exact hx.1.1 hX
  · rcases hX with hX | hX
    · exact hb.1.1 hX
    · omega
  · rcases hX with hX | hX
    · exact h3 hX
    · omega
theorem HalfR.step {s' : RS} (h : HalfR w wr g gq m s s') (hl : Lens m) (hc : IsCh m s'.ch) (n : Nat) (hn : n ≤ 1000000) (hs0 : 0 ≤ s'.steps) (hs1 : s'.steps ≤ 3000000000000000000) (he : RS.run m n s' = s) :
    Calls Try.prog 25 #[.pointer (some ⟨gq, 0, none⟩), .int .i64 n] wr fun e w' => e = .returned (.bool s.done) ∧ BothR w w' g gq m s := by
  obtain ⟨X, h1, h2, h3, h4⟩ := h
  refine (qStep_calls n wr h2 h1.rt.good hl hc hn hs0 hs1).mono ?_
  rintro e w' ⟨rfl, hr, hch⟩
  rw [he] at hr
  refine ⟨by rw [he], X, h1.other (X' := fun b => b = gq) (fun k hk => by rw [hk]; exact h4) (fun k hk hx => by rw [hx] at hk; exact h3 hk) hch, hr.weaken (fun b hb => ?_) (fun h => h.2 rfl), h3, h4⟩
  rcases hb with hb | hb
  · exact hb
  · refine ⟨fun hX => ?_, fun e => ?_⟩
    · have := h1.rt.xb b hX; omega
    · have := h2.lt; omega
theorem BothR.cells (h : BothR w wr g gq m s) : ∃ vn, wr.cell? ⟨gq, 6, none⟩ = some vn ∧ Ints wr (fun _ => True) vn s.ch ∧ wr.cell? ⟨gq, 8, none⟩ = some (.int .i64 s.steps) := by
  obtain ⟨X, h1, ⟨_, _, _, vn, h2⟩, h3, h4⟩ := h
  exact ⟨vn, h2.blk.cell (k := 6) rfl, h2.now.weaken fun _ _ => trivial, h2.blk.cell (k := 8) rfl⟩
end

set_option maxHeartbeats 8000000 in
set_option maxRecDepth 100000 in
theorem runs_calls {ok ok2 okp : Nat → Prop} {v vn vp : Value} {bs : List Int} {ls : List (List Int)} {ns : List Int} (o0 o1 o2 : Int) (w : World) (hl : Intss w ok v ls) (hll : ls.length ≤ 9223372036854775807) (hlx : ∀ l ∈ ls, l.length ≤ 9223372036854775807) (hn : Ints w ok2 vn ns) (hnl : ns.length ≤ 9223372036854775807) (hbs : U8s w okp vp bs) (hbl : bs.length ≤ 9223372036854775807) :
    Calls Try.prog 4 #[.agg #[v, .int .i64 o0, .int .i64 o1, .int .i64 o2, vn], vp] w fun e w' => e = .returned (.bool true) ∧ Ext w w' := by
  have HLS := Lib.hid hl
  have HNS := Lib.hid hn
  obtain ⟨vs, ⟨A, c, rfl, hc, -⟩, -⟩ := hl
  obtain ⟨A2, c2, rfl, hc2, -⟩ := hn
  have HLX := Lib.hid hlx
  have HBS := Lib.hid hbs
  obtain ⟨⟨Ap, cp, rfl, hcp, -⟩, -⟩ := hbs
  clear hlx
  go_enter Try.func4, Try.ntmps4
  go_wp2_with fail
  generalize hwa : w.alloc (.cells #[.slice A ls.length c, .int .i64 o0, .int .i64 o1, .int .i64 o2, .slice A2 ns.length c2] 26) = wa
  have hEa : Ext w wa := by rw [← hwa]; exact (Ext.refl _).alloc _
  have hBa : Blk wa w.heap.size 26 #[.slice A ls.length c, .int .i64 o0, .int .i64 o1, .int .i64 o2, .slice A2 ns.length c2] := by rw [← hwa]; exact Blk.new _ _ _ rfl
  clear hwa
  have r0 : ∀ W, Ext wa W → W.cell? ⟨w.heap.size, 0, none⟩ = some (.slice A ls.length c) := Ext.rule (hBa.cell (k := 0) rfl)
  have r1 : ∀ W, Ext wa W → W.cell? ⟨w.heap.size, 1, none⟩ = some (.int .i64 o0) := Ext.rule (hBa.cell (k := 1) rfl)
  have r2 : ∀ W, Ext wa W → W.cell? ⟨w.heap.size, 2, none⟩ = some (.int .i64 o1) := Ext.rule (hBa.cell (k := 2) rfl)
  have r3 : ∀ W, Ext wa W → W.cell? ⟨w.heap.size, 3, none⟩ = some (.int .i64 o2) := Ext.rule (hBa.cell (k := 3) rfl)
  have r4 : ∀ W, Ext wa W → W.cell? ⟨w.heap.size, 4, none⟩ = some (.slice A2 ns.length c2) := Ext.rule (hBa.cell (k := 4) rfl)
  clear hBa
  refine (sanity_calls wa).mono ?_
  rintro e w1 ⟨rfl, hE1⟩
  have hx1 : Ext wa w1 := hE1
  go_wp2_with fail
  refine (caseMade_calls o0 o1 o2 w1 (HLS.out.below (hEa.trans hx1)) hll HLX.out (HNS.out.below (hEa.trans hx1)) hnl).mono ?_
  rintro e w2 ⟨v2, m, vl, l, rfl, hE2, hm, hMM, hMk, hl12, hlr⟩
  have HM := Lib.hid hm
  obtain ⟨vfr, vup, vts, rfl, ⟨_, ⟨Af, cf, rfl, -⟩, -⟩, ⟨Au, cu, rfl, -⟩, ⟨_, ⟨At, ct, rfl, -⟩, -⟩⟩ := hm
  have HI := Lib.hid hMk.ints
  obtain ⟨Al, cl, rfl, hcl⟩ := hMk.slice
  have HMM := Lib.hid hMM
  have HLR := Lib.hid hlr
  have HEW := Lib.hid ((hEa.trans hx1).trans hE2)
  have HMK := Lib.hid hMk.own
  clear hMk hMM hlr r0 r1 r2 r3 r4 hx1 hE1 hEa hE2
  go_wp2_with fail
  obtain ⟨gm, hgm⟩ : ∃ gm, gm = w2.heap.size := ⟨_, rfl⟩
  have hg := HMM.out.good
  have hdimWH : 2 ≤ m.w * m.h ∧ m.w * m.h ≤ 16 := by
    have h0 := HMM.out.w
    have h1 := hg.dim.layer
    have h2 : m.n = m.w * m.h * m.l := rfl
    have h3 := Int.mul_le_mul_of_nonneg_left HMM.out.h.1 (show 0 ≤ m.w by omega)
    have := HMM.out.n
    omega
  have hdimN : 2 ≤ m.w * m.h * m.l ∧ m.w * m.h * m.l ≤ 16 := HMM.out.n
  have HG := Lib.hid hg
  clear hg
  obtain ⟨hd1, hd2⟩ := hdimWH
  obtain ⟨hd3, hd4⟩ := hdimN
  go_upto_region 3 with fail
  rw [← hgm]
  generalize hw5 : w2.alloc (.cells #[.int .i64 m.w, .int .i64 m.h, .int .i64 m.l, .slice Af m.free.length cf, .slice Au m.up.length cu, .slice At m.tasks.length ct] 31) = w5
  have hE5 : Ext w2 w5 := by rw [← hw5]; exact (Ext.refl _).alloc _
  have hBm : Blk w5 gm 31 #[.int .i64 m.w, .int .i64 m.h, .int .i64 m.l, .slice Af m.free.length cf, .slice Au m.up.length cu, .slice At m.tasks.length ct] := by rw [← hw5, hgm]; exact Blk.new _ _ _ rfl
  clear hw5 hgm
  obtain ⟨m0, m1, m2, m3, m4, m5⟩ := cells6 hBm
  have q0 := Ext.rule m0
  have q1 := Ext.rule m1
  have q2 := Ext.rule m2
  have q3 := Ext.rule m3
  have q4 := Ext.rule m4
  have q5 := Ext.rule m5
  clear m0 m1 m2 m3 m4 m5 hBm hd1 hd2 hd3 hd4
  have HM5 := Lib.hid (HM.out.below hE5)
  have HEW5 : Hid (Ext w w5) := HEW.out.trans hE5
  have HB5 := Lib.hid (HBS.out.below HEW5.out)
  clear hE5
  have hck : Hid (chk m = 0) := good_chk HG.out
  have hx5 := Ext.refl w5
  go_wp2_with fail
  refine (new1 w5 w5 (Ext.refl _) HM5.out HMM.out.lens hck.out).mono ?_
  rintro e w6 ⟨gr, rfl, hE6, hR6⟩
  have hx6 : Ext w5 w6 := hE6
  have HR6 := Lib.hid hR6
  clear hR6 hE6
  go_wp2_with fail
  refine (qNew_calls w6 (HM5.out.bound.below hx6) HMM.out.lens).mono ?_
  rintro e w7 ⟨v7, rfl, hE7, hP7⟩
  have hle0 : loadE m [] 0 = 0 := rinv_load.loadE (s := loadS m [] 0) hck.out
  rw [hle0] at hP7 ⊢
  have HT : Hid (∃ gq, v7 = .pointer (some ⟨gq, 0, none⟩) ∧ BothR w5 w7 gr gq m (loadS m [] 0)) := by
    rcases hP7 with h | ⟨_, _, _, gq, h1, h2, h3⟩
    · exact absurd rfl h.1
    · exact ⟨gq, h1, BothR.make HR6.out hE7 h2 h3 (fun b hb => hb.2)⟩
  obtain ⟨gq, rfl, hT⟩ := HT.out
  have HT7 := Lib.hid hT
  have hx7 : Ext w5 w7 := hx6.trans hE7
  clear HT hT hP7 hE7 HR6 hx6 hx5 hle0
  go_wp2_with fail
  go_loopg [12] 5 (fun gk v wr => ∃ (k : Nat) (s : RS), v = .int .i64 k ∧ k ≤ 5 ∧ gk = 5 - k ∧ s.steps ≤ 40 * k ∧ Hid (BothR w5 wr gr gq m s))
  case atStart => exact ⟨0, _, rfl, by omega, rfl, by exact Int.le_refl _, HT7.out⟩
  clear HT7 hx7
  case round =>
    obtain ⟨k, s, rfl, hk4, rfl, hst, hT⟩ := hrel
    have hx : Ext w5 wr := hT.out.one.ext
    by_cases hgo : k < bs.length ∧ k < 5
    · obtain ⟨hkb, hk4'⟩ := hgo
      have hk1 : decide ((k : Int) < (bs.length : Int)) = true := decide_eq_true (by omega)
      have hk2 : decide ((k : Int) < 5) = true := decide_eq_true (by omega)
      have hk3 : decide (k < bs.length) = true := decide_eq_true hkb
      have hk5 : decide (k < 5) = true := decide_eq_true hk4'
      obtain ⟨bb, off, rfl, hcell, hb0, hb1⟩ := u8At HB5.out hkb
      obtain ⟨y, hy⟩ : ∃ y, y = bs[k] := ⟨_, rfl⟩
      rw [← hy] at hcell hb0 hb1
      have qy := Ext.rule hcell
      obtain ⟨n, hn⟩ : ∃ n : Nat, (n : Int) = y.tmod 40 := ⟨(y.tmod 40).toNat, by have := Int.tmod_nonneg 40 hb0; omega⟩
      have hn60 : n < 40 := by have := Int.tmod_lt_of_pos y (show (0:Int) < 40 by omega); omega
      have hyw : IntKind.i64.wrap y = y := by rw [IntKind.wrap_i64]; omega
      clear hcell hy
      have hmod : y.tmod 40 = (n : Int) := hn.symm
      have HSS : Hid (s.steps ≤ 40 * k) := hst
      clear hn
      have hnw : IntKind.i64.wrap (n : Int) = (n : Int) := by rw [IntKind.wrap_i64]; omega
      go_wp2_with fail
      refine (hT.out.step n (by omega) (by have := HSS.out; omega)).mono ?_
      rintro e w8 ⟨rfl, hT8⟩
      have HT8 := Lib.hid hT8
      clear hT8
      go_wp2_with fail
      refine (HT8.out.step HMM.out.lens hT.out.one.inv.ch n (by omega) hT.out.one.inv.st (by have := HSS.out; omega) rfl).mono ?_
      rintro e w9 ⟨rfl, hT9⟩
      obtain ⟨s1, hs1⟩ : ∃ s1, s1 = RS.run m n s := ⟨_, rfl⟩
      have HSB : Hid (s1.steps ≤ 40 * (k + 1)) := by
        have h1 := (run_steps (m := m) n hT.out.one.inv.ch).2
        rw [← hs1] at h1
        have := HSS.out
        show _ ≤ _
        omega
      rw [← hs1] at hT9 ⊢
      have HT9 := Lib.hid hT9
      have hx9 : Ext w5 w9 := hT9.one.ext
      clear hT9 hs1 hst HT8
      obtain ⟨d, hd⟩ : ∃ d, d = s1.done := ⟨_, rfl⟩
      rw [← hd]
      have HDD := Lib.hid hd
      clear hd
      have hdd : (d != d) = false := by simp
      have hps : (foundL m s1.ch).length ≤ 1000 ∧ ∀ x ∈ foundL m s1.ch, x.length ≤ 1000 := found_len HT9.out.one.good.1 HT9.out.one.good.2 HT9.out.one.inv.ch
      have HPS := Lib.hid hps
      clear hps
      clear q0 q1 q2 q3 q4 q5 qy hx hk1 hk2 hk3 hk5 hmod hnw hyw hx9
      obtain ⟨cb, hcb⟩ : ∃ cb, cb = cmpC m s1.ch := ⟨_, rfl⟩
      have hcc : (cb != cb) = false := by simp
      have HCB := Lib.hid hcb
      clear hcb
      go_wp2_with fail
      refine HT9.out.one.found.mono ?_
      rintro e wd ⟨vp, rfl, hed, hpd⟩
      rw [← HCB.out]
      have HTd := Lib.hid (HT9.out.more hed)
      have HPD := Lib.hid hpd
      clear hed hpd
      go_wp2_with fail
      obtain ⟨ok9, hq9⟩ := HTd.out.ref
      refine (qFound_calls wd hq9 hck.out HMM.out.lens HTd.out.one.inv.ch).mono ?_
      rintro e we ⟨vq, rfl, hee, hqe⟩
      rw [← HCB.out]
      have HTe := Lib.hid (HTd.out.more hee)
      have HPE := Lib.hid (HPD.out.below hee)
      have HQE := Lib.hid hqe
      clear hee hqe HTd HPD hq9
      go_wp2_with fail
      obtain ⟨vn, hc6, hnw, hc8⟩ := HTe.out.cells
      obtain ⟨st, hst⟩ : ∃ st, st = s1.steps := ⟨_, rfl⟩
      have hss : (st != st) = false := by simp
      rw [← hst] at hc8
      have HST : Hid (∀ W, Ext we W → Calls Try.prog 28 #[.pointer (some ⟨gr, 0, none⟩)] W fun e w' => e = .returned (.int .i64 st) ∧ W = w') := fun W hW => by rw [hst]; exact (HTe.out.one.more hW).stepsC
      have HCH : Hid (∀ W, Ext we W → Calls Try.prog 29 #[.pointer (some ⟨gr, 0, none⟩)] W fun e w' => ∃ v', e = .returned v' ∧ Mk W w' v' s1.ch) := fun W hW => (HTe.out.one.more hW).choices
      have HNW := Lib.hid hnw
      have hlen1 := HTe.out.one.len
      have r6 := Ext.rule hc6
      have r8 := Ext.rule hc8
      clear hst hc6 hnw hc8
      go_region_held3 (fun w' => Ext we w')
        (first | (exact (Ext.refl we).drew) | assumption | (exact Ext.trans (by assumption) hM.ext) | (exact Ext.trans (by assumption) (hdj.below _)) | (exact Ext.trans (by assumption) (hdf.below _)))
        (first
          | (go_at_call 28; refine (HST.out _ (by assumption)).mono ?_; rintro e wq2 ⟨rfl, rfl⟩)
          | (go_at_call 29; refine (HCH.out _ (by assumption)).mono ?_; rintro e wq ⟨vq9, rfl, hM⟩)
          | (go_at_call 17; refine (is_t _ rfl hM.ints (HNW.out.below (by assumption)) (by omega)).mono ?_; rintro e wj ⟨rfl, hdj⟩)
          | (go_at_call 30; refine (samePaths_t _ rfl (HPE.out.below (by assumption)) (HQE.out.below (by assumption)) HPS.out.1 HPS.out.2).mono ?_; rintro e wf ⟨rfl, hdf⟩))
      rename_i hS
      have HTf := Lib.hid (HTe.out.more hS)
      clear hS hM hdj hdf
      go_wp2_with fail
      go_roundg (5 - (k + 1))
      case measure => omega
      case rel => exact ⟨k + 1, s1, by go_num, by omega, rfl, by have := HSB.out; simpa using this, HTf.out⟩
    · have hno : decide (k < bs.length) = false ∨ (decide (k < bs.length) = true ∧ decide ((k : Int) < 5) = false) := by
        by_cases h1 : k < bs.length
        · exact .inr ⟨decide_eq_true h1, decide_eq_false (by omega)⟩
        · exact .inl (decide_eq_false h1)
      have HFIN : Hid (Ext w wr) := HEW5.out.trans hx
      clear hgo q0 q1 q2 q3 q4 q5 hx
      rcases hno with h1 | ⟨h1, h2⟩
      all_goals
        go_wp2_with fail
        go_ret
        exact ⟨rfl, HFIN.out⟩
set_option maxRecDepth 100000 in
theorem routeRuns_walk {H : Type} {enc : TypeId × Value → H} {base : Nat} {v0 v1 : Value} {d0 d1 : DataW H} {p0 p1 : List MemPlace} (W : World) (hv0 : Value.okWide Try.prog W .any base 26 v0) (h0 : DataW.Trod enc Try.prog W 0 (fun _ => true) true 26 v0 d0 p0)
    (hv1 : Value.okWide Try.prog W .any base 45 v1) (h1 : DataW.Trod enc Try.prog W 0 (fun _ => true) true 45 v1 d1 p1) :
    Calls Try.prog 4 #[v0, v1] W fun e w' => e = .returned (.bool true) ∧ Below W.heap.size W w' := by
  obtain ⟨va, o0, o1, o2, vb, ls, ns, rfl, h2, h3, h4, h5, h6, -⟩ := caseOpen h0 (caseAgg hv0)
  obtain ⟨bs, h7, h8⟩ := bytesOpen hv1 h1
  exact runs_calls o0 o1 o2 W h2 h3 h4 h5 h6 h7 h8
end Go.Proofs.Ytgpjfpcjiebjiaa
