/- Walks: the reference's chosen, complete and meets. Walks: the reference's complete, meets and Candidates. Walks: the reference's open. Walks: the reference's Open and Paths. -/
import Derived.Test.YtgpjfpcjiebjiaaGs
import Derived.Test.YtgpjfpcjiebjiaaGp
namespace Go.Proofs.Ytgpjfpcjiebjiaa
open Go.RowKit
set_option linter.unusedVariables false
set_option linter.unusedSimpArgs false
attribute [local go_sem ↓] Go.wp_at_zero Go.wp_at_succ

set_option maxHeartbeats 4000000 in
set_option maxRecDepth 100000 in
theorem qchosen_calls {ok okc : Nat → Prop} {v vc : Value} {m : MZ} {ch : List Int} (w : World) (hm : MazeV w ok v m) (hl : Lens m) (hch : Ints w okc vc ch) (hlc : ch.length ≤ 20000000000000) :
  Calls Try.prog 76 #[v, vc] w fun e w' => e = .returned (.bool (okC m ch)) ∧ Ext w w' := by
 have HMZ := Lib.hid hm
 obtain ⟨vfr, vup, vts, rfl, -, -, -⟩ := hm
 have HCH := Lib.hid hch
 obtain ⟨A, c, rfl, hcc, hr⟩ := hch
 have HR := Lib.hid hr
 have HL := Lib.hid hl
 clear hr hl
 obtain ⟨ck, hck⟩ : ∃ ck, ck = chk m := ⟨_, rfl⟩
 have HCK := Lib.hid hck; clear hck
 go_enter Try.func76, Try.ntmps76
 go_wp2_with fail
 generalize hw1 : w.alloc (.cells #[.int .i64 m.w, .int .i64 m.h, .int .i64 m.l, vfr, vup, vts] 31) = w1
 have hb1 : Ext w w1 := by rw [← hw1]; exact (Ext.refl w).alloc _
 have hgm : Blk w1 w.heap.size 31 #[.int .i64 m.w, .int .i64 m.h, .int .i64 m.l, vfr, vup, vts] := by rw [← hw1]; exact heap_alloc_new _ _
 clear hw1
 obtain ⟨m0, m1, m2, m3, m4, m5⟩ := cells6 hgm
 have c0 := Ext.rule m0
 have c1 := Ext.rule m1
 have c2 := Ext.rule m2
 have c3 := Ext.rule m3
 have c4 := Ext.rule m4
 have c5 := Ext.rule m5
 clear m0 m1 m2 m3 m4 m5 hgm
 refine (qcheck_calls w1 (HMZ.out.below hb1) HL.out).mono ?_
 rintro e w2 ⟨rfl, hx2⟩
 have hx2 : Ext w1 w2 := hx2
 have hE2 : Ext w w2 := hb1.trans hx2
 rw [← HCK.out]
 by_cases h0 : ck = 0
 case neg =>
  have hq1 : (ck == 0) = false := by rw [beq_eq_false_iff_ne]; exact h0
  have hq2 : (ck != 0) = true := by rw [bne_iff_ne]; exact h0
  have hle : Hid (okC m ch = false) := by show _ = _; unfold okC; rw [← HCK.out, decide_eq_false h0]; rfl
  clear h0
  go_wp2_with fail
  go_ret
  exact ⟨ret_bool hle.out.symm, hE2⟩
 case pos =>
  subst h0
  have HG := Lib.hid (Good.of HCK.out.symm)
  have hn1 := HG.out.dim.n1
  have hlay := HG.out.dim.layer
  have HOK : Hid (okC m ch = isChB m ch) := by show _ = _; unfold okC; rw [← HCK.out]; rfl
  go_wp2_with fail
  refine (qnodes_calls m.w m.h m.l vfr vup vts w2 (by omega) (by omega)).mono ?_
  rintro e w3 ⟨rfl, hx3⟩
  have hE3 : Ext w w3 := hE2.trans hx3
  have hE13 : Ext w1 w3 := Ext.trans ‹Ext w1 w2› hx3
  by_cases hlen : m.w * m.h * m.l < (ch.length : Int)
  ·have hgd : decide (m.w * m.h * m.l < (ch.length : Int)) = true := decide_eq_true hlen
   have hle : Hid (okC m ch = false) := by
    show _ = _
    rw [HOK.out, Bool.eq_false_iff]
    intro h
    have h1 := (isChB_iff.1 h).len HG.out
    have h2 : m.n = m.w * m.h * m.l := rfl
    omega
   go_wp2_with fail
   go_ret
   exact ⟨ret_bool hle.out.symm, hE3⟩
  ·have hgd : decide (m.w * m.h * m.l < (ch.length : Int)) = false := decide_eq_false hlen
   have hl300 : ch.length ≤ 300 := by omega
   go_wp2_with fail
   clear hgd
   go_loopw [5] (fun i wr => ∃ k : Nat, k ≤ ch.length ∧ i = .int .i64 k ∧ Hid (IsCh m (ch.take k)) ∧ Hid (Ext w1 wr)) (fun i _ => ch.length - (intOf i).toNat)
   case atStart => exact ⟨0, Nat.zero_le _, rfl, by rw [List.take_zero]; exact IsCh.nil, hE13⟩
   case round =>
    obtain ⟨k, hk, rfl, hI, hX⟩ := hrel
    obtain ⟨wk, rfl⟩ : ∃ wk : World, wk = wr := ⟨_, rfl⟩
    have hx1k : Ext w1 wk := hX.out
    by_cases hlt : k < ch.length
    ·obtain ⟨b, off, rfl, _, hcell⟩ := intsAt HR.out hlt hlt
     have HCK' := Lib.hid (intsTake HCH.out (show k ≤ ch.length by omega))
     have hsucc := Lib.hid (List.take_succ_eq_append_getElem hlt)
     have HOF : Hid (ch[k] ∉ cand m (ch.take k) → okC m ch = false) := fun hn => by
      rw [HOK.out, Bool.eq_false_iff]
      intro h
      exact hn ((isChB_iff.1 h).at hlt)
     obtain ⟨x, hxx⟩ : ∃ x, x = ch[k] := ⟨_, rfl⟩
     rw [← hxx] at hcell hsucc HOF
     clear hxx
     have rx : ∀ W, Ext w1 W → W.cell? ⟨b, off + k, none⟩ = some (.int .i64 x) := fun W hW => Ext.rule hcell W (hb1.trans hW)
     have hkk : (k : Int) ≤ (c : Int) := by omega
     have hkc : k ≤ c := by omega
     have hk0 : (0 : Int) ≤ (k : Int) := by omega
     have hk1 : (k : Int) < (ch.length : Int) := by omega
     clear hcell
     have hlc2 := cand_len HL.out (ch.take k)
     go_wp2_with fail
     go_region_held3 (fun w' => Ext w1 w' ∧ Ext wk w')
      (first | (exact ⟨hx1k.drew, (Ext.refl _).drew⟩) | (exact ⟨hx1k.drew.trans hM9.ext, (Ext.refl _).drew.trans hM9.ext⟩))
      (first | (go_at_call 78; refine (qbehind_calls _ (HMZ.out.below (hb1.trans hx1k.drew)) HG.out HL.out (HCK'.out.below (hb1.trans hx1k.drew)) hI.out).mono ?_; rintro e wn ⟨v9, rfl, hM9⟩) | (go_at_call 36; refine (has_calls x _ hM9.ints (by omega)).mono ?_; rintro e w10 ⟨rfl, rfl⟩))
     rename_i hS
     have hx1n : Ext w1 wn := hS.1
     clear hM9 hS
     by_cases hxc : x ∈ cand m (ch.take k)
     ·rw [decide_eq_true hxc]
      have hI' : Hid (IsCh m (ch.take (k + 1))) := by show IsCh _ _; rw [hsucc.out]; exact IsCh.snoc hI.out hxc
      clear hxc
      go_wp2_with fail
      go_roundw
      case rel => exact ⟨k + 1, hlt, by go_num, hI', hx1n⟩
      case measure => simp [intOf]; omega
     ·rw [decide_eq_false hxc]
      have hle := Lib.hid (HOF.out hxc)
      clear hxc
      go_wp2
      go_ret
      exact ⟨ret_bool hle.out.symm, hb1.trans hx1n⟩
    ·obtain rfl : k = ch.length := by omega
     have hle : Hid (okC m ch = true) := by
      show _ = _
      rw [HOK.out, isChB_iff]
      have := hI.out
      rwa [List.take_length] at this
     go_wp2
     go_ret
     exact ⟨ret_bool hle.out.symm, hb1.trans hx1k⟩
end Go.Proofs.Ytgpjfpcjiebjiaa

namespace Go.Proofs.Ytgpjfpcjiebjiaa
open Go.RowKit
set_option linter.unusedVariables false
set_option linter.unusedSimpArgs false
attribute [local go_sem ↓] Go.wp_at_zero Go.wp_at_succ

theorem cmp_len {m : MZ} {ch : List Int} (h : IsCh m ch) : decide (m.tasks.length < (splitL m ch).length) = cmpC m ch := by
 obtain ⟨h1, h2⟩ := splitL_len h
 cases hc : cmpC m ch
 ·have := h2 hc; exact decide_eq_false (by omega)
 ·have := h1 hc; exact decide_eq_true (by omega)

set_option maxHeartbeats 4000000 in
set_option maxRecDepth 100000 in
theorem qcomplete_calls {ok okc : Nat → Prop} {v vc : Value} {m : MZ} {ch : List Int} (w : World) (hm : MazeV w ok v m) (g : Good m) (hl : Lens m) (hch : Ints w okc vc ch) (hc : IsCh m ch) :
  Calls Try.prog 65 #[v, vc] w fun e w' => e = .returned (.bool (cmpC m ch)) ∧ Ext w w' := by
 have HMZ := Lib.hid hm
 obtain ⟨vfr, vup, vts, rfl, -, -, hts⟩ := hm
 obtain ⟨vst, ⟨At, ct, rfl, hct, -⟩, -⟩ := hts
 have HCH := Lib.hid hch
 obtain ⟨A, c, rfl, hcc, hr⟩ := hch
 have HG := Lib.hid g
 have HL := Lib.hid hl
 have HC := Lib.hid hc
 have HCL := Lib.hid (cmp_len hc)
 clear hr g hl hc
 go_enter Try.func65, Try.ntmps65
 go_wp2_with fail
 generalize hw1 : w.alloc (.cells #[.int .i64 m.w, .int .i64 m.h, .int .i64 m.l, vfr, vup, .slice At m.tasks.length ct] 31) = w1
 have hb1 : Ext w w1 := by rw [← hw1]; exact (Ext.refl w).alloc _
 have hgm : Blk w1 w.heap.size 31 #[.int .i64 m.w, .int .i64 m.h, .int .i64 m.l, vfr, vup, .slice At m.tasks.length ct] := by rw [← hw1]; exact heap_alloc_new _ _
 clear hw1
 obtain ⟨m0, m1, m2, m3, m4, m5⟩ := cells6 hgm
 have c0 := Ext.rule m0
 have c1 := Ext.rule m1
 have c2 := Ext.rule m2
 have c3 := Ext.rule m3
 have c4 := Ext.rule m4
 have c5 := Ext.rule m5
 clear m0 m1 m2 m3 m4 m5 hgm
 have hx1 : Ext w1 w1 := Ext.refl w1
 go_wp2_with fail
 have hlen2 := splitL_len HC.out
 have hlT : (splitL m ch).length ≤ 7 := by
  have := HG.out.tk
  cases h : cmpC m ch
  ·have := hlen2.2 h; omega
  ·have := hlen2.1 h; omega
 clear hlen2
 go_region_held3 (fun w' => Ext w1 w')
  (first | (exact hx1.drew) | (exact hx1.drew.trans hb9))
  ((go_at_call 77; refine (qsplit_calls _ (HMZ.out.below (hb1.trans hx1.drew)) HG.out HL.out (HCH.out.below (hb1.trans hx1.drew)) HC.out).mono ?_; rintro e w9 ⟨v9, rfl, hb9, ⟨vs9, ⟨A9, c9, rfl, hc9, -⟩, -⟩⟩; have hb9 : Ext _ _ := hb9))
 rename_i hS
 clear hlT
 go_wp2_with fail
 go_ret
 exact ⟨ret_bool HCL.out, hb1.trans hS⟩

set_option maxHeartbeats 4000000 in
set_option maxRecDepth 100000 in
theorem qmeets_calls {ok ok' : Nat → Prop} {va vb : Value} {a b : List Int} (w : World) (ha : Ints w ok va a) (hb : Ints w ok' vb b) (hla : a.length ≤ 20000000000000) (hlb : b.length ≤ 20000000000000) :
  Calls Try.prog 95 #[va, vb] w fun e w' => e = .returned (.bool (a.any fun x => decide (x ∈ b))) ∧ Drew w w' := by
 have HB := Lib.hid hb
 obtain ⟨A2, c2, rfl, hc2, -⟩ := hb
 obtain ⟨A, c, rfl, hc, hr⟩ := ha
 have HR := Lib.hid hr; clear hr
 go_enter Try.func95, Try.ntmps95
 go_wp2_with fail
 go_loopw [5] (fun i wr => ∃ k : Nat, k ≤ a.length ∧ i = .int .i64 k ∧ Hid ((a.take k).any (fun x => decide (x ∈ b)) = false) ∧ Hid (Drew w wr)) (fun i _ => a.length - (intOf i).toNat)
 case atStart => exact ⟨0, Nat.zero_le _, rfl, rfl, Drew.refl w⟩
 case round =>
  obtain ⟨k, hk, rfl, hn, hD⟩ := hrel
  by_cases hlt : k < a.length
  ·obtain ⟨bb, off, rfl, _, hcell⟩ := intsAt HR.out hlt hlt
   have hsucc := Lib.hid (List.take_succ_eq_append_getElem hlt)
   have HM : Hid (a[k] ∈ a) := List.getElem_mem hlt
   obtain ⟨x, hx⟩ : ∃ x, x = a[k] := ⟨_, rfl⟩
   rw [← hx] at hcell hsucc HM
   clear hx
   have rx := Ext.rule hcell
   have hxr : Ext w wr := hD.out.below _
   clear hcell
   go_wp2_with fail
   refine (has_calls x wr (HB.out.below hxr) hlb).mono ?_
   rintro e w9 ⟨rfl, rfl⟩
   by_cases hxb : x ∈ b
   ·rw [decide_eq_true hxb]
    have HXB := Lib.hid hxb
    clear hxb
    go_wp2_with fail
    go_ret
    exact ⟨ret_bool (by rw [eq_comm, List.any_eq_true]; exact ⟨x, HM.out, by simpa using HXB.out⟩), hD.out⟩
   ·rw [decide_eq_false hxb]
    have hn' : Hid ((a.take (k + 1)).any (fun x => decide (x ∈ b)) = false) := by
     show _ = _
     rw [hsucc.out, List.any_append, hn.out]
     simpa using hxb
    clear hxb
    go_wp2_with fail
    go_roundw
    case rel => exact ⟨k + 1, hlt, by go_num, hn', hD⟩
    case measure => simp [intOf]; omega
  ·obtain rfl : k = a.length := by omega
   go_wp2
   go_ret
   exact ⟨ret_bool (by have h := hn.out; rw [List.take_length] at h; rw [h]), hD.out⟩

set_option maxHeartbeats 4000000 in
set_option maxRecDepth 100000 in
theorem qCandidates_calls {ok okc : Nat → Prop} {v vc : Value} {m : MZ} {ch : List Int} (w : World) (hm : MazeV w ok v m) (hl : Lens m) (hch : Ints w okc vc ch) (hlc : ch.length ≤ 20000000000000) :
  Calls Try.prog 42 #[v, vc] w fun e w' => ∃ v', e = .returned v' ∧ Mk w w' v' (candO m ch) := by
 have HMZ := Lib.hid hm
 obtain ⟨vfr, vup, vts, rfl, -, -, -⟩ := hm
 have HCH := Lib.hid hch
 obtain ⟨A, c, rfl, hcc, -⟩ := hch
 have HL := Lib.hid hl
 clear hl
 obtain ⟨bb, hbb⟩ : ∃ bb, bb = okC m ch := ⟨_, rfl⟩
 have HBB := Lib.hid hbb; clear hbb
 go_enter Try.func42, Try.ntmps42
 go_wp2_with fail
 generalize hw1 : w.alloc (.cells #[.int .i64 m.w, .int .i64 m.h, .int .i64 m.l, vfr, vup, vts] 31) = w1
 have hb1 : Ext w w1 := by rw [← hw1]; exact (Ext.refl w).alloc _
 have hgm : Blk w1 w.heap.size 31 #[.int .i64 m.w, .int .i64 m.h, .int .i64 m.l, vfr, vup, vts] := by rw [← hw1]; exact heap_alloc_new _ _
 clear hw1
 obtain ⟨m0, m1, m2, m3, m4, m5⟩ := cells6 hgm
 have c0 := Ext.rule m0
 have c1 := Ext.rule m1
 have c2 := Ext.rule m2
 have c3 := Ext.rule m3
 have c4 := Ext.rule m4
 have c5 := Ext.rule m5
 clear m0 m1 m2 m3 m4 m5 hgm
 refine (qchosen_calls w1 (HMZ.out.below hb1) HL.out (HCH.out.below hb1) hlc).mono ?_
 rintro e w2 ⟨rfl, hx2⟩
 rw [← HBB.out]
 cases bb
 ·have HCO : Hid (candO m ch = []) := by show _ = _; unfold candO; rw [← HBB.out]; rfl
  go_wp2_with fail
  go_ret
  exact ⟨_, rfl, by rw [HCO.out]; exact Mk.nil' (hb1.trans hx2)⟩
 ·have HCO : Hid (candO m ch = cand m ch) := by show _ = _; unfold candO; rw [← HBB.out]; rfl
  obtain ⟨hg, hc⟩ := okC_true HBB.out.symm
  have HG := Lib.hid hg
  have HC := Lib.hid hc
  clear hg hc
  go_wp2_with fail
  refine (qbehind_calls w2 (HMZ.out.below (hb1.trans hx2)) HG.out HL.out (HCH.out.below (hb1.trans hx2)) HC.out).mono ?_
  rintro e w3 ⟨v3, rfl, hM⟩
  have HM := Lib.hid ((hb1.trans hx2).mono_mk hM)
  clear hM
  go_wp2_with fail
  go_ret
  exact ⟨_, rfl, by rw [HCO.out]; exact HM.out⟩
end Go.Proofs.Ytgpjfpcjiebjiaa

namespace Go.Proofs.Ytgpjfpcjiebjiaa
open Go.RowKit
set_option linter.unusedVariables false
set_option linter.unusedSimpArgs false
attribute [local go_sem ↓] Go.wp_at_zero Go.wp_at_succ

theorem reachL_le (m : MZ) (t : Nat) (f us : List Int) (g : Good m) : (reachL m t f us).length ≤ 20000000000000 := by
 unfold reachL
 refine Nat.le_trans (List.length_filter_le _ _) ?_
 have h1 := g.dim.n1
 have h2 : m.n = m.w * m.h * m.l := rfl
 simp
 omega
theorem ints_last {w : World} {ok : Nat → Prop} {b o n c : Nat} {q : List Int} {y : Int} (h : Ints w ok (.slice (some ⟨b, o, none⟩) n c) (q ++ [y])) : Ints w ok (.slice (some ⟨b, o + q.length, none⟩) 1 (c - q.length)) [y] := by
 obtain ⟨A', c', e, hc, hl, hr⟩ := h
 injection e with e1 e2 e3
 subst e1 e2 e3
 obtain ⟨b1, o1, e, hb, hcell⟩ := hr (by simp)
 injection e with e
 injection e with e1 e2
 subst e1 e2
 refine ⟨some ⟨b, o + q.length, none⟩, c - q.length, rfl, by simp at hc ⊢; omega, rfl, fun _ => ⟨b, o + q.length, rfl, hb, fun j u hu => ?_⟩⟩
 match j, hu with
 | 0, hu =>
  have : u = .int .i64 y := by simpa using hu.symm
  subst this
  exact hcell q.length _ (by simp)

set_option maxHeartbeats 4000000 in
set_option maxRecDepth 100000 in
theorem qopen_calls {ok okc : Nat → Prop} {v vc : Value} {m : MZ} {ch : List Int} (w : World) (hm : MazeV w ok v m) (g : Good m) (hl : Lens m) (hch : Ints w okc vc ch) (hc : IsCh m ch) :
  Calls Try.prog 79 #[v, vc] w fun e w' => e = .returned (.bool (openC m ch)) ∧ Ext w w' := by
 have hlen := hc.len300 g
 have HMZ := Lib.hid hm
 obtain ⟨vfr, vup, vts, rfl, hfr, _, hts⟩ := hm
 obtain ⟨vsf, ⟨Af, cf, rfl, hcf, hrf⟩, hef⟩ := hfr
 have HTS := Lib.hid hts
 obtain ⟨vst, ⟨At, ct, rfl, hct, -⟩, -⟩ := hts
 have HCH := Lib.hid hch
 obtain ⟨A, c, rfl, hcc, hr⟩ := hch
 have HRF := Lib.hid hrf
 have HEF := Lib.hid hef
 have HC := Lib.hid hc
 have HL := Lib.hid hl
 have HG := Lib.hid g
 have htk := g.tk
 have HFL := Lib.hid g.fl
 have hfl : m.free.length ≤ 6 := by rw [g.fl]; exact g.tk
 have hwh := g.dim.layer
 have hn1 := g.dim.n1
 obtain ⟨hl1, hl2⟩ := hwh
 clear hr hc g hl hrf hef
 go_enter Try.func79, Try.ntmps79
 go_wp2_with fail
 generalize hw1 : w.alloc (.cells #[.int .i64 m.w, .int .i64 m.h, .int .i64 m.l, .slice Af m.free.length cf, vup, .slice At m.tasks.length ct] 31) = w1
 have hb1 : Ext w w1 := by rw [← hw1]; exact (Ext.refl w).alloc _
 have hgm : Blk w1 w.heap.size 31 #[.int .i64 m.w, .int .i64 m.h, .int .i64 m.l, .slice Af m.free.length cf, vup, .slice At m.tasks.length ct] := by rw [← hw1]; exact heap_alloc_new _ _
 clear hw1
 obtain ⟨m0, m1, m2, m3, m4, m5⟩ := cells6 hgm
 have c0 := Ext.rule m0
 have c1 := Ext.rule m1
 have c2 := Ext.rule m2
 have c3 := Ext.rule m3
 have c4 := Ext.rule m4
 have c5 := Ext.rule m5
 clear m0 m1 m2 m3 m4 m5 hgm
 refine (qsplit_calls w1 (HMZ.out.below hb1) HG.out HL.out (HCH.out.below hb1) HC.out).mono ?_
 rintro e w2 ⟨v2, rfl, hx2, hps⟩
 have hx : Ext w1 w2 := hx2
 have HPS := Lib.hid hps
 obtain ⟨vs, ⟨Ap, cp, rfl, hcp, hrp⟩, hep⟩ := hps
 have HRP := Lib.hid hrp
 have HEP := Lib.hid hep
 clear hrp hep
 have hsl := splitL_len HC.out
 have hp0 : 0 < (splitL m ch).length := by
  cases h : cmpC m ch
  ·exact (hsl.2 h).2
  ·have := hsl.1 h; omega
 have hp7 : (splitL m ch).length ≤ 7 := by
  cases h : cmpC m ch
  ·have := (hsl.2 h).1; omega
  ·have := hsl.1 h; omega
 obtain ⟨t0, ht0⟩ : ∃ t0, (splitL m ch).length = t0 + 1 := ⟨(splitL m ch).length - 1, by omega⟩
 have HT0 := Lib.hid ht0
 rw [ht0] at hcp ⊢
 have ht6 : t0 ≤ 6 := by omega
 clear ht0 hp0 hp7 hsl
 go_wp2_with fail
 go_loopw [6] (fun i wr => ∃ t : Nat, t0 ≤ t ∧ i = .int .i64 t ∧ Hid (∀ t', t0 ≤ t' → t' < t → openT m (psOf m ch) ch t' = true) ∧ Hid (Ext w2 wr)) (fun i _ => m.tasks.length - (intOf i).toNat)
 case atStart => exact ⟨t0, Nat.le_refl _, rfl, fun t' h1 h2 => by omega, Ext.refl _⟩
 case round =>
  obtain ⟨t, htt, rfl, hO, hX⟩ := hrel
  obtain ⟨wk, rfl⟩ : ∃ wk : World, wk = wr := ⟨_, rfl⟩
  have hx2k : Ext w2 wk := hX.out
  have hx1k : Ext w1 wk := hx.trans hx2k
  by_cases hlt : t < m.tasks.length
  ·have hcm : cmpC m ch = false := by
    cases h : cmpC m ch
    ·rfl
    ·have := (splitL_len HC.out).1 h
     have := HT0.out
     omega
   obtain ⟨qs, p, hps1, hqt, hsp⟩ := ps_form HC.out hcm
   have hq0 : t0 = qs.length := by have := HT0.out; rw [hsp] at this; simp at this; omega
   obtain ⟨bt, offt, sn, u1, u2, rfl, _, hc0, hc1, hc2, hi1, hi2⟩ := tasksAt HTS.out hlt
   have hlt12 := HL.out.tl _ (List.getElem_mem hlt)
   have hmr : ∀ x, x ∈ (m.tasks[t]).1 → 0 ≤ x ∧ x < m.n := fun x h => HG.out.tn _ (List.getElem_mem hlt) x (.inl h)
   have HPSF := Lib.hid hps1
   have HOT : Hid (openT m (psOf m ch) ch t = (reachL m t (fromL m (psOf m ch) ch t) ch).any fun x => decide (x ∈ (m.tasks[t]).2)) := by
    show _ = _
    unfold openT
    have h1 : m.tasks.getD t ([], []) = m.tasks[t] := by simp [hlt]
    rw [h1, any_comm]
   have HOF : Hid (openT m (psOf m ch) ch t = false → openC m ch = false) := fun h => openC_false HC.out (by have := HT0.out; omega) hlt h
   have htd : (m.tasks.getD t ([], [])).1 = (m.tasks[t]).1 := by simp [hlt]
   have HFR0 : Hid (t ≠ qs.length ∨ p = [] → fromL m (psOf m ch) ch t = ((m.tasks[t]).1).filter fun n => freeAt m t n && !decide (n ∈ ch)) := fun h => by rw [fromL_off HPSF.out h, htd]
   obtain ⟨fm, hfm⟩ : ∃ fm, fm = (m.tasks[t]).1 := ⟨_, rfl⟩
   obtain ⟨tg, htg⟩ : ∃ tg, tg = (m.tasks[t]).2 := ⟨_, rfl⟩
   rw [← hfm] at hi1 hlt12 HFR0 hmr
   rw [← htg] at hi2 hlt12 HOT
   have hlf : (fromL m (psOf m ch) ch t).length ≤ 20000000000000 := fromL_len (HC.out.sok HG.out HL.out) hlt
   have hqf : t < m.free.length := by rw [HFL.out]; exact hlt
   obtain ⟨bf, off3, uf, rfl, _, hcf1, hbf⟩ := eachAt HRF.out HEF.out hqf hqf
   have hflen := HG.out.fn _ (List.getElem_mem hqf)
   obtain ⟨A4, c4, rfl, hc4, hr4⟩ := hbf
   have HR4 := Lib.hid hr4; clear hr4
   have HFA : Hid (∀ x : Nat, (hx : x < (m.free[t]).length) → (m.free[t])[x] = freeAt m t (x : Int)) := fun x hx => by simp [freeAt, hqf, hx]
   obtain ⟨fl, hfl9⟩ : ∃ fl, fl = m.free[t] := ⟨_, rfl⟩
   rw [← hfl9] at hcf1 hflen hc4 HR4
   have HFA' : Hid (∀ x : Nat, (hx : x < fl.length) → fl[x] = freeAt m t (x : Int)) := by subst hfl9; exact HFA
   have HHF : Hid (∀ u k, u < m.free.length → m.free[u]? = some k → (k.length : Int) = m.n) := fun u k hu hk => HG.out.fn _ (List.mem_of_getElem? hk)
   have HFN : Hid ((fl.length : Int) = m.n) := hflen
   have HI1 := Lib.hid hi1
   have HI2 := Lib.hid hi2
   have rt1 : ∀ W, Ext w1 W → W.cell? ⟨bt, offt + t * 3 + 1, none⟩ = some u1 := fun W hW => Ext.rule hc1 W (hb1.trans hW)
   have rt2 : ∀ W, Ext w1 W → W.cell? ⟨bt, offt + t * 3 + 2, none⟩ = some u2 := fun W hW => Ext.rule hc2 W (hb1.trans hW)
   have rf : ∀ W, Ext w1 W → W.cell? ⟨bf, off3 + t, none⟩ = some (.slice A4 fl.length c4) := fun W hW => Ext.rule hcf1 W (hb1.trans hW)
   have HMR := Lib.hid hmr
   obtain ⟨hlt1, hlt2⟩ := hlt12
   clear HFA hfl9 hfm htg htd hc0 hc1 hc2 hi1 hi2 hcf1 hflen hmr hps1 hcm
   obtain ⟨bA, hbA⟩ : ∃ bA, bA = decide (t = qs.length ∧ p ≠ []) := ⟨_, rfl⟩
   have HBA := Lib.hid hbA; clear hbA
   have HSP := Lib.hid hsp; clear hsp
   have HQ0 := Lib.hid hq0; clear hq0
   clear hqt
   go_upto_region 6 with fail
   go_cut [34] (fun s wx => s = .bool bA ∧ wk = wx)
   case first =>
    by_cases htq : t = t0
    ·subst htq
     obtain ⟨bp, ofp, up, e1, _, hcu, hup⟩ := eachAt HRP.out HEP.out (k := t) (by have := HT0.out; omega) (by have := HT0.out; omega)
     subst e1
     have hgp : (splitL m ch)[t]'(by have := HT0.out; omega) = p := by
      have h1 := HQ0.out
      subst h1
      simp only [HSP.out]
      simp
     rw [hgp] at hup
     obtain ⟨Aq, cq, rfl, hcq, -⟩ := hup
     have ru := Ext.rule hcu
     have hq3 : (t : Int) < (t : Int) + 1 := by omega
     clear hcu hgp
     have hBB : bA = decide (p ≠ []) := by rw [HBA.out, HQ0.out]; simp
     rcases List.eq_nil_or_concat p with rfl | ⟨q, y, rfl⟩
     ·have hBB2 : bA = false := by rw [hBB]; simp
      clear hBB
      subst hBB2
      have hz : ([] : List Int).length = 0 := rfl
      rw [hz] at ru hcq
      go_wp2_with fail
      go_meet
      exact ⟨rfl, rfl⟩
     ·have hBB2 : bA = true := by rw [hBB]; simp
      clear hBB
      subst hBB2
      have hpl : (q.concat y).length = q.length + 1 := by simp
      rw [hpl] at ru hcq
      clear hpl
      have hq4 : (0 : Int) < (q.length : Int) + 1 := by omega
      have hq5 : decide ((0 : Int) < (q.length : Int) + 1) = true := decide_eq_true hq4
      go_wp2_with fail
      go_meet
      exact ⟨rfl, rfl⟩
    ·have hBB : bA = false := by rw [HBA.out]; exact decide_eq_false (fun h => htq (by rw [HQ0.out]; exact h.1))
     subst hBB
     have hq4 : ¬ ((t : Int) < (t0 : Int) + 1) := by omega
     have hq5 : decide ((t : Int) < (t0 : Int) + 1) = false := decide_eq_false hq4
     go_wp2_with fail
     go_meet
     exact ⟨rfl, rfl⟩
   case rest =>
    obtain ⟨rfl, rfl⟩ := hcut
    cases bA
    ·have HFE := Lib.hid (HFR0.out (by
      have h1 := HBA.out.symm
      rw [decide_eq_false_iff_not] at h1
      by_cases h2 : t = qs.length
      ·right
       exact Decidable.byContradiction fun h3 => h1 ⟨h2, h3⟩
      ·exact .inl h2))
     obtain ⟨PR, hPR⟩ : ∃ PR : Int → Bool, PR = fun n => freeAt m t n && !decide (n ∈ ch) := ⟨_, rfl⟩
     rw [← hPR] at HFE
     have HPR := Lib.hid hPR
     have HI1' := HI1
     obtain ⟨Am, cm, rfl, hcm, hrm⟩ := HI1'.out
     have HRM := Lib.hid hrm
     have hM0 : Hid (Mk wk wk (.slice none 0 0) ((fm.take 0).filter PR)) := Mk.nil wk
     clear hPR HI1' hrm HFR0
     go_wp2_with fail
     go_loopw [7, 8] (fun v i wr => ∃ k : Nat, k ≤ fm.length ∧ i = .int .i64 k ∧ Hid (Mk wk wr v ((fm.take k).filter PR))) (fun _ i _ => fm.length - (intOf i).toNat)
     case atStart => exact ⟨0, Nat.zero_le _, rfl, hM0⟩
     clear hM0
     case round =>
      obtain ⟨k, hk, rfl, hM⟩ := hrel
      obtain ⟨wj, rfl⟩ : ∃ wj : World, wj = wr := ⟨_, rfl⟩
      have hxkj : Ext wk wj := hM.out.ext
      have hx1j : Ext w1 wj := hx1k.trans hxkj
      by_cases hlk : k < fm.length
      ·obtain ⟨b3, off3', e3, _, hcell⟩ := intsAt HRM.out hlk hlk
       subst e3
       have hstep : (fm.take (k + 1)).filter PR = (fm.take k).filter PR ++ [fm[k]].filter PR := by
        rw [List.take_succ_eq_append_getElem hlk, List.filter_append]
       have hxr : 0 ≤ fm[k] ∧ fm[k] < m.n := HMR.out _ (List.getElem_mem hlk)
       obtain ⟨x, hxx⟩ : ∃ x, x = fm[k] := ⟨_, rfl⟩
       rw [← hxx] at hcell hstep hxr
       have HS := Lib.hid hstep; clear hstep hxx
       obtain ⟨X, hX⟩ : ∃ X : Nat, (X : Int) = x := ⟨x.toNat, by omega⟩
       have hkl : X < fl.length := by have := HFN.out; omega
       obtain ⟨b4, off4, e4, _, hcf2⟩ := boolsAt HR4.out hkl hkl
       rw [HFA'.out X hkl] at hcf2
       subst e4
       subst hX
       have rb : ∀ W, Ext w1 W → W.cell? ⟨b4, off4 + X, none⟩ = some (.bool (freeAt m t (X : Int))) := fun W hW => Ext.rule hcf2 W (hb1.trans hW)
       have rx : ∀ W, Ext w1 W → W.cell? ⟨b3, off3' + k, none⟩ = some (.int .i64 (X : Int)) := fun W hW => Ext.rule hcell W (hb1.trans hW)
       have hX0 : (0 : Int) ≤ (X : Int) := by omega
       have hX1 : (X : Int) < (fl.length : Int) := by omega
       have hlk2 : ((fm.take k).filter PR).length ≤ k := Nat.le_trans (List.length_filter_le _ _) (by simp; omega)
       obtain ⟨lk, hlk0⟩ : ∃ lk, lk = (fm.take k).filter PR := ⟨_, rfl⟩
       rw [← hlk0] at hM hlk2 HS
       clear hcell hcf2 hlk0 hxr
       have HH2 : Hid (∀ W, Ext w1 W → Calls Try.prog 36 #[.slice A ch.length c, .int .i64 X] W fun e w' => e = .returned (.bool (decide ((X : Int) ∈ ch))) ∧ W = w') := fun W hW => has_calls _ W (HCH.out.below (hb1.trans hW)) (by omega)
       have HPK : Hid (PR X = (freeAt m t X && !decide ((X : Int) ∈ ch))) := by rw [HPR.out]; rfl
       generalize decide ((X : Int) ∈ ch) = d2 at HH2 HPK
       generalize freeAt m t (X : Int) = d3 at rb HPK
       cases d3 <;> cases d2
       ·have HS' : Hid ((fm.take (k + 1)).filter PR = lk) := by rw [HS.out, List.filter_cons_of_neg (by rw [HPK.out]; simp), List.filter_nil, List.append_nil]; exact (by rfl : lk = lk)
        go_wp2_with fail
        go_roundw
        case rel => exact ⟨k + 1, hlk, by go_num, by rw [HS'.out]; exact hM⟩
        case measure => simp [intOf]; omega
       ·have HS' : Hid ((fm.take (k + 1)).filter PR = lk) := by rw [HS.out, List.filter_cons_of_neg (by rw [HPK.out]; simp), List.filter_nil, List.append_nil]; exact (by rfl : lk = lk)
        go_wp2_with fail
        go_roundw
        case rel => exact ⟨k + 1, hlk, by go_num, by rw [HS'.out]; exact hM⟩
        case measure => simp [intOf]; omega
       ·have HS' : Hid ((fm.take (k + 1)).filter PR = lk ++ [(X : Int)]) := by rw [HS.out, List.filter_cons_of_pos (by rw [HPK.out]; rfl), List.filter_nil]; exact rfl
        go_wp2_with fail
        refine (HH2.out _ hx1j).mono ?_
        rintro e w8 ⟨rfl, rfl⟩
        go_wp2_with (at_builtin; refine wpAppAt rfl _ _ rfl _ lk (X : Int) wk.heap.size wj.heap.size 1 _ rfl rfl (hM.out.own.alloc _) ?d1 ?d2 ?d3 ?_)
        (try case d1 => exact cell_new _ _ _ (by simp))
        case d2 => (first | (simp; done) | (have := hxkj.size; simp; omega) | (have := hxkj.size; omega))
        case d3 => omega
        intro v' wb hob hgb hbl
        have hM'' := Lib.hid ((hM.out.alloc _).app hob hgb)
        clear hob hgb hbl
        go_wp2
        go_roundw
        case rel => exact ⟨k + 1, hlk, by go_num, by rw [HS'.out]; exact hM''⟩
        case measure => simp [intOf]; omega
       ·have HS' : Hid ((fm.take (k + 1)).filter PR = lk) := by rw [HS.out, List.filter_cons_of_neg (by rw [HPK.out]; simp), List.filter_nil, List.append_nil]; exact (by rfl : lk = lk)
        go_wp2_with fail
        refine (HH2.out _ hx1j).mono ?_
        rintro e w8 ⟨rfl, rfl⟩
        go_wp2_with fail
        go_roundw
        case rel => exact ⟨k + 1, hlk, by go_num, by rw [HS'.out]; exact hM⟩
        case measure => simp [intOf]; omega
      ·obtain rfl : k = fm.length := by omega
       rw [List.take_length] at hM
       have HFI : Hid (Ints wj (fun b => wk.heap.size ≤ b) u7 (fromL m (psOf m ch) ch t)) := by rw [HFE.out]; exact hM.out.ints
       obtain ⟨A7, c7, e7, hc7⟩ := hM.out.slice
       subst e7
       have hx1z := hx1j
       have hx2z := hx2k.trans hxkj
       go_wp2_with fail
       go_region_held3 (fun w' => Ext w1 w' ∧ Ext w2 w')
        (first | (exact ⟨hx1z.drew, hx2z.drew⟩) | (exact ⟨hx1z.drew.trans hM9.ext, hx2z.drew.trans hM9.ext⟩) | (exact ⟨(hx1z.drew.trans hM9.ext).trans (hD10.below _), (hx2z.drew.trans hM9.ext).trans (hD10.below _)⟩))
        (first | (go_at_call 59; refine (qreach_calls t _ (HMZ.out.below (hb1.trans hx1z.drew)) HG.out.dim hqf HG.out.fn (HFI.out.below ((Ext.refl _).drew)) hlf (HCH.out.below (hb1.trans hx1z.drew)) (by omega)).mono ?_; rintro e wn ⟨v9, rfl, hM9⟩) | (go_at_call 95; refine (qmeets_calls _ hM9.ints (HI2.out.below (hb1.trans (hx1z.drew.trans hM9.ext))) (reachL_le _ _ _ _ HG.out) (by omega)).mono ?_; rintro e w10 ⟨rfl, hD10⟩))
       rename_i hS
       obtain ⟨hx1n, hx2n⟩ := hS
       clear hM9 hD10
       rw [← HOT.out]
       cases hot : openT m (psOf m ch) ch t
       ·have HOP : Hid (openC m ch = false) := HOF.out hot
        clear hot
        go_wp2
        go_ret
        exact ⟨ret_bool HOP.out.symm, hb1.trans hx1n⟩
       ·have HO' : Hid (∀ t', t0 ≤ t' → t' < t + 1 → openT m (psOf m ch) ch t' = true) := fun t' h1 h2 => by
         rcases Nat.lt_or_ge t' t with h3 | h3
         ·exact hO.out t' h1 h3
         ·obtain rfl : t' = t := by omega
          exact hot
        clear hot
        go_wp2_with fail
        go_roundw
        case rel => exact ⟨t + 1, by omega, by go_num, HO', hx2n⟩
        case measure => simp [intOf]; omega
    ·obtain ⟨hAt, hAp⟩ : t = qs.length ∧ p ≠ [] := by have h1 := HBA.out.symm; rwa [decide_eq_true_eq] at h1
     obtain ⟨bp, ofp, up, e1, _, hcu, hup⟩ := eachAt HRP.out HEP.out (k := t) (by have := HT0.out; have := HQ0.out; omega) (by have := HT0.out; have := HQ0.out; omega)
     subst e1
     have hgp : (splitL m ch)[t]'(by have := HT0.out; have := HQ0.out; omega) = p := by
      simp only [HSP.out, hAt]
      simp
     rw [hgp] at hup
     rcases List.eq_nil_or_concat p with rfl | ⟨q, y, rfl⟩
     ·exact absurd rfl hAp
     rw [List.concat_eq_append] at *
     have HF1 : Hid (fromL m (psOf m ch) ch t = [y]) := by show _ = _; rw [hAt]; exact fromL_on HPSF.out
     have HTT := Lib.hid hAt
     have hpl3 : q.length + 1 ≤ 300 := by
      have h5 := HC.out.psOk.fl
      have h6 := flat_le (ps := psOf m ch) (p := q ++ [y]) (by rw [HPSF.out]; simp)
      rw [h5] at h6
      simp at h6
      omega
     have HUP := Lib.hid hup
     obtain ⟨Aq, cq, rfl, hcq, hrq⟩ := hup
     obtain ⟨bq, ofq, rfl, _, _⟩ := intsAt hrq (k := q.length) (by simp) (by simp)
     have hpl : (q ++ [y]).length = q.length + 1 := by simp
     have HLST := Lib.hid (ints_last HUP.out)
     have ru := Ext.rule hcu
     rw [hpl] at ru hcq
     have htt0 : t = t0 := by rw [hAt]; exact HQ0.out.symm
     subst htt0
     have hq3 : (t : Int) < (t : Int) + 1 := by omega
     have hqw : IntKind.i64.wrap ((q.length : Int) + 1 - 1) = (q.length : Int) := by rw [IntKind.wrap_i64]; omega
     have hq6 : (q.length : Int) ≤ (q.length : Int) + 1 := by omega
     have hq7 : q.length + 1 - q.length = 1 := by omega
     clear hAt hAp hgp hrq hcu hpl HUP HFR0
     go_wp2_with fail
     go_quiet (fail)
     generalize hwz : wk.drewN nq = wz
     have hEz : Ext wk wz := by rw [← hwz]; exact (Ext.refl wk).drewN _
     clear hwz
     have hx1z : Ext w1 wz := hx1k.trans hEz
     have hx2z : Ext w2 wz := hx2k.trans hEz
     have HFI : Hid (Ints wz (fun b => w1.heap.size ≤ b) (.slice (some ⟨bq, ofq + q.length, none⟩) 1 (cq - q.length)) (fromL m (psOf m ch) ch t)) := by
      show Ints _ _ _ _
      rw [HF1.out]
      exact HLST.out.below (hx2k.trans hEz)
     go_wp2_with fail
     go_region_held3 (fun w' => Ext w1 w' ∧ Ext w2 w')
      (first | (exact ⟨hx1z.drew, hx2z.drew⟩) | (exact ⟨hx1z.drew.trans hM9.ext, hx2z.drew.trans hM9.ext⟩) | (exact ⟨(hx1z.drew.trans hM9.ext).trans (hD10.below _), (hx2z.drew.trans hM9.ext).trans (hD10.below _)⟩))
      (first | (go_at_call 59; refine (qreach_calls t _ (HMZ.out.below (hb1.trans hx1z.drew)) HG.out.dim hqf HG.out.fn (HFI.out.below ((Ext.refl _).drew)) hlf (HCH.out.below (hb1.trans hx1z.drew)) (by omega)).mono ?_; rintro e wn ⟨v9, rfl, hM9⟩) | (go_at_call 95; refine (qmeets_calls _ hM9.ints (HI2.out.below (hb1.trans (hx1z.drew.trans hM9.ext))) (reachL_le _ _ _ _ HG.out) (by omega)).mono ?_; rintro e w10 ⟨rfl, hD10⟩))
     rename_i hS
     obtain ⟨hx1n, hx2n⟩ := hS
     clear hM9 hD10
     rw [← HOT.out]
     cases hot : openT m (psOf m ch) ch t
     ·have HOP : Hid (openC m ch = false) := HOF.out hot
      clear hot
      go_wp2
      go_ret
      exact ⟨ret_bool HOP.out.symm, hb1.trans hx1n⟩
     ·have HO' : Hid (∀ t', t ≤ t' → t' < t + 1 → openT m (psOf m ch) ch t' = true) := fun t' h1 h2 => by
       rcases Nat.lt_or_ge t' t with h3 | h3
       ·exact hO.out t' h1 h3
       ·obtain rfl : t' = t := by omega
        exact hot
      clear hot
      go_wp2_with fail
      go_roundw
      case rel => exact ⟨t + 1, by omega, by go_num, HO', hx2n⟩
      case measure => simp [intOf]; omega
  ·have hOP : Hid (openC m ch = true) := openC_true HC.out (fun t' h1 h2 => hO.out t' (by have := HT0.out; omega) (by omega))
   go_wp2
   go_ret
   exact ⟨ret_bool hOP.out.symm, hb1.trans hx1k⟩
end Go.Proofs.Ytgpjfpcjiebjiaa

namespace Go.Proofs.Ytgpjfpcjiebjiaa
open Go.RowKit
set_option linter.unusedVariables false
set_option linter.unusedSimpArgs false
attribute [local go_sem ↓] Go.wp_at_zero Go.wp_at_succ

set_option maxHeartbeats 4000000 in
set_option maxRecDepth 100000 in
theorem qOpen_calls {ok okc : Nat → Prop} {v vc : Value} {m : MZ} {ch : List Int} (w : World) (hm : MazeV w ok v m) (hl : Lens m) (hch : Ints w okc vc ch) (hlc : ch.length ≤ 20000000000000) :
  Calls Try.prog 43 #[v, vc] w fun e w' => e = .returned (.bool (openO m ch)) ∧ Ext w w' := by
 have HMZ := Lib.hid hm
 obtain ⟨vfr, vup, vts, rfl, -, -, -⟩ := hm
 have HCH := Lib.hid hch
 obtain ⟨A, c, rfl, hcc, -⟩ := hch
 have HL := Lib.hid hl
 clear hl
 obtain ⟨bb, hbb⟩ : ∃ bb, bb = okC m ch := ⟨_, rfl⟩
 have HBB := Lib.hid hbb; clear hbb
 go_enter Try.func43, Try.ntmps43
 go_wp2_with fail
 generalize hw1 : w.alloc (.cells #[.int .i64 m.w, .int .i64 m.h, .int .i64 m.l, vfr, vup, vts] 31) = w1
 have hb1 : Ext w w1 := by rw [← hw1]; exact (Ext.refl w).alloc _
 have hgm : Blk w1 w.heap.size 31 #[.int .i64 m.w, .int .i64 m.h, .int .i64 m.l, vfr, vup, vts] := by rw [← hw1]; exact heap_alloc_new _ _
 clear hw1
 obtain ⟨m0, m1, m2, m3, m4, m5⟩ := cells6 hgm
 have c0 := Ext.rule m0
 have c1 := Ext.rule m1
 have c2 := Ext.rule m2
 have c3 := Ext.rule m3
 have c4 := Ext.rule m4
 have c5 := Ext.rule m5
 clear m0 m1 m2 m3 m4 m5 hgm
 refine (qchosen_calls w1 (HMZ.out.below hb1) HL.out (HCH.out.below hb1) hlc).mono ?_
 rintro e w2 ⟨rfl, hx2⟩
 rw [← HBB.out]
 cases bb
 ·have HCO : Hid (openO m ch = false) := by show _ = _; unfold openO; rw [← HBB.out]; rfl
  go_wp2_with fail
  go_ret
  exact ⟨ret_bool HCO.out.symm, hb1.trans hx2⟩
 ·have HCO : Hid (openO m ch = openC m ch) := by show _ = _; unfold openO; rw [← HBB.out]; rfl
  obtain ⟨hg, hc⟩ := okC_true HBB.out.symm
  have HG := Lib.hid hg
  have HC := Lib.hid hc
  clear hg hc
  go_wp2_with fail
  refine (qopen_calls w2 (HMZ.out.below (hb1.trans hx2)) HG.out HL.out (HCH.out.below (hb1.trans hx2)) HC.out).mono ?_
  rintro e w3 ⟨rfl, hx3⟩
  go_wp2_with fail
  go_ret
  exact ⟨ret_bool HCO.out.symm, hb1.trans (hx2.trans hx3)⟩

/-- The paths that Paths returns. -/
def pathsO (m : MZ) (ch : List Int) : List (List Int) := if okC m ch = true then (psOf m ch).filter (fun p => decide (p.length ≠ 0)) else []
theorem splitL_drop {m : MZ} {ch : List Int} (h : IsCh m ch) : ∀ qs p, splitL m ch = qs ++ [p] → (∀ q ∈ qs, q ≠ []) ∧ ((psOf m ch).filter fun p => decide (p.length ≠ 0)) = (if p = [] then qs else qs ++ [p]) := by
 induction h with
 | nil =>
  intro qs p h
  rw [splitL_nil] at h
  have h1 : qs = [] ∧ p = [] := by
   cases qs with
   | nil => simp at h; exact ⟨rfl, h⟩
   | cons a l =>
    have := congrArg List.length h
    simp at this
  obtain ⟨rfl, rfl⟩ := h1
  refine ⟨fun q hq => (by cases hq), ?_⟩
  rw [psOf_nil]
  unfold ps0
  split <;> simp
 | @snoc ch n h hn ih =>
  intro qs p hs
  have hc := cand_ncmp hn
  obtain ⟨qs0, p0, h1, h2, h3⟩ := ps_form h hc
  obtain ⟨i1, i2⟩ := ih qs0 p0 h3
  have h4 := split_step n h1 h2
  rw [hs] at h4
  have hfin : ∀ (ps : List (List Int)) (a : List Int), (∀ q ∈ ps, q ≠ []) → (ps ++ [a]).filter (fun p => decide (p.length ≠ 0)) = if a = [] then ps else ps ++ [a] := fun ps a hps => by
   rw [List.filter_append, List.filter_eq_self.2 (fun q hq => by have := hps q hq; simpa using this)]
   by_cases ha : a = []
   ·rw [if_pos ha]; subst ha; simp
   ·rw [if_neg ha]; congr 1; simp [ha]
  have key : ∀ q ∈ qs, q ≠ [] := by
   intro q hq
   split at h4
   ·have h5 : qs = qs0 ++ [p0 ++ [n]] := (List.append_inj' h4 rfl).1
    rw [h5] at hq
    rcases List.mem_append.1 hq with hq | hq
    ·exact i1 q hq
    ·rw [List.mem_singleton] at hq; subst hq; simp
   ·rw [List.append_nil] at h4
    have h5 : qs = qs0 := (List.append_inj' h4 rfl).1
    rw [h5] at hq
    exact i1 q hq
  refine ⟨key, ?_⟩
  rw [← hfin qs p key, ← hs]
  unfold splitL
  rw [List.filter_append]
  split <;> simp
theorem pathsO_eq {m : MZ} {ch : List Int} (h : okC m ch = true) {qs : List (List Int)} {p : List Int} (hs : splitL m ch = qs ++ [p]) : pathsO m ch = if p = [] then qs else qs ++ [p] := by
 unfold pathsO
 rw [if_pos h]
 exact (splitL_drop (okC_true h).2 qs p hs).2
theorem splitL_last {m : MZ} {ch : List Int} (h : IsCh m ch) : ∃ qs p, splitL m ch = qs ++ [p] := by
 have hsl := splitL_len h
 have hp0 : 0 < (splitL m ch).length := by
  cases h : cmpC m ch
  ·exact (hsl.2 h).2
  ·have := hsl.1 h; omega
 rcases List.eq_nil_or_concat (splitL m ch) with h1 | ⟨qs, p, h1⟩
 ·rw [h1] at hp0; simp at hp0
 ·exact ⟨qs, p, by rw [h1, List.concat_eq_append]⟩
def PathsPost (w : World) (m : MZ) (ch : List Int) (e : Ending) (w' : World) : Prop :=
 ∃ v, e = .returned (.tuple #[v, .bool (okC m ch)]) ∧ Ext w w' ∧ Intss w' (fun b => w.heap.size ≤ b) v (pathsO m ch)
theorem intss_take {w : World} {ok : Nat → Prop} {A : Option Addr} {n c N : Nat} {l : List (List Int)} (h : Intss w ok (.slice A n c) l) (hN : N ≤ n) : Intss w ok (.slice A N c) (l.take N) := by
 obtain ⟨vs, ⟨A', c', e, hc, hl, hr⟩, he⟩ := h
 injection e with e1 e2 e3
 subst e1 e2 e3
 refine ⟨vs.take N, ⟨A, c, by rw [List.length_take, Nat.min_eq_left (by omega)], by rw [List.length_take]; omega, by rw [List.length_take, List.length_take]; omega, fun hp => ?_⟩, fun i x hx => ?_⟩
 ·rw [List.length_take] at hp
  obtain ⟨b, off, e, hb, hcell⟩ := hr (by omega)
  refine ⟨b, off, e, hb, fun j u hu => hcell j u ?_⟩
  rw [List.getElem?_take] at hu
  split at hu
  ·exact hu
  ·cases hu
 ·rw [List.getElem?_take] at hx
  split at hx
  ·rename_i hi
   obtain ⟨u, hu, hr⟩ := he i x hx
   exact ⟨u, by rw [List.getElem?_take, if_pos hi]; exact hu, hr⟩
  ·cases hx

set_option maxHeartbeats 4000000 in
set_option maxRecDepth 100000 in
theorem qPaths_calls {ok okc : Nat → Prop} {v vc : Value} {m : MZ} {ch : List Int} (w : World) (hm : MazeV w ok v m) (hl : Lens m) (hch : Ints w okc vc ch) (hlc : ch.length ≤ 20000000000000) :
  Calls Try.prog 40 #[v, vc] w (PathsPost w m ch) := by
 have HMZ := Lib.hid hm
 obtain ⟨vfr, vup, vts, rfl, -, -, -⟩ := hm
 have HCH := Lib.hid hch
 obtain ⟨A, c, rfl, hcc, -⟩ := hch
 have HL := Lib.hid hl
 clear hl
 obtain ⟨bb, hbb⟩ : ∃ bb, bb = okC m ch := ⟨_, rfl⟩
 have HBB := Lib.hid hbb; clear hbb
 go_enter Try.func40, Try.ntmps40
 go_wp2_with fail
 generalize hw1 : w.alloc (.cells #[.int .i64 m.w, .int .i64 m.h, .int .i64 m.l, vfr, vup, vts] 31) = w1
 have hb1 : Ext w w1 := by rw [← hw1]; exact (Ext.refl w).alloc _
 have hgm : Blk w1 w.heap.size 31 #[.int .i64 m.w, .int .i64 m.h, .int .i64 m.l, vfr, vup, vts] := by rw [← hw1]; exact heap_alloc_new _ _
 clear hw1
 obtain ⟨m0, m1, m2, m3, m4, m5⟩ := cells6 hgm
 have c0 := Ext.rule m0
 have c1 := Ext.rule m1
 have c2 := Ext.rule m2
 have c3 := Ext.rule m3
 have c4 := Ext.rule m4
 have c5 := Ext.rule m5
 clear m0 m1 m2 m3 m4 m5 hgm
 refine (qchosen_calls w1 (HMZ.out.below hb1) HL.out (HCH.out.below hb1) hlc).mono ?_
 rintro e w2 ⟨rfl, hx2⟩
 rw [← HBB.out]
 cases bb
 ·have HFIN : Hid (PathsPost w m ch (.returned (.tuple #[.slice none 0 0, .bool false])) w2) := ⟨_, by rw [← HBB.out], hb1.trans hx2, by unfold pathsO; rw [← HBB.out]; exact ⟨[], ⟨none, 0, rfl, Nat.le_refl _, RowA.nil _ _ _ _⟩, fun i x hx => by simp at hx⟩⟩
  go_wp2_with fail
  go_ret2
  exact HFIN.out
 ·obtain ⟨hg, hc⟩ := okC_true HBB.out.symm
  obtain ⟨qs, p, hqp⟩ := splitL_last hc
  have HPO := Lib.hid (pathsO_eq HBB.out.symm hqp)
  have hsl := splitL_len hc
  have hp7 : (splitL m ch).length ≤ 7 := by
   have htk := hg.tk
   cases h : cmpC m ch
   ·have := (hsl.2 h).1; omega
   ·have := hsl.1 h; omega
  have HG := Lib.hid hg
  have HC := Lib.hid hc
  have HQP := Lib.hid hqp
  clear hg hc hqp hsl
  go_wp2_with fail
  refine (qsplit_calls w2 (HMZ.out.below (hb1.trans hx2)) HG.out HL.out (HCH.out.below (hb1.trans hx2)) HC.out).mono ?_
  rintro e w3 ⟨v3, rfl, hx3, hps⟩
  have HPS := Lib.hid hps
  obtain ⟨vs, ⟨Ap, cp, rfl, hcp, hrp⟩, hep⟩ := hps
  obtain ⟨bp, ofp, up, rfl, _, hcu, hup⟩ := eachAt hrp hep (k := qs.length) (by rw [HQP.out]; simp) (by rw [HQP.out]; simp)
  have hgp : (splitL m ch)[qs.length]'(by rw [HQP.out]; simp) = p := by simp only [HQP.out]; simp
  rw [hgp] at hup
  obtain ⟨Aq, cq, rfl, hcq, -⟩ := hup
  have ru := Ext.rule hcu
  have hql : (splitL m ch).length = qs.length + 1 := by rw [HQP.out]; simp
  rw [hql] at hcp hp7 ⊢
  have hq3 : (qs.length : Int) < (qs.length : Int) + 1 := by omega
  have hx33 : Ext w3 w3 := Ext.refl w3
  have HE3 : Hid (Ext w w3) := hb1.trans (hx2.trans hx3)
  have hz2 := hx2.size
  have hz1 := hb1.size
  have HPS' : Hid (Intss w3 (fun b => w.heap.size ≤ b) (.slice (some ⟨bp, ofp, none⟩) (qs.length + 1) cp) (qs ++ [p])) := by
   have h1 := HPS.out
   rw [hql] at h1
   rw [HQP.out] at h1
   exact h1.weaken fun b hb => by omega
  clear hrp hep hgp hcu hql hx3 hx2 hz1 hz2
  by_cases hpn : p = []
  ·subst hpn
   have hz : ([] : List Int).length = 0 := rfl
   rw [hz] at ru hcq
   have HFIN : Hid (PathsPost w m ch (.returned (.tuple #[.slice (some ⟨bp, ofp, none⟩) qs.length cp, .bool true])) w3) := ⟨_, by rw [← HBB.out], HE3.out, by
    rw [HPO.out, if_pos rfl]
    have h1 := intss_take HPS'.out (N := qs.length) (by omega)
    rwa [List.take_append_of_le_length (Nat.le_refl _), List.take_length] at h1⟩
   have hq4 : (qs.length : Int) ≤ (cp : Int) := by omega
   go_wp2_with fail
   go_ret2
   exact HFIN.out
  ·have HFIN : Hid (PathsPost w m ch (.returned (.tuple #[.slice (some ⟨bp, ofp, none⟩) (qs.length + 1) cp, .bool true])) w3) := ⟨_, by rw [← HBB.out], HE3.out, by
    rw [HPO.out, if_neg hpn]
    exact HPS'.out⟩
   have hpl : p.length ≠ 0 := fun h => hpn (List.eq_nil_of_length_eq_zero h)
   have hq4 : ((p.length : Int) == 0) = false := by rw [beq_eq_false_iff_ne]; omega
   clear hpn
   go_wp2_with fail
   go_ret2
   exact HFIN.out
end Go.Proofs.Ytgpjfpcjiebjiaa
