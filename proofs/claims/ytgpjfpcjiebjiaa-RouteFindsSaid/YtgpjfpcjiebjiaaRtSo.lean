/- Walks: a new router; the state of choices; Candidates, Open. -/
import Derived.Test.YtgpjfpcjiebjiaaRtLd
namespace Go.Proofs.Ytgpjfpcjiebjiaa
open Go.RowKit
set_option linter.unusedVariables false
set_option linter.unusedSimpArgs false
attribute [local go_sem ↓] Go.wp_at_zero Go.wp_at_succ

set_option maxHeartbeats 1000000 in
set_option maxRecDepth 100000 in
theorem new_calls {Y : Nat → Prop} {v : Value} {m : MZ} (w : World) (hm : MazeV w Y v m) (hl : Lens m) (hYb : ∀ b, Y b → b < w.heap.size) :
    Calls Try.prog 22 #[v] w (LoadPost w Y m [] 0) := by
  have hmz := hm
  obtain ⟨vfr, vup, vts, rfl, _, _, _⟩ := hm
  have HMZ := Lib.hid hmz; clear hmz
  have HL := Lib.hid hl; clear hl
  have HYB := Lib.hid hYb; clear hYb
  go_enter Try.func22, Try.ntmps22
  go_wp2_with fail
  generalize hw1 : w.alloc (.cells #[.int .i64 m.w, .int .i64 m.h, .int .i64 m.l, vfr, vup, vts] 31) = w1
  have hb1 : Ext w w1 := by rw [← hw1]; exact (Ext.refl w).alloc _
  clear hw1
  refine (load_calls (okc := fun _ => True) 0 w1 (HMZ.out.below hb1) HL.out (Ints.nil _ _) (by simp) (fun b hb => Nat.lt_of_lt_of_le (HYB.out b hb) hb1.size)).mono ?_
  rintro e w2 ⟨v2, rfl, hE, hp⟩
  have hfin : LoadPost w Y m [] 0 (.returned (.tuple #[v2, .int .i64 (loadE m [] 0)])) w2 := by
    refine ⟨v2, rfl, hb1.trans hE, ?_⟩
    rcases hp with hp | ⟨h1, h2, h3, g, gr, cap, pt, h4, h5⟩
    · exact .inl hp
    · exact .inr ⟨h1, h2, h3, g, gr, cap, pt, h4, h5.widen (fun b hb => Nat.le_trans hb1.size hb)⟩
  have HFIN := Lib.hid hfin
  clear hfin hp hE
  go_wp2_with fail
  go_ret2
  exact HFIN.out

/-- Are these choices of the maze? -/
def okC (m : MZ) (ch : List Int) : Bool := decide (chk m = 0) && isChB m ch
def SoPost (w : World) (Y : Nat → Prop) (m : MZ) (ch : List Int) (e : Ending) (w' : World) : Prop :=
  ∃ v, e = .returned (.tuple #[v, .bool (okC m ch)]) ∧ Ext w w' ∧ ((okC m ch = false ∧ v = .pointer none) ∨ (okC m ch = true ∧ ∃ p, v = .pointer (some ⟨p, 0, none⟩) ∧ StC w' (fun b => Y b ∨ w.heap.size ≤ b) p m ch))
theorem okC_true {m : MZ} {ch : List Int} (h : okC m ch = true) : Good m ∧ IsCh m ch := by
  unfold okC at h
  rw [Bool.and_eq_true, decide_eq_true_eq] at h
  exact ⟨Good.of h.1, isChB_iff.1 h.2⟩

set_option maxHeartbeats 4000000 in
set_option maxRecDepth 100000 in
theorem stateOf_calls {okc Y : Nat → Prop} {v vc : Value} {m : MZ} {ch : List Int} (w : World) (hm : MazeV w Y v m) (hl : Lens m) (hch : Ints w okc vc ch) (hlc : ch.length ≤ 20000000000000) :
    Calls Try.prog 72 #[v, vc] w (SoPost w Y m ch) := by
  have hmz := hm
  obtain ⟨vfr, vup, vts, rfl, _, _, _⟩ := hm
  have HMZ := Lib.hid hmz; clear hmz
  obtain ⟨Ac, cc, rfl, hcc, hrc⟩ := hch
  have HRC := Lib.hid hrc; clear hrc
  have HL := Lib.hid hl; clear hl
  obtain ⟨ck, hck⟩ : ∃ ck, ck = chk m := ⟨_, rfl⟩
  have HCK := Lib.hid hck; clear hck
  go_enter Try.func72, Try.ntmps72
  go_wp2_with fail
  generalize hw1 : w.alloc (.cells #[.int .i64 m.w, .int .i64 m.h, .int .i64 m.l, vfr, vup, vts] 31) = w1
  have hb1 : Ext w w1 := by rw [← hw1]; exact (Ext.refl w).alloc _
  have hgm : Blk w1 w.heap.size 31 #[.int .i64 m.w, .int .i64 m.h, .int .i64 m.l, vfr, vup, vts] := by rw [← hw1]; exact heap_alloc_new _ _
  clear hw1
  obtain ⟨m0, m1, m2, m3, m4, m5⟩ := cells6 hgm
  have c0 := Ext.rule m0
  have c1 := Ext.rule m1
  have c2 := Ext.rule m2
  have c3 := Ext.rule m3
  have c4 := Ext.rule m4
  have c5 := Ext.rule m5
  clear m0 m1 m2 m3 m4 m5 hgm
  refine (check_calls w1 (HMZ.out.below hb1) HL.out).mono ?_
  rintro e w2 ⟨rfl, hx2⟩
  have hx2 : Ext w1 w2 := hx2
  have hE2 : Ext w w2 := hb1.trans hx2
  rw [← HCK.out]
  by_cases h0 : ck = 0
  case neg =>
    have hq1 : (ck == 0) = false := by rw [beq_eq_false_iff_ne]; exact h0
    have hq2 : (ck != 0) = true := by rw [bne_iff_ne]; exact h0
    have hle : okC m ch = false := by unfold okC; rw [← HCK.out, decide_eq_false h0]; rfl
    have hfin : SoPost w Y m ch (.returned (.tuple #[.pointer none, .bool false])) w2 := ⟨.pointer none, by rw [hle], hE2, .inl ⟨hle, rfl⟩⟩
    have HFIN := Lib.hid hfin
    clear hfin hle h0
    go_wp2_with fail
    go_ret2
    exact HFIN.out
  case pos =>
    subst h0
    have HG := Lib.hid (Good.of HCK.out.symm)
    have hdim := HG.out.dim
    have hn1 := hdim.n1
    have hlay := hdim.layer
    have HD := Lib.hid hdim; clear hdim
    have HOK : Hid (okC m ch = isChB m ch) := by show _ = _; unfold okC; rw [← HCK.out]; rfl
    go_wp2_with fail
    refine (rnodes_calls m.w m.h m.l vfr vup vts w2 (by omega) (by omega)).mono ?_
    rintro e w3 ⟨rfl, hx3⟩
    have hx3 : Ext w2 w3 := hx3
    have hE3 : Ext w w3 := hE2.trans hx3
    have hE13 : Ext w1 w3 := Ext.trans ‹Ext w1 w2› hx3
    by_cases hlen : m.w * m.h * m.l < (ch.length : Int)
    · have hgd : decide (m.w * m.h * m.l < (ch.length : Int)) = true := decide_eq_true hlen
      have hle : okC m ch = false := by
        rw [HOK.out, Bool.eq_false_iff]
        intro h
        have h1 := (isChB_iff.1 h).len HG.out
        have h2 : m.n = m.w * m.h * m.l := rfl
        omega
      have hfin : SoPost w Y m ch (.returned (.tuple #[.pointer none, .bool false])) w3 := ⟨.pointer none, by rw [hle], hE3, .inl ⟨hle, rfl⟩⟩
      have HFIN := Lib.hid hfin
      clear hfin hle
      go_wp2_with fail
      go_ret2
      exact HFIN.out
    · have hgd : decide (m.w * m.h * m.l < (ch.length : Int)) = false := decide_eq_false hlen
      have hlen3 : ch.length ≤ 300 := by omega
      clear hlen hlay hn1
      go_wp2_with fail
      refine (begin_c w3 (HMZ.out.below hE3) (by have := HG.out.tk; omega)).mono ?_
      rintro e w4 ⟨p, rfl, hx4, hst4⟩
      have hE4 : Ext w w4 := hE3.trans hx4
      have H0 : Hid (StC w4 (fun b => Y b ∨ w.heap.size ≤ b) p m (ch.take 0)) := by
        have := hE3.size
        exact hst4.weaken fun b hb => by
          rcases hb with hb | hb
          · exact .inl hb
          · exact .inr (by omega)
      have hic0 : Hid (IsCh m (ch.take 0)) := by show IsCh m (ch.take 0); simpa using IsCh.nil
      clear hst4 hgd c0 c1 c2 c3 c4 c5
      go_wp2_with fail
      go_loopg [6, 23] ch.length (fun gk v6 v wr => ∃ (k p : Nat), v6 = .pointer (some ⟨p, 0, none⟩) ∧ v = .int .i64 k ∧ k ≤ ch.length ∧ gk = ch.length - k ∧ Hid (StC wr (fun b => Y b ∨ w.heap.size ≤ b) p m (ch.take k)) ∧ Hid (IsCh m (ch.take k)) ∧ Hid (Ext w wr))
      case atStart => exact ⟨0, p, rfl, rfl, Nat.zero_le _, rfl, H0, hic0, hE4⟩
      clear H0 hic0
      case round =>
        obtain ⟨k, p, rfl, rfl, hk, rfl, hS, hI, hX⟩ := hrel
        have hxr := hX.out
        rcases Nat.lt_or_ge k ch.length with hlt | hge
        · obtain ⟨bc, oc, rfl, _, hcell⟩ := intsAt HRC.out hlt hlt
          obtain ⟨n, hn⟩ : ∃ n, n = ch[k] := ⟨_, rfl⟩
          rw [← hn] at hcell
          have q0 := Ext.rule hcell
          have HN := Lib.hid hn
          clear hcell hn
          go_wp2_with fail
          refine (candidates_c wr hS.out HG.out HL.out hI.out).mono ?_
          rintro e w6 ⟨v6, rfl, hM⟩
          have hx6 : Ext wr w6 := hM.ext
          have HM := Lib.hid hM.ints
          clear hM
          go_wp2_with fail
          refine (contains_calls n w6 HM.out (by have := cand_len HL.out (ch.take k); omega)).mono ?_
          rintro e w7 ⟨rfl, rfl⟩
          by_cases hnc : n ∈ cand m (ch.take k)
          · rw [decide_eq_true hnc]
            have HNC := Lib.hid hnc
            clear hnc
            have hcs : Hid (ch.take k ++ [n] = ch.take (k + 1)) := by show _ = _; rw [List.take_succ_eq_append_getElem hlt, HN.out]
            go_wp2_with fail
            refine (with_c w6 (hS.out.ext hx6) HG.out HL.out hI.out HNC.out).mono ?_
            rintro e w8 ⟨q, rfl, hx8, hq⟩
            have HQ : Hid (StC w8 (fun b => Y b ∨ w.heap.size ≤ b) q m (ch.take (k + 1))) := by
              have := (hxr.trans hx6).size
              rw [← hcs.out]
              exact hq.weaken fun b hb => by
                rcases hb with hb | hb
                · exact hb.1
                · exact .inr (by omega)
            have hI2 : Hid (IsCh m (ch.take (k + 1))) := by rw [← hcs.out]; exact .snoc hI.out HNC.out
            have hX2 : Hid (Ext w w8) := hxr.trans (hx6.trans hx8)
            clear hq hx8 hx6 hxr
            go_wp2_with fail
            go_roundg (ch.length - (k + 1))
            case measure => omega
            case rel => exact ⟨k + 1, q, rfl, by go_num, hlt, rfl, HQ, hI2, hX2⟩
          · rw [decide_eq_false hnc]
            have hle : okC m ch = false := by
              rw [HOK.out, Bool.eq_false_iff]
              intro h
              have h1 := (isChB_iff.1 h).at hlt
              rw [← HN.out] at h1
              exact hnc h1
            have hfin : SoPost w Y m ch (.returned (.tuple #[.pointer none, .bool false])) w6 := ⟨.pointer none, by rw [hle], hxr.trans hx6, .inl ⟨hle, rfl⟩⟩
            have HFIN := Lib.hid hfin
            clear hfin hle hnc
            go_wp2_with fail
            go_ret2
            exact HFIN.out
        · have hkk : k = ch.length := by omega
          subst hkk
          have HTK : Hid (ch.take ch.length = ch) := List.take_length
          have hfin : SoPost w Y m ch (.returned (.tuple #[.pointer (some ⟨p, 0, none⟩), .bool true])) wr := by
            have h1 := hI.out
            have h2 := hS.out
            rw [HTK.out] at h1 h2
            have h3 : okC m ch = true := by rw [HOK.out]; exact isChB_iff.2 h1
            exact ⟨_, by rw [h3], hxr, .inr ⟨h3, p, rfl, h2⟩⟩
          have HFIN := Lib.hid hfin
          clear hfin
          go_wp2_with fail
          go_ret2
          exact HFIN.out

/-- What Candidates returns. -/
def candO (m : MZ) (ch : List Int) : List Int := if okC m ch = true then cand m ch else []
set_option maxHeartbeats 1000000 in
set_option maxRecDepth 100000 in
theorem rCandidates_calls {okc Y : Nat → Prop} {v vc : Value} {m : MZ} {ch : List Int} (w : World) (hm : MazeV w Y v m) (hl : Lens m) (hch : Ints w okc vc ch) (hlc : ch.length ≤ 20000000000000) :
    Calls Try.prog 41 #[v, vc] w fun e w' => ∃ v', e = .returned v' ∧ Mk w w' v' (candO m ch) := by
  have hmz := hm
  obtain ⟨vfr, vup, vts, rfl, _, _, _⟩ := hm
  have HMZ := Lib.hid hmz; clear hmz
  have HL := Lib.hid hl; clear hl
  have HCH := Lib.hid hch
  obtain ⟨Ac, cc, rfl, hcc, _⟩ := hch
  obtain ⟨ok, hok⟩ : ∃ ok, ok = okC m ch := ⟨_, rfl⟩
  have HOK := Lib.hid hok; clear hok
  go_enter Try.func41, Try.ntmps41
  go_wp2_with fail
  generalize hw1 : w.alloc (.cells #[.int .i64 m.w, .int .i64 m.h, .int .i64 m.l, vfr, vup, vts] 31) = w1
  have hb1 : Ext w w1 := by rw [← hw1]; exact (Ext.refl w).alloc _
  clear hw1
  refine (stateOf_calls w1 (HMZ.out.below hb1) HL.out (HCH.out.below hb1) hlc).mono ?_
  rintro e w2 ⟨v2, rfl, hE, hp⟩
  rw [← HOK.out]
  rw [← HOK.out] at hp
  have hE2 : Ext w w2 := hb1.trans hE
  rcases hp with ⟨h1, rfl⟩ | ⟨h1, p, rfl, h2⟩
  · subst h1
    have HFIN : Hid (Mk w w2 (.slice none 0 0) (candO m ch)) := by
      show Mk _ _ _ _
      unfold candO
      rw [← HOK.out]
      exact Mk.nil' hE2
    go_wp2_with fail
    go_ret
    exact ⟨_, rfl, HFIN.out⟩
  · subst h1
    have HS := Lib.hid h2; clear h2
    go_wp2_with fail
    refine (candidates_c w2 HS.out (okC_true HOK.out.symm).1 HL.out (okC_true HOK.out.symm).2).mono ?_
    rintro e w3 ⟨v3, rfl, hM⟩
    have HFIN : Hid (Mk w w3 v3 (candO m ch)) := by
      show Mk _ _ _ _
      unfold candO
      rw [← HOK.out, if_pos rfl]
      exact hE2.mono_mk hM
    clear hM
    go_wp2_with fail
    go_ret
    exact ⟨_, rfl, HFIN.out⟩

/-- What Open returns. -/
noncomputable def openO (m : MZ) (ch : List Int) : Bool := okC m ch && openC m ch
set_option maxHeartbeats 1000000 in
set_option maxRecDepth 100000 in
theorem rOpen_calls {okc Y : Nat → Prop} {v vc : Value} {m : MZ} {ch : List Int} (w : World) (hm : MazeV w Y v m) (hl : Lens m) (hch : Ints w okc vc ch) (hlc : ch.length ≤ 20000000000000) :
    Calls Try.prog 38 #[v, vc] w fun e w' => e = .returned (.bool (openO m ch)) ∧ Ext w w' := by
  have hmz := hm
  obtain ⟨vfr, vup, vts, rfl, _, _, _⟩ := hm
  have HMZ := Lib.hid hmz; clear hmz
  have HL := Lib.hid hl; clear hl
  have HCH := Lib.hid hch
  obtain ⟨Ac, cc, rfl, hcc, _⟩ := hch
  obtain ⟨ok, hok⟩ : ∃ ok, ok = okC m ch := ⟨_, rfl⟩
  have HOK := Lib.hid hok; clear hok
  go_enter Try.func38, Try.ntmps38
  go_wp2_with fail
  generalize hw1 : w.alloc (.cells #[.int .i64 m.w, .int .i64 m.h, .int .i64 m.l, vfr, vup, vts] 31) = w1
  have hb1 : Ext w w1 := by rw [← hw1]; exact (Ext.refl w).alloc _
  clear hw1
  refine (stateOf_calls w1 (HMZ.out.below hb1) HL.out (HCH.out.below hb1) hlc).mono ?_
  rintro e w2 ⟨v2, rfl, hE, hp⟩
  rw [← HOK.out]
  rw [← HOK.out] at hp
  have hE2 : Ext w w2 := hb1.trans hE
  rcases hp with ⟨h1, rfl⟩ | ⟨h1, p, rfl, h2⟩
  · subst h1
    have HF : Hid (openO m ch = false) := by show _ = _; unfold openO; rw [← HOK.out]; rfl
    go_wp2_with fail
    go_ret
    exact ⟨ret_bool HF.out.symm, hE2⟩
  · subst h1
    have HS := Lib.hid h2; clear h2
    go_wp2_with fail
    refine (open_c w2 HS.out (okC_true HOK.out.symm).1 HL.out (okC_true HOK.out.symm).2).mono ?_
    rintro e w3 ⟨rfl, hE3⟩
    have HF : Hid (openO m ch = openC m ch) := by show _ = _; unfold openO; rw [← HOK.out]; rfl
    rw [← HF.out]
    go_wp2_with fail
    go_ret
    exact ⟨rfl, hE2.trans hE3⟩
end Go.Proofs.Ytgpjfpcjiebjiaa
