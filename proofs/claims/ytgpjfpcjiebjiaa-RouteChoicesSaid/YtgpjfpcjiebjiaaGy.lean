/- Walks: Right. -/
import Derived.Test.YtgpjfpcjiebjiaaGr
import Derived.Test.YtgpjfpcjiebjiaaGp
import Derived.Deep.RegionHeld3
namespace Go.Proofs.Ytgpjfpcjiebjiaa
open Go.RowKit
set_option linter.unusedVariables false
set_option linter.unusedSimpArgs false
attribute [local go_sem ↓] Go.wp_at_zero Go.wp_at_succ

/-- A node of a path is right, behind some nodes. -/
def nodeB (m : MZ) (t : Nat) (p pre : List Int) (k : Nat) : Bool :=
 decide (0 ≤ p.getD k 0) && (decide (p.getD k 0 < m.n) && (!decide (p.getD k 0 ∈ pre) && (freeAt m t (p.getD k 0) && (decide (k = 0) || decide (p.getD k 0 ∈ nextL m (p.getD (k - 1) 0))))))
/-- A path is right for a task. -/
def pathB (m : MZ) (t : Nat) (p pre : List Int) : Bool :=
 !decide (p = []) && (decide (p.getD 0 0 ∈ (m.tasks.getD t ([], [])).1) && (decide (p.getD (p.length - 1) 0 ∈ (m.tasks.getD t ([], [])).2) && (List.range p.length).all fun k => nodeB m t p (pre ++ p.take k) k))
/-- Paths do all tasks. -/
def rightB (m : MZ) (ps : List (List Int)) : Bool :=
 decide (chk m = 0) && (decide (ps.length = m.tasks.length) && (List.range ps.length).all fun t => pathB m t (ps.getD t []) (ps.take t).flatten)
section
variable {m : MZ} {t : Nat} {p pre : List Int} {ps : List (List Int)}
theorem pathB_nil : pathB m t [] pre = false := rfl
theorem pathB_hd (h : p.getD 0 0 ∉ (m.tasks.getD t ([], [])).1) : pathB m t p pre = false := by
 unfold pathB
 rw [decide_eq_false h]; simp
theorem pathB_lt (h : p.getD (p.length - 1) 0 ∉ (m.tasks.getD t ([], [])).2) : pathB m t p pre = false := by
 unfold pathB
 rw [decide_eq_false h]; simp
theorem pathB_nd {k : Nat} (hk : k < p.length) (h : nodeB m t p (pre ++ p.take k) k = false) : pathB m t p pre = false := by
 unfold pathB
 have : ((List.range p.length).all fun k => nodeB m t p (pre ++ p.take k) k) = false := by
  rw [Bool.eq_false_iff]
  intro h2
  have := List.all_eq_true.1 h2 k (List.mem_range.2 hk)
  rw [h] at this; cases this
 rw [this]; simp
theorem pathB_ok (h0 : p ≠ []) (h1 : p.getD 0 0 ∈ (m.tasks.getD t ([], [])).1) (h2 : p.getD (p.length - 1) 0 ∈ (m.tasks.getD t ([], [])).2) (h3 : ∀ k, k < p.length → nodeB m t p (pre ++ p.take k) k = true) : pathB m t p pre = true := by
 unfold pathB
 rw [decide_eq_false h0, decide_eq_true h1, decide_eq_true h2, List.all_eq_true.2 (fun k hk => h3 k (List.mem_range.1 hk))]; rfl
theorem rightB_path (ht : t < ps.length) (h : pathB m t (ps.getD t []) (ps.take t).flatten = false) : rightB m ps = false := by
 unfold rightB
 have : ((List.range ps.length).all fun t => pathB m t (ps.getD t []) (ps.take t).flatten) = false := by
  rw [Bool.eq_false_iff]
  intro h2
  have := List.all_eq_true.1 h2 t (List.mem_range.2 ht)
  rw [h] at this; cases this
 rw [this]; simp
theorem rightB_ok (h0 : chk m = 0) (h1 : ps.length = m.tasks.length) (h2 : ∀ t, t < ps.length → pathB m t (ps.getD t []) (ps.take t).flatten = true) : rightB m ps = true := by
 unfold rightB
 rw [decide_eq_true h0, decide_eq_true h1, List.all_eq_true.2 (fun t ht => h2 t (List.mem_range.1 ht))]; rfl
end
/-- The memory while paths are looked at. -/
structure RtI (w wr : World) (gs : Nat) (pre : List Int) : Prop where
 ext : Ext w wr
 gsB : w.heap.size ≤ gs
 set : ∃ s, SetIs wr gs s ∧ ∀ x, x ∈ s ↔ x ∈ pre
theorem RtI.more {w wr w' : World} {gs : Nat} {pre : List Int} (h : RtI w wr gs pre) (hE : Ext wr w') : RtI w w' gs pre := by
 obtain ⟨s, h1, h2⟩ := h.set
 exact ⟨h.ext.trans hE, h.gsB, s, h1.below hE, h2⟩
theorem RtI.add {w wr w' : World} {gs : Nat} {pre s : List Int} {x : Int} (h : RtI w wr gs pre) (hs : ∀ y, y ∈ s ↔ y ∈ pre) (h1 : SetIs w' gs (ins s x)) (hg : wr.grownBy w' (some gs)) : RtI w w' gs (pre ++ [x]) :=
 ⟨Below.grown h.ext hg h.ext.size (fun k hk => by injection hk with hk; have := h.gsB; omega), h.gsB, _, h1, fun y => by rw [mem_ins, hs, List.mem_append, List.mem_singleton]⟩

set_option maxHeartbeats 4000000 in
set_option maxRecDepth 100000 in
theorem right_calls {okm okp : Nat → Prop} {v vp : Value} {m : MZ} {ps : List (List Int)} (w : World) (hm : MazeV w okm v m) (hl : Lens m) (hp : Intss w okp vp ps) (hpl : ps.length ≤ 20000000000000) (hpx : ∀ x ∈ ps, x.length ≤ 20000000000000) :
  Calls Try.prog 37 #[v, vp] w fun e w' => e = .returned (.bool (rightB m ps)) ∧ Ext w w' := by
 have hmz := hm
 obtain ⟨vfr, vup, vts, rfl, -, -, hts⟩ := hm
 have HTS := Lib.hid hts
 obtain ⟨_, ⟨At, ct, rfl, -⟩, -⟩ := hts
 have HMZ := Lib.hid hmz; clear hmz
 obtain ⟨vsp, ⟨Ap, cp, rfl, hcp, hrp⟩, hep⟩ := hp
 have HRP := Lib.hid hrp
 have HEP := Lib.hid hep
 clear hrp hep
 have HL := Lib.hid hl; clear hl
 have HPX := Lib.hid hpx; clear hpx
 obtain ⟨ck, hck⟩ : ∃ ck, ck = chk m := ⟨_, rfl⟩
 have HCK := Lib.hid hck; clear hck
 have hmm := @run_makeMap Try.prog
 go_enter Try.func37, Try.ntmps37
 go_wp2_with fail
 generalize hw1 : w.alloc (.cells #[.int .i64 m.w, .int .i64 m.h, .int .i64 m.l, vfr, vup, .slice At m.tasks.length ct] 31) = w1
 have hb1 : Ext w w1 := by rw [← hw1]; exact (Ext.refl w).alloc _
 have hgm : Blk w1 w.heap.size 31 #[.int .i64 m.w, .int .i64 m.h, .int .i64 m.l, vfr, vup, .slice At m.tasks.length ct] := by rw [← hw1]; exact heap_alloc_new _ _
 clear hw1
 obtain ⟨m0, m1, m2, m3, m4, m5⟩ := cells6 hgm
 have c0 := Ext.rule m0
 have c1 := Ext.rule m1
 have c2 := Ext.rule m2
 have c3 := Ext.rule m3
 have c4 := Ext.rule m4
 have c5 := Ext.rule m5
 clear m0 m1 m2 m3 m4 m5 hgm
 refine (check_calls w1 (HMZ.out.below hb1) HL.out).mono ?_
 rintro e w2 ⟨rfl, hx2⟩
 have hx2 : Ext w1 w2 := hx2
 have HE2 : Hid (Ext w w2) := hb1.trans hx2
 have HB1 := Lib.hid hb1
 rw [← HCK.out]
 by_cases h0 : ck = 0
 case neg =>
  have hq1 : (ck == 0) = false := by rw [beq_eq_false_iff_ne]; exact h0
  have hq2 : (ck != 0) = true := by rw [bne_iff_ne]; exact h0
  have hfin : Hid (rightB m ps = false) := by show _ = _; unfold rightB; rw [← HCK.out, decide_eq_false h0]; rfl
  clear h0
  go_wp2_with fail
  go_ret
  exact ⟨ret_bool hfin.out.symm, HE2.out⟩
 case pos =>
  subst h0
  have HG := Lib.hid (Good.of HCK.out.symm)
  have HOT : Hid (∀ h1 : ps.length = m.tasks.length, ∀ h2 : (∀ t, t < ps.length → pathB m t (ps.getD t []) (ps.take t).flatten = true), rightB m ps = true) := fun h1 h2 => rightB_ok HCK.out.symm h1 h2
  clear HCK
  by_cases hlen : ps.length = m.tasks.length
  case neg =>
   have hq3 : ((ps.length : Int) == (m.tasks.length : Int)) = false := by rw [beq_eq_false_iff_ne]; omega
   have hq4 : ((ps.length : Int) != (m.tasks.length : Int)) = true := by rw [bne_iff_ne]; omega
   have hfin : Hid (rightB m ps = false) := by show _ = _; unfold rightB; rw [decide_eq_false hlen]; simp
   clear hlen
   go_wp2_with fail
   go_ret
   exact ⟨ret_bool hfin.out.symm, HE2.out⟩
  case pos =>
   have hq3 : ((ps.length : Int) == (m.tasks.length : Int)) = true := by rw [beq_iff_eq]; omega
   have hq4 : ((ps.length : Int) != (m.tasks.length : Int)) = false := by rw [bne_eq_false_iff_eq]; omega
   have HLEN := Lib.hid hlen
   have htk := HG.out.tk
   have hp6 : ps.length ≤ 6 := by omega
   have H0 : Hid (RtI w2 (w2.alloc (.map #[] 0)) w2.heap.size []) := ⟨(Ext.refl _).alloc _, Nat.le_refl _, [], SetIs.new _, fun x => Iff.rfl⟩
   have p0 : ∀ W, Ext w2 W → W.cell? ⟨w.heap.size, 0, none⟩ = some (.int .i64 m.w) := fun W h => c0 W (hx2.trans h)
   have p1 : ∀ W, Ext w2 W → W.cell? ⟨w.heap.size, 1, none⟩ = some (.int .i64 m.h) := fun W h => c1 W (hx2.trans h)
   have p2 : ∀ W, Ext w2 W → W.cell? ⟨w.heap.size, 2, none⟩ = some (.int .i64 m.l) := fun W h => c2 W (hx2.trans h)
   have p3 : ∀ W, Ext w2 W → W.cell? ⟨w.heap.size, 3, none⟩ = some vfr := fun W h => c3 W (hx2.trans h)
   have p4 : ∀ W, Ext w2 W → W.cell? ⟨w.heap.size, 4, none⟩ = some vup := fun W h => c4 W (hx2.trans h)
   have p5 : ∀ W, Ext w2 W → W.cell? ⟨w.heap.size, 5, none⟩ = some (.slice At m.tasks.length ct) := fun W h => c5 W (hx2.trans h)
   clear hlen
   go_wp2_with fail
   obtain ⟨gs, hgs⟩ : ∃ gs, gs = w2.heap.size := ⟨_, rfl⟩
   rw [← hgs] at H0 ⊢
   generalize hw3 : w2.alloc (.map #[] 0) = w3 at *
   clear hw3 hmm hq3 hq4 hgs c0 c1 c2 c3 c4 c5
   go_loopg [24] ps.length (fun gk v wr => ∃ t : Nat, v = .int .i64 t ∧ t ≤ ps.length ∧ gk = ps.length - t ∧ Hid (RtI w2 wr gs (ps.take t).flatten ∧ ∀ t', t' < t → pathB m t' (ps.getD t' []) (ps.take t').flatten = true))
   case atStart => exact ⟨0, rfl, Nat.zero_le _, rfl, H0.out, fun t' h => by omega⟩
   clear H0
   case round =>
    obtain ⟨t, rfl, ht, rfl, hI⟩ := hrel
    have hx : Ext w2 wr := hI.out.1.ext
    rcases Nat.lt_or_ge t ps.length with hlt | hge
    ·have hlt2 : t < m.tasks.length := by have := HLEN.out; omega
     have hpt : ps.getD t [] = ps[t] := by rw [List.getD_eq_getElem?_getD, List.getElem?_eq_getElem hlt]; rfl
     obtain ⟨bp, offp, up, rfl, -, hcp0, hup⟩ := eachAt HRP.out HEP.out hlt hlt
     obtain ⟨bt, offt, sn, u1, u2, rfl, -, -, hc1, hc2, hi1, hi2⟩ := tasksAt HTS.out hlt2
     have hpx := HPX.out _ (List.getElem_mem hlt)
     have htx := HL.out.tl _ (List.getElem_mem hlt2)
     have htt : m.tasks.getD t ([], []) = m.tasks[t] := by rw [List.getD_eq_getElem?_getD, List.getElem?_eq_getElem hlt2]; rfl
     have HRF : Hid (pathB m t (ps.getD t []) (ps.take t).flatten = false → rightB m ps = false) := rightB_path hlt
     have HTK : Hid ((ps.take (t + 1)).flatten = (ps.take t).flatten ++ ps[t]) := by show _ = _; rw [List.take_succ_eq_append_getElem hlt, List.flatten_append]; simp
     rw [hpt] at HRF
     have HPT := Lib.hid hpt
     obtain ⟨p, hp⟩ : ∃ p, p = ps[t] := ⟨_, rfl⟩
     rw [← hp] at hup hpx HRF HTK HPT
     obtain ⟨pre, hpre⟩ : ∃ pre, pre = (ps.take t).flatten := ⟨_, rfl⟩
     have hIp := hI.out
     rw [← hpre] at HRF HTK hIp
     have HPRE := Lib.hid hpre
     have HI := Lib.hid hIp
     obtain ⟨T1, hT1⟩ : ∃ T1, T1 = m.tasks[t].1 := ⟨_, rfl⟩
     obtain ⟨T2, hT2⟩ : ∃ T2, T2 = m.tasks[t].2 := ⟨_, rfl⟩
     have HT1 : Hid ((m.tasks.getD t ([], [])).1 = T1) := by show _ = _; rw [htt, hT1]
     have HT2 : Hid ((m.tasks.getD t ([], [])).2 = T2) := by show _ = _; rw [htt, hT2]
     rw [← hT1] at hi1 htx
     rw [← hT2] at hi2 htx
     obtain ⟨htx1, htx2⟩ := htx
     have HI1 := Lib.hid hi1
     have HI2 := Lib.hid hi2
     obtain ⟨Aq, cq, rfl, hcq, hrq⟩ := hup
     have HRQ := Lib.hid hrq
     have hE2 := HE2.out
     have qp : ∀ W, Ext w2 W → W.cell? ⟨bp, offp + t, none⟩ = some (.slice Aq p.length cq) := fun W h => Ext.rule hcp0 W (hE2.trans h)
     have q1 : ∀ W, Ext w2 W → W.cell? ⟨bt, offt + t * 3 + 1, none⟩ = some u1 := fun W h => Ext.rule hc1 W (hE2.trans h)
     have q2 : ∀ W, Ext w2 W → W.cell? ⟨bt, offt + t * 3 + 2, none⟩ = some u2 := fun W h => Ext.rule hc2 W (hE2.trans h)
     have hkt0 : (0 : Int) ≤ (t : Int) := by omega
     have hkt1 : (t : Int) < (m.tasks.length : Int) := by omega
     have hkt2 : (t : Int) < (ps.length : Int) := by omega
     clear hcp0 hc1 hc2 hpt htt hp hpre hIp hT1 hT2 hi1 hi2 hrq hE2 hI
     have hd1 : ∀ q, Ext w2 (wr.drewN q) := fun q => hx.drewN q
     go_upto_region 7 with fail
     rcases Nat.eq_zero_or_pos p.length with hpz | hpz
     ·have hp0 : p = [] := List.eq_nil_of_length_eq_zero hpz
      subst hp0
      have hz : ([] : List Int).length = 0 := rfl
      have hfin : Hid (rightB m ps = false) := HRF.out rfl
      clear hpz
      go_quiet (fail)
      go_wp2_with fail
      go_ret
      exact ⟨ret_bool hfin.out.symm, HE2.out.trans (hd1 _)⟩
     ·obtain ⟨bq, offq, rfl, -, hcx0⟩ := intsAt HRQ.out (k := 0) hpz hpz
      obtain ⟨n1, hn1⟩ : ∃ n1, n1 = p.length - 1 := ⟨_, rfl⟩
      have hn2 : n1 < p.length := by omega
      obtain ⟨bq', offq', e, -, hcx1⟩ := intsAt HRQ.out (k := n1) hn2 hn2
      injection e with e
      injection e with e1 e2
      subst e1 e2
      obtain ⟨x0, hx0⟩ : ∃ x0, x0 = p[0] := ⟨_, rfl⟩
      obtain ⟨xl, hxl⟩ : ∃ xl, xl = p[n1] := ⟨_, rfl⟩
      rw [← hx0] at hcx0
      rw [← hxl] at hcx1
      have hE2 := HE2.out
      have qx0 : ∀ W, Ext w2 W → W.cell? ⟨bq, offq, none⟩ = some (.int .i64 x0) := fun W h => Ext.rule hcx0 W (hE2.trans h)
      have qxl : ∀ W, Ext w2 W → W.cell? ⟨bq, offq + n1, none⟩ = some (.int .i64 xl) := fun W h => Ext.rule hcx1 W (hE2.trans h)
      have HX0 : Hid (p.getD 0 0 = x0) := by show _ = _; rw [hx0, List.getD_eq_getElem?_getD, List.getElem?_eq_getElem hpz]; rfl
      have HXL : Hid (p.getD (p.length - 1) 0 = xl) := by show _ = _; rw [← hn1, hxl, List.getD_eq_getElem?_getD, List.getElem?_eq_getElem hn2]; rfl
      have hz1 : ((p.length : Int) == 0) = false := by rw [beq_eq_false_iff_ne]; omega
      have hz3 : (0 : Int) < (p.length : Int) := by omega
      have hqw : IntKind.i64.wrap ((p.length : Int) - 1) = (n1 : Int) := by rw [IntKind.wrap_i64]; omega
      have hq0 : (0 : Int) ≤ (n1 : Int) := by omega
      have hq1 : (n1 : Int) < (p.length : Int) := by omega
      have hpz0 : p.length ≠ 0 := by omega
      have HN1 := Lib.hid hn1
      have HP0 : Hid (p ≠ []) := by rintro rfl; simp at hpz
      clear hn1 hcx0 hcx1 hx0 hxl hE2
      by_cases hb1 : x0 ∈ T1
      case neg =>
       have hfin : Hid (rightB m ps = false) := HRF.out (pathB_hd (by rw [HX0.out, HT1.out]; exact hb1))
       have HB := Lib.hid (decide_eq_false hb1)
       clear hb1
       go_quiet ((go_at_call 67; refine (contains_calls x0 _ (HI1.out.below (HE2.out.trans (hd1 _))) (by omega)).mono ?_; rintro e w8 ⟨he8, rfl⟩; rw [HB.out] at he8; exact ⟨he8, ⟨_, rfl⟩⟩))
       go_wp2_with fail
       go_ret
       exact ⟨ret_bool hfin.out.symm, HE2.out.trans (hd1 _)⟩
      case pos =>
       have HB := Lib.hid (decide_eq_true hb1)
       by_cases hb2 : xl ∈ T2
       case neg =>
        have hfin : Hid (rightB m ps = false) := HRF.out (pathB_lt (by rw [HXL.out, HT2.out]; exact hb2))
        have HB2 := Lib.hid (decide_eq_false hb2)
        clear hb1 hb2
        go_quiet (first | (go_at_call 67; refine (contains_calls x0 _ (HI1.out.below (HE2.out.trans (hd1 _))) (by omega)).mono ?_; rintro e w8 ⟨he8, rfl⟩; rw [HB.out] at he8; exact ⟨he8, ⟨_, rfl⟩⟩) | (go_at_call 67; refine (contains_calls xl _ (HI2.out.below (HE2.out.trans (hd1 _))) (by omega)).mono ?_; rintro e w8 ⟨he8, rfl⟩; rw [HB2.out] at he8; exact ⟨he8, ⟨_, rfl⟩⟩))
        go_wp2_with fail
        go_ret
        exact ⟨ret_bool hfin.out.symm, HE2.out.trans (hd1 _)⟩
       case pos =>
        have HB2 := Lib.hid (decide_eq_true hb2)
        have HPO : Hid ((∀ k, k < p.length → nodeB m t p (pre ++ p.take k) k = true) → pathB m t p pre = true) := fun h => pathB_ok HP0.out (by rw [HX0.out, HT1.out]; exact hb1) (by rw [HXL.out, HT2.out]; exact hb2) h
        clear hb1 hb2
        go_quiet (first | (go_at_call 67; refine (contains_calls x0 _ (HI1.out.below (HE2.out.trans (hd1 _))) (by omega)).mono ?_; rintro e w8 ⟨he8, rfl⟩; rw [HB.out] at he8; exact ⟨he8, ⟨_, rfl⟩⟩) | (go_at_call 67; refine (contains_calls xl _ (HI2.out.below (HE2.out.trans (hd1 _))) (by omega)).mono ?_; rintro e w8 ⟨he8, rfl⟩; rw [HB2.out] at he8; exact ⟨he8, ⟨_, rfl⟩⟩))
        have HI8 : Hid (RtI w2 (wr.drewN nq) gs pre) := HI.out.1.more ((Ext.refl wr).drewN nq)
        generalize wr.drewN nq = w8 at *
        clear qx0 qxl hz1 hz3 hqw hq0 hq1 hpz0 hd1 HB HB2 HI1 HI2 q1 q2 qp hx
        go_wp2_with fail
        go_loopg [63] p.length (fun gk v wr => ∃ k : Nat, v = .int .i64 k ∧ k ≤ p.length ∧ gk = p.length - k ∧ Hid (RtI w2 wr gs (pre ++ p.take k) ∧ ∀ k', k' < k → nodeB m t p (pre ++ p.take k') k' = true))
        case atStart => exact ⟨0, rfl, Nat.zero_le _, rfl, by simpa using HI8.out, fun k' h => by omega⟩
        clear HI8
        case round =>
         obtain ⟨k, rfl, hk, rfl, hJ⟩ := hrel
         obtain ⟨wk, rfl⟩ : ∃ wk : World, wk = wr := ⟨_, rfl⟩
         have hx : Ext w2 wk := hJ.out.1.ext
         rcases Nat.lt_or_ge k p.length with hklt | hkge
         ·obtain ⟨bq', offq', e, -, hcy⟩ := intsAt HRQ.out (k := k) hklt hklt
          injection e with e
          injection e with e1 e2
          subst e1 e2
          obtain ⟨y, hy⟩ : ∃ y, y = p[k] := ⟨_, rfl⟩
          rw [← hy] at hcy
          have qy : ∀ W, Ext wk W → W.cell? ⟨bq, offq + k, none⟩ = some (.int .i64 y) := fun W h => Ext.rule hcy W (HE2.out.trans (hx.trans h))
          have HYK : Hid (p.getD k 0 = y) := by show _ = _; rw [hy, List.getD_eq_getElem?_getD, List.getElem?_eq_getElem hklt]; rfl
          have HY := Lib.hid hy
          have HALL : Hid (∀ W, Calls Try.prog 49 #[.agg #[.int .i64 m.w, .int .i64 m.h, .int .i64 m.l, vfr, vup, .slice (some ⟨bt, offt, none⟩) m.tasks.length ct]] W fun e w' => e = .returned (.int .i64 (m.w * m.h * m.l)) ∧ Below W.heap.size W w') := fun W => rnodes_calls m.w m.h m.l _ vup _ W (by have := HG.out.dim.layer; have := HG.out.dim.n1; omega) (by have := HG.out.dim.layer; have := HG.out.dim.n1; omega)
          have k0 : ∀ W, Ext wk W → W.cell? ⟨w.heap.size, 0, none⟩ = some (.int .i64 m.w) := fun W h => p0 W (hx.trans h)
          have k1 : ∀ W, Ext wk W → W.cell? ⟨w.heap.size, 1, none⟩ = some (.int .i64 m.h) := fun W h => p1 W (hx.trans h)
          have k2 : ∀ W, Ext wk W → W.cell? ⟨w.heap.size, 2, none⟩ = some (.int .i64 m.l) := fun W h => p2 W (hx.trans h)
          have k3 : ∀ W, Ext wk W → W.cell? ⟨w.heap.size, 3, none⟩ = some vfr := fun W h => p3 W (hx.trans h)
          have k4 : ∀ W, Ext wk W → W.cell? ⟨w.heap.size, 4, none⟩ = some vup := fun W h => p4 W (hx.trans h)
          have k5 : ∀ W, Ext wk W → W.cell? ⟨w.heap.size, 5, none⟩ = some (.slice (some ⟨bt, offt, none⟩) m.tasks.length ct) := fun W h => p5 W (hx.trans h)
          have hkr := Ext.refl wk
          have hkk0 : (0 : Int) ≤ (k : Int) := by omega
          have hkk1 : (k : Int) < (p.length : Int) := by omega
          clear hcy hy p0 p1 p2 p3 p4 p5
          go_wp2_with fail
          rcases Int.lt_or_le y 0 with hy0 | hy0
          ·have hfin : Hid (rightB m ps = false) := HRF.out (pathB_nd hklt (by unfold nodeB; rw [HYK.out, decide_eq_false (by omega)]; rfl))
           have hdy : decide (y < 0) = true := decide_eq_true hy0
           refine wp_region_held_drew (S := fun W => Ext wk W) (by kernel_rfl) ((Ext.refl wk).drew) (fun hHeld => ?_)
           refine wpAnyH_take (i := 0) (v := ?v1) rfl (by kernel_rfl) (by kernel_rfl) (by kernel_rfl) (fun _ _ _ h => h) (Or.inl ⟨?w1, ?y1⟩) hHeld ?r1
           case w1 => rfl
           case y1 => (intro w hSw; go_simp; try with_reducible rfl)
           simp only [rtPr, Act.put]
           refine wpAnyH_take (i := 1) (v := ?v2) rfl (by kernel_rfl) (by kernel_rfl) (by kernel_rfl) (fun _ _ _ h => h) (Or.inl ⟨?w2, ?y2⟩) hHeld ?r2
           case w2 => rfl
           case y2 => (intro w hSw; go_simp; try with_reducible rfl)
           simp only [rtPr, Act.put]
           refine wpAnyH_take (i := 2) (v := ?v3) rfl (by kernel_rfl) (by kernel_rfl) (by kernel_rfl) (fun _ _ _ h => h) (Or.inl ⟨?w3, ?y3⟩) hHeld ?r3
           case w3 => rfl
           case y3 => (intro w hSw; go_simp; try with_reducible rfl)
           simp only [rtPr, Act.put]
           refine wpAnyH_take (i := 3) (v := undef) rfl (by kernel_rfl) (by kernel_rfl) (by kernel_rfl) (fun _ _ _ h => h) (Or.inr ⟨by rfl, rfl⟩) hHeld ?r4
           simp only [rtPr, Act.put]
           refine wpAnyH_take (i := 4) (v := undef) rfl (by kernel_rfl) (by kernel_rfl) (by kernel_rfl) (fun _ _ _ h => h) (Or.inr ⟨by rfl, rfl⟩) hHeld ?r5
           simp only [rtPr, Act.put]
           refine wpAnyH_take (i := 5) (v := undef) rfl (by kernel_rfl) (by kernel_rfl) (by kernel_rfl) (fun _ _ _ h => h) (Or.inr ⟨by rfl, rfl⟩) hHeld ?r6
           simp only [rtPr, Act.put]
           refine wpAnyH_take (i := 6) (v := undef) rfl (by kernel_rfl) (by kernel_rfl) (by kernel_rfl) (fun _ _ _ h => h) (Or.inr ⟨by rfl, rfl⟩) hHeld ?r7
           simp only [rtPr, Act.put]
           refine wpAnyH_take (i := 7) (v := ?v8) rfl (by kernel_rfl) (by kernel_rfl) (by kernel_rfl) (fun _ _ _ h => h) (Or.inl ⟨?w8, ?y8⟩) hHeld ?r8
           case w8 => rfl
           case y8 => (intro w hSw; go_simp; try with_reducible rfl)
           simp only [rtPr, Act.put]
           refine wpAnyH_take (i := 8) (v := ?v9) rfl (by kernel_rfl) (by kernel_rfl) (by kernel_rfl) (fun _ _ _ h => h) (Or.inl ⟨?w9, ?y9⟩) hHeld ?r9
           case w9 => rfl
           case y9 => (intro w hSw; go_simp; try with_reducible rfl)
           simp only [rtPr, Act.put]
           refine wpAnyH_take (i := 9) (v := undef) rfl (by kernel_rfl) (by kernel_rfl) (by kernel_rfl) (fun _ _ _ h => h) (Or.inr ⟨by rfl, rfl⟩) hHeld ?r10
           simp only [rtPr, Act.put]
           refine wpAnyH_take (i := 10) (v := undef) rfl (by kernel_rfl) (by kernel_rfl) (by kernel_rfl) (fun _ _ _ h => h) (Or.inr ⟨by rfl, rfl⟩) hHeld ?r11
           simp only [rtPr, Act.put]
           refine wpAnyH_take (i := 11) (v := undef) rfl (by kernel_rfl) (by kernel_rfl) (by kernel_rfl) (fun _ _ _ h => h) (Or.inr ⟨by rfl, rfl⟩) hHeld ?r12
           simp only [rtPr, Act.put]
           refine wpAnyH_take (i := 12) (v := ?v13) rfl (by kernel_rfl) (by kernel_rfl) (by kernel_rfl) (fun _ _ _ h => h) (Or.inl ⟨?w13, ?y13⟩) hHeld ?r13
           case w13 => rfl
           case y13 => (intro w hSw; go_simp; try with_reducible rfl)
           simp only [rtPr, Act.put]
           refine wpAnyH_take (i := 13) (v := ?v14) rfl (by kernel_rfl) (by kernel_rfl) (by kernel_rfl) (fun _ _ _ h => h) (Or.inl ⟨?w14, ?y14⟩) hHeld ?r14
           case w14 => rfl
           case y14 => (intro w hSw; go_simp; try with_reducible rfl)
           simp only [rtPr, Act.put]
           refine wpAnyH_take (i := 14) (v := undef) rfl (by kernel_rfl) (by kernel_rfl) (by kernel_rfl) (fun _ _ _ h => h) (Or.inr ⟨by rfl, rfl⟩) hHeld ?r15
           simp only [rtPr, Act.put]
           refine wpAnyH_take (i := 15) (v := undef) rfl (by kernel_rfl) (by kernel_rfl) (by kernel_rfl) (fun _ _ _ h => h) (Or.inr ⟨by rfl, rfl⟩) hHeld ?r16
           simp only [rtPr, Act.put]
           refine wpAnyH_take (i := 16) (v := undef) rfl (by kernel_rfl) (by kernel_rfl) (by kernel_rfl) (fun _ _ _ h => h) (Or.inr ⟨by rfl, rfl⟩) hHeld ?r17
           simp only [rtPr, Act.put]
           refine wpAnyH_take (i := 17) (v := undef) rfl (by kernel_rfl) (by kernel_rfl) (by kernel_rfl) (fun _ _ _ h => h) (Or.inr ⟨by rfl, rfl⟩) hHeld ?r18
           simp only [rtPr, Act.put]
           refine wpAnyH_take (i := 18) (v := undef) rfl (by kernel_rfl) (by kernel_rfl) (by kernel_rfl) (fun _ _ _ h => h) (Or.inr ⟨by rfl, rfl⟩) hHeld ?r19
           simp only [rtPr, Act.put]
           refine wpAnyH_take (i := 19) (v := undef) rfl (by kernel_rfl) (by kernel_rfl) (by kernel_rfl) (fun _ _ _ h => h) (Or.inr ⟨by rfl, rfl⟩) hHeld ?r20
           simp only [rtPr, Act.put]
           refine wpAnyH_take (i := 20) (v := undef) rfl (by kernel_rfl) (by kernel_rfl) (by kernel_rfl) (fun _ _ _ h => h) (Or.inr ⟨by rfl, rfl⟩) hHeld ?r21
           simp only [rtPr, Act.put]
           refine wpAnyH_take (i := 21) (v := undef) rfl (by kernel_rfl) (by kernel_rfl) (by kernel_rfl) (fun _ _ _ h => h) (Or.inr ⟨by rfl, rfl⟩) hHeld ?r22
           simp only [rtPr, Act.put]
           refine wpAnyH_take (i := 22) (v := undef) rfl (by kernel_rfl) (by kernel_rfl) (by kernel_rfl) (fun _ _ _ h => h) (Or.inr ⟨by rfl, rfl⟩) hHeld ?r23
           simp only [rtPr, Act.put]
           refine wpAnyH_take (i := 23) (v := ?v24) rfl (by kernel_rfl) (by kernel_rfl) (by kernel_rfl) (fun _ _ _ h => h) (Or.inl ⟨?w24, ?y24⟩) hHeld ?r24
           case w24 => rfl
           case y24 => (intro w hSw; go_simp; try with_reducible rfl)
           simp only [rtPr, Act.put]
           refine wpAnyH_take (i := 24) (v := ?v25) rfl (by kernel_rfl) (by kernel_rfl) (by kernel_rfl) (fun _ _ _ h => h) (Or.inl ⟨?w25, ?y25⟩) hHeld ?r25
           case w25 => rfl
           case y25 => (intro w hSw; go_simp; try with_reducible rfl)
           simp only [rtPr, Act.put]
           refine wpAnyH_take (i := 25) (v := undef) rfl (by kernel_rfl) (by kernel_rfl) (by kernel_rfl) (fun _ _ _ h => h) (Or.inr ⟨by rfl, rfl⟩) hHeld ?r26
           simp only [rtPr, Act.put]
           refine wpAnyH_take (i := 26) (v := undef) rfl (by kernel_rfl) (by kernel_rfl) (by kernel_rfl) (fun _ _ _ h => h) (Or.inr ⟨by rfl, rfl⟩) hHeld ?r27
           simp only [rtPr, Act.put]
           refine wpAnyH_take (i := 27) (v := undef) rfl (by kernel_rfl) (by kernel_rfl) (by kernel_rfl) (fun _ _ _ h => h) (Or.inr ⟨by rfl, rfl⟩) hHeld ?r28
           simp only [rtPr, Act.put]
           refine wpAnyH_take (i := 28) (v := undef) rfl (by kernel_rfl) (by kernel_rfl) (by kernel_rfl) (fun _ _ _ h => h) (Or.inr ⟨by rfl, rfl⟩) hHeld ?r29
           simp only [rtPr, Act.put]
           refine wpAnyH_take (i := 29) (v := undef) rfl (by kernel_rfl) (by kernel_rfl) (by kernel_rfl) (fun _ _ _ h => h) (Or.inr ⟨by rfl, rfl⟩) hHeld ?r30
           simp only [rtPr, Act.put]
           refine wpAnyH_take (i := 30) (v := undef) rfl (by kernel_rfl) (by kernel_rfl) (by kernel_rfl) (fun _ _ _ h => h) (Or.inr ⟨by rfl, rfl⟩) hHeld ?r31
           simp only [rtPr, Act.put]
           refine wpAnyH_take (i := 31) (v := undef) rfl (by kernel_rfl) (by kernel_rfl) (by kernel_rfl) (fun _ _ _ h => h) (Or.inr ⟨by rfl, rfl⟩) hHeld ?r32
           simp only [rtPr, Act.put]
           refine wpAnyH_take (i := 32) (v := undef) rfl (by kernel_rfl) (by kernel_rfl) (by kernel_rfl) (fun _ _ _ h => h) (Or.inr ⟨by rfl, rfl⟩) hHeld ?r33
           simp only [rtPr, Act.put]
           refine wpAnyH_take (i := 33) (v := undef) rfl (by kernel_rfl) (by kernel_rfl) (by kernel_rfl) (fun _ _ _ h => h) (Or.inr ⟨by rfl, rfl⟩) hHeld ?r34
           simp only [rtPr, Act.put]
           refine wpAnyH_take (i := 35) (v := undef) rfl (by kernel_rfl) (by kernel_rfl) (by kernel_rfl) (fun _ _ _ h => h) (Or.inr ⟨by rfl, rfl⟩) hHeld ?r35
           simp only [rtPr, Act.put]
           refine wpAnyH_take (i := 34) (v := undef) rfl (by kernel_rfl) (by kernel_rfl) (by kernel_rfl) (fun _ _ _ h => h) (Or.inr ⟨by rfl, rfl⟩) hHeld ?r36
           simp only [rtPr, Act.put]
           refine wpAnyH_take (i := 36) (v := undef) rfl (by kernel_rfl) (by kernel_rfl) (by kernel_rfl) (fun _ _ _ h => h) (Or.inr ⟨by rfl, rfl⟩) hHeld ?r37
           simp only [rtPr, Act.put]
           refine wpAnyH_take (i := 37) (v := undef) rfl (by kernel_rfl) (by kernel_rfl) (by kernel_rfl) (fun _ _ _ h => h) (Or.inr ⟨by rfl, rfl⟩) hHeld ?r38
           simp only [rtPr, Act.put]
           refine wpAnyH_take (i := 38) (v := undef) rfl (by kernel_rfl) (by kernel_rfl) (by kernel_rfl) (fun _ _ _ h => h) (Or.inr ⟨by rfl, rfl⟩) hHeld ?r39
           simp only [rtPr, Act.put]
           refine wpAnyH_take (i := 39) (v := ?v40) rfl (by kernel_rfl) (by kernel_rfl) (by kernel_rfl) (fun _ _ _ h => h) (Or.inl ⟨?w40, ?y40⟩) hHeld ?r40
           case w40 => rfl
           case y40 => (intro w hSw; go_simp; try with_reducible rfl)
           simp only [rtPr, Act.put]
           refine wpAnyH_done (by kernel_rfl) ?_ _
           have HS := Lib.hid (HE2.out.trans (hx.trans hHeld))
           clear hHeld
           go_wp2_with fail
           go_ret
           exact ⟨ret_bool hfin.out.symm, HS.out⟩
          ·have hdy : decide (y < 0) = false := decide_eq_false (by omega)
           rcases Int.lt_or_le y m.n with hyn | hyn
           case inr =>
            have hfin : Hid (rightB m ps = false) := HRF.out (pathB_nd hklt (by unfold nodeB; rw [HYK.out, decide_eq_false (show ¬ y < m.n by omega)]; simp))
            have hdn : decide (m.w * m.h * m.l ≤ y) = true := decide_eq_true hyn
            clear hyn
            refine wp_region_held_drew (S := fun W => Ext wk W) (by kernel_rfl) ((Ext.refl wk).drew) (fun hHeld => ?_)
            refine wpAnyH_take (i := 0) (v := ?v41) rfl (by kernel_rfl) (by kernel_rfl) (by kernel_rfl) (fun _ _ _ h => h) (Or.inl ⟨?w41, ?y41⟩) hHeld ?r41
            case w41 => rfl
            case y41 => (intro w hSw; go_simp; try with_reducible rfl)
            simp only [rtPr, Act.put]
            refine wpAnyH_take (i := 1) (v := ?v42) rfl (by kernel_rfl) (by kernel_rfl) (by kernel_rfl) (fun _ _ _ h => h) (Or.inl ⟨?w42, ?y42⟩) hHeld ?r42
            case w42 => rfl
            case y42 => (intro w hSw; go_simp; try with_reducible rfl)
            simp only [rtPr, Act.put]
            refine wpAnyH_take (i := 2) (v := ?v43) rfl (by kernel_rfl) (by kernel_rfl) (by kernel_rfl) (fun _ _ _ h => h) (Or.inl ⟨?w43, ?y43⟩) hHeld ?r43
            case w43 => rfl
            case y43 => (intro w hSw; go_simp; try with_reducible rfl)
            simp only [rtPr, Act.put]
            refine wpAnyH_take (i := 3) (v := ?v44) rfl (by kernel_rfl) (by kernel_rfl) (by kernel_rfl) (fun _ _ _ h => h) (Or.inl ⟨?w44, ?y44⟩) hHeld ?r44
            case w44 => rfl
            case y44 => (intro w hSw; go_simp; try with_reducible rfl)
            simp only [rtPr, Act.put]
            refine wpAnyH_take (i := 4) (v := ?v45) rfl (by kernel_rfl) (by kernel_rfl) (by kernel_rfl) (fun _ _ _ h => h) (Or.inl ⟨?w45, ?y45⟩) hHeld ?r45
            case w45 => rfl
            case y45 => (intro w hSw; go_simp; try with_reducible rfl)
            simp only [rtPr, Act.put]
            refine wpAnyH_ready (rs := [5]) (by kernel_rfl) (by simp) ?_
            refine AllReadyH.cons rfl (fun K hK => ?_) AllReadyH.nil
            go_simp
            go_at_call 49
            refine (HALL.out _).mono ?_
            rintro e w9 ⟨rfl, hb9⟩
            go_simp
            refine hK.out _ _ (Ext.trans hHeld hb9) (fun hHeld => ?_)
            clear hK K
            try simp only [rtPr, Act.put]
            refine wpAnyH_take (i := 6) (v := ?v46) rfl (by kernel_rfl) (by kernel_rfl) (by kernel_rfl) (fun _ _ _ h => h) (Or.inl ⟨?w46, ?y46⟩) hHeld ?r46
            case w46 => rfl
            case y46 => (intro w hSw; go_simp; try with_reducible rfl)
            simp only [rtPr, Act.put]
            refine wpAnyH_take (i := 7) (v := ?v47) rfl (by kernel_rfl) (by kernel_rfl) (by kernel_rfl) (fun _ _ _ h => h) (Or.inl ⟨?w47, ?y47⟩) hHeld ?r47
            case w47 => rfl
            case y47 => (intro w hSw; go_simp; try with_reducible rfl)
            simp only [rtPr, Act.put]
            refine wpAnyH_take (i := 8) (v := ?v48) rfl (by kernel_rfl) (by kernel_rfl) (by kernel_rfl) (fun _ _ _ h => h) (Or.inl ⟨?w48, ?y48⟩) hHeld ?r48
            case w48 => rfl
            case y48 => (intro w hSw; go_simp; try with_reducible rfl)
            simp only [rtPr, Act.put]
            refine wpAnyH_take (i := 9) (v := undef) rfl (by kernel_rfl) (by kernel_rfl) (by kernel_rfl) (fun _ _ _ h => h) (Or.inr ⟨by rfl, rfl⟩) hHeld ?r49
            simp only [rtPr, Act.put]
            refine wpAnyH_take (i := 10) (v := undef) rfl (by kernel_rfl) (by kernel_rfl) (by kernel_rfl) (fun _ _ _ h => h) (Or.inr ⟨by rfl, rfl⟩) hHeld ?r50
            simp only [rtPr, Act.put]
            refine wpAnyH_take (i := 11) (v := undef) rfl (by kernel_rfl) (by kernel_rfl) (by kernel_rfl) (fun _ _ _ h => h) (Or.inr ⟨by rfl, rfl⟩) hHeld ?r51
            simp only [rtPr, Act.put]
            refine wpAnyH_take (i := 12) (v := ?v52) rfl (by kernel_rfl) (by kernel_rfl) (by kernel_rfl) (fun _ _ _ h => h) (Or.inl ⟨?w52, ?y52⟩) hHeld ?r52
            case w52 => rfl
            case y52 => (intro w hSw; go_simp; try with_reducible rfl)
            simp only [rtPr, Act.put]
            refine wpAnyH_take (i := 13) (v := ?v53) rfl (by kernel_rfl) (by kernel_rfl) (by kernel_rfl) (fun _ _ _ h => h) (Or.inl ⟨?w53, ?y53⟩) hHeld ?r53
            case w53 => rfl
            case y53 => (intro w hSw; go_simp; try with_reducible rfl)
            simp only [rtPr, Act.put]
            refine wpAnyH_take (i := 14) (v := undef) rfl (by kernel_rfl) (by kernel_rfl) (by kernel_rfl) (fun _ _ _ h => h) (Or.inr ⟨by rfl, rfl⟩) hHeld ?r54
            simp only [rtPr, Act.put]
            refine wpAnyH_take (i := 15) (v := undef) rfl (by kernel_rfl) (by kernel_rfl) (by kernel_rfl) (fun _ _ _ h => h) (Or.inr ⟨by rfl, rfl⟩) hHeld ?r55
            simp only [rtPr, Act.put]
            refine wpAnyH_take (i := 16) (v := undef) rfl (by kernel_rfl) (by kernel_rfl) (by kernel_rfl) (fun _ _ _ h => h) (Or.inr ⟨by rfl, rfl⟩) hHeld ?r56
            simp only [rtPr, Act.put]
            refine wpAnyH_take (i := 17) (v := undef) rfl (by kernel_rfl) (by kernel_rfl) (by kernel_rfl) (fun _ _ _ h => h) (Or.inr ⟨by rfl, rfl⟩) hHeld ?r57
            simp only [rtPr, Act.put]
            refine wpAnyH_take (i := 18) (v := undef) rfl (by kernel_rfl) (by kernel_rfl) (by kernel_rfl) (fun _ _ _ h => h) (Or.inr ⟨by rfl, rfl⟩) hHeld ?r58
            simp only [rtPr, Act.put]
            refine wpAnyH_take (i := 19) (v := undef) rfl (by kernel_rfl) (by kernel_rfl) (by kernel_rfl) (fun _ _ _ h => h) (Or.inr ⟨by rfl, rfl⟩) hHeld ?r59
            simp only [rtPr, Act.put]
            refine wpAnyH_take (i := 20) (v := undef) rfl (by kernel_rfl) (by kernel_rfl) (by kernel_rfl) (fun _ _ _ h => h) (Or.inr ⟨by rfl, rfl⟩) hHeld ?r60
            simp only [rtPr, Act.put]
            refine wpAnyH_take (i := 21) (v := undef) rfl (by kernel_rfl) (by kernel_rfl) (by kernel_rfl) (fun _ _ _ h => h) (Or.inr ⟨by rfl, rfl⟩) hHeld ?r61
            simp only [rtPr, Act.put]
            refine wpAnyH_take (i := 22) (v := undef) rfl (by kernel_rfl) (by kernel_rfl) (by kernel_rfl) (fun _ _ _ h => h) (Or.inr ⟨by rfl, rfl⟩) hHeld ?r62
            simp only [rtPr, Act.put]
            refine wpAnyH_take (i := 23) (v := ?v63) rfl (by kernel_rfl) (by kernel_rfl) (by kernel_rfl) (fun _ _ _ h => h) (Or.inl ⟨?w63, ?y63⟩) hHeld ?r63
            case w63 => rfl
            case y63 => (intro w hSw; go_simp; try with_reducible rfl)
            simp only [rtPr, Act.put]
            refine wpAnyH_take (i := 24) (v := ?v64) rfl (by kernel_rfl) (by kernel_rfl) (by kernel_rfl) (fun _ _ _ h => h) (Or.inl ⟨?w64, ?y64⟩) hHeld ?r64
            case w64 => rfl
            case y64 => (intro w hSw; go_simp; try with_reducible rfl)
            simp only [rtPr, Act.put]
            refine wpAnyH_take (i := 25) (v := undef) rfl (by kernel_rfl) (by kernel_rfl) (by kernel_rfl) (fun _ _ _ h => h) (Or.inr ⟨by rfl, rfl⟩) hHeld ?r65
            simp only [rtPr, Act.put]
            refine wpAnyH_take (i := 26) (v := undef) rfl (by kernel_rfl) (by kernel_rfl) (by kernel_rfl) (fun _ _ _ h => h) (Or.inr ⟨by rfl, rfl⟩) hHeld ?r66
            simp only [rtPr, Act.put]
            refine wpAnyH_take (i := 27) (v := undef) rfl (by kernel_rfl) (by kernel_rfl) (by kernel_rfl) (fun _ _ _ h => h) (Or.inr ⟨by rfl, rfl⟩) hHeld ?r67
            simp only [rtPr, Act.put]
            refine wpAnyH_take (i := 28) (v := undef) rfl (by kernel_rfl) (by kernel_rfl) (by kernel_rfl) (fun _ _ _ h => h) (Or.inr ⟨by rfl, rfl⟩) hHeld ?r68
            simp only [rtPr, Act.put]
            refine wpAnyH_take (i := 29) (v := undef) rfl (by kernel_rfl) (by kernel_rfl) (by kernel_rfl) (fun _ _ _ h => h) (Or.inr ⟨by rfl, rfl⟩) hHeld ?r69
            simp only [rtPr, Act.put]
            refine wpAnyH_take (i := 30) (v := undef) rfl (by kernel_rfl) (by kernel_rfl) (by kernel_rfl) (fun _ _ _ h => h) (Or.inr ⟨by rfl, rfl⟩) hHeld ?r70
            simp only [rtPr, Act.put]
            refine wpAnyH_take (i := 31) (v := undef) rfl (by kernel_rfl) (by kernel_rfl) (by kernel_rfl) (fun _ _ _ h => h) (Or.inr ⟨by rfl, rfl⟩) hHeld ?r71
            simp only [rtPr, Act.put]
            refine wpAnyH_take (i := 32) (v := undef) rfl (by kernel_rfl) (by kernel_rfl) (by kernel_rfl) (fun _ _ _ h => h) (Or.inr ⟨by rfl, rfl⟩) hHeld ?r72
            simp only [rtPr, Act.put]
            refine wpAnyH_take (i := 33) (v := undef) rfl (by kernel_rfl) (by kernel_rfl) (by kernel_rfl) (fun _ _ _ h => h) (Or.inr ⟨by rfl, rfl⟩) hHeld ?r73
            simp only [rtPr, Act.put]
            refine wpAnyH_take (i := 35) (v := undef) rfl (by kernel_rfl) (by kernel_rfl) (by kernel_rfl) (fun _ _ _ h => h) (Or.inr ⟨by rfl, rfl⟩) hHeld ?r74
            simp only [rtPr, Act.put]
            refine wpAnyH_take (i := 34) (v := undef) rfl (by kernel_rfl) (by kernel_rfl) (by kernel_rfl) (fun _ _ _ h => h) (Or.inr ⟨by rfl, rfl⟩) hHeld ?r75
            simp only [rtPr, Act.put]
            refine wpAnyH_take (i := 36) (v := undef) rfl (by kernel_rfl) (by kernel_rfl) (by kernel_rfl) (fun _ _ _ h => h) (Or.inr ⟨by rfl, rfl⟩) hHeld ?r76
            simp only [rtPr, Act.put]
            refine wpAnyH_take (i := 37) (v := undef) rfl (by kernel_rfl) (by kernel_rfl) (by kernel_rfl) (fun _ _ _ h => h) (Or.inr ⟨by rfl, rfl⟩) hHeld ?r77
            simp only [rtPr, Act.put]
            refine wpAnyH_take (i := 38) (v := undef) rfl (by kernel_rfl) (by kernel_rfl) (by kernel_rfl) (fun _ _ _ h => h) (Or.inr ⟨by rfl, rfl⟩) hHeld ?r78
            simp only [rtPr, Act.put]
            refine wpAnyH_take (i := 39) (v := ?v79) rfl (by kernel_rfl) (by kernel_rfl) (by kernel_rfl) (fun _ _ _ h => h) (Or.inl ⟨?w79, ?y79⟩) hHeld ?r79
            case w79 => rfl
            case y79 => (intro w hSw; go_simp; try with_reducible rfl)
            simp only [rtPr, Act.put]
            refine wpAnyH_done (by kernel_rfl) ?_ _
            have HS := Lib.hid (HE2.out.trans (hx.trans hHeld))
            clear hHeld
            go_wp2_with fail
            go_ret
            exact ⟨ret_bool hfin.out.symm, HS.out⟩
           case inl =>
            have hdn : decide (m.w * m.h * m.l ≤ y) = false := decide_eq_false (by have : m.n = m.w * m.h * m.l := rfl; omega)
            obtain ⟨s, hset, hss⟩ := hJ.out.1.set
            by_cases hys : y ∈ s
            ·have hfin : Hid (rightB m ps = false) := HRF.out (pathB_nd hklt (by unfold nodeB; rw [HYK.out, decide_eq_true ((hss y).1 hys)]; simp))
             have hlk : ∀ W, Ext wk W → (Instr.lookup 82 (.map (some gs)) (.int .i64 y) false).run Try.prog W = .ok (.bool true) W := fun W hW => look_t (hset.below hW) hys
             clear hset hss hys hyn
             refine wp_region_held_drew (S := fun W => Ext wk W) (by kernel_rfl) ((Ext.refl wk).drew) (fun hHeld => ?_)
             refine wpAnyH_take (i := 0) (v := ?v80) rfl (by kernel_rfl) (by kernel_rfl) (by kernel_rfl) (fun _ _ _ h => h) (Or.inl ⟨?w80, ?y80⟩) hHeld ?r80
             case w80 => rfl
             case y80 => (intro w hSw; go_simp; try with_reducible rfl)
             simp only [rtPr, Act.put]
             refine wpAnyH_take (i := 1) (v := ?v81) rfl (by kernel_rfl) (by kernel_rfl) (by kernel_rfl) (fun _ _ _ h => h) (Or.inl ⟨?w81, ?y81⟩) hHeld ?r81
             case w81 => rfl
             case y81 => (intro w hSw; go_simp; try with_reducible rfl)
             simp only [rtPr, Act.put]
             refine wpAnyH_take (i := 2) (v := ?v82) rfl (by kernel_rfl) (by kernel_rfl) (by kernel_rfl) (fun _ _ _ h => h) (Or.inl ⟨?w82, ?y82⟩) hHeld ?r82
             case w82 => rfl
             case y82 => (intro w hSw; go_simp; try with_reducible rfl)
             simp only [rtPr, Act.put]
             refine wpAnyH_take (i := 3) (v := ?v83) rfl (by kernel_rfl) (by kernel_rfl) (by kernel_rfl) (fun _ _ _ h => h) (Or.inl ⟨?w83, ?y83⟩) hHeld ?r83
             case w83 => rfl
             case y83 => (intro w hSw; go_simp; try with_reducible rfl)
             simp only [rtPr, Act.put]
             refine wpAnyH_take (i := 4) (v := ?v84) rfl (by kernel_rfl) (by kernel_rfl) (by kernel_rfl) (fun _ _ _ h => h) (Or.inl ⟨?w84, ?y84⟩) hHeld ?r84
             case w84 => rfl
             case y84 => (intro w hSw; go_simp; try with_reducible rfl)
             simp only [rtPr, Act.put]
             refine wpAnyH_ready (rs := [5]) (by kernel_rfl) (by simp) ?_
             refine AllReadyH.cons rfl (fun K hK => ?_) AllReadyH.nil
             go_simp
             go_at_call 49
             refine (HALL.out _).mono ?_
             rintro e w9 ⟨rfl, hb9⟩
             go_simp
             refine hK.out _ _ (Ext.trans hHeld hb9) (fun hHeld => ?_)
             clear hK K
             try simp only [rtPr, Act.put]
             refine wpAnyH_take (i := 6) (v := ?v85) rfl (by kernel_rfl) (by kernel_rfl) (by kernel_rfl) (fun _ _ _ h => h) (Or.inl ⟨?w85, ?y85⟩) hHeld ?r85
             case w85 => rfl
             case y85 => (intro w hSw; go_simp; try with_reducible rfl)
             simp only [rtPr, Act.put]
             refine wpAnyH_take (i := 7) (v := ?v86) rfl (by kernel_rfl) (by kernel_rfl) (by kernel_rfl) (fun _ _ _ h => h) (Or.inl ⟨?w86, ?y86⟩) hHeld ?r86
             case w86 => rfl
             case y86 => (intro w hSw; go_simp; try with_reducible rfl)
             simp only [rtPr, Act.put]
             refine wpAnyH_take (i := 8) (v := ?v87) rfl (by kernel_rfl) (by kernel_rfl) (by kernel_rfl) (fun _ _ _ h => h) (Or.inl ⟨?w87, ?y87⟩) hHeld ?r87
             case w87 => rfl
             case y87 => (intro w hSw; go_simp; try with_reducible rfl)
             simp only [rtPr, Act.put]
             refine wpAnyH_take (i := 9) (v := ?v88) rfl (by kernel_rfl) (by kernel_rfl) (by kernel_rfl) (fun _ _ _ h => h) (Or.inl ⟨?w88, ?y88⟩) hHeld ?r88
             case w88 => rfl
             case y88 => (intro w hSw; go_simp; try with_reducible rfl)
             simp only [rtPr, Act.put]
             refine wpAnyH_take (i := 10) (v := ?v89) rfl (by kernel_rfl) (by kernel_rfl) (by kernel_rfl) (fun _ _ _ h => h) (Or.inl ⟨?w89, ?y89⟩) hHeld ?r89
             case w89 => rfl
             case y89 => (intro w hSw; go_simp; try with_reducible rfl)
             simp only [rtPr, Act.put]
             refine wpAnyH_take (i := 11) (v := ?v90) rfl (by kernel_rfl) (by kernel_rfl) (by kernel_rfl) (fun _ _ _ h => h) (Or.inl ⟨?w90, ?y90⟩) hHeld ?r90
             case w90 => rfl
             case y90 => (intro w hSw; go_simp; try with_reducible rfl)
             simp only [rtPr, Act.put]
             refine wpAnyH_take (i := 12) (v := ?v91) rfl (by kernel_rfl) (by kernel_rfl) (by kernel_rfl) (fun _ _ _ h => h) (Or.inl ⟨?w91, ?y91⟩) hHeld ?r91
             case w91 => rfl
             case y91 => (intro w hSw; go_simp; try with_reducible rfl)
             simp only [rtPr, Act.put]
             refine wpAnyH_take (i := 13) (v := ?v92) rfl (by kernel_rfl) (by kernel_rfl) (by kernel_rfl) (fun _ _ _ h => h) (Or.inl ⟨?w92, ?y92⟩) hHeld ?r92
             case w92 => rfl
             case y92 => (intro w hSw; go_simp; try with_reducible rfl)
             simp only [rtPr, Act.put]
             refine wpAnyH_take (i := 14) (v := undef) rfl (by kernel_rfl) (by kernel_rfl) (by kernel_rfl) (fun _ _ _ h => h) (Or.inr ⟨by rfl, rfl⟩) hHeld ?r93
             simp only [rtPr, Act.put]
             refine wpAnyH_take (i := 15) (v := undef) rfl (by kernel_rfl) (by kernel_rfl) (by kernel_rfl) (fun _ _ _ h => h) (Or.inr ⟨by rfl, rfl⟩) hHeld ?r94
             simp only [rtPr, Act.put]
             refine wpAnyH_take (i := 16) (v := undef) rfl (by kernel_rfl) (by kernel_rfl) (by kernel_rfl) (fun _ _ _ h => h) (Or.inr ⟨by rfl, rfl⟩) hHeld ?r95
             simp only [rtPr, Act.put]
             refine wpAnyH_take (i := 17) (v := undef) rfl (by kernel_rfl) (by kernel_rfl) (by kernel_rfl) (fun _ _ _ h => h) (Or.inr ⟨by rfl, rfl⟩) hHeld ?r96
             simp only [rtPr, Act.put]
             refine wpAnyH_take (i := 18) (v := undef) rfl (by kernel_rfl) (by kernel_rfl) (by kernel_rfl) (fun _ _ _ h => h) (Or.inr ⟨by rfl, rfl⟩) hHeld ?r97
             simp only [rtPr, Act.put]
             refine wpAnyH_take (i := 19) (v := undef) rfl (by kernel_rfl) (by kernel_rfl) (by kernel_rfl) (fun _ _ _ h => h) (Or.inr ⟨by rfl, rfl⟩) hHeld ?r98
             simp only [rtPr, Act.put]
             refine wpAnyH_take (i := 20) (v := undef) rfl (by kernel_rfl) (by kernel_rfl) (by kernel_rfl) (fun _ _ _ h => h) (Or.inr ⟨by rfl, rfl⟩) hHeld ?r99
             simp only [rtPr, Act.put]
             refine wpAnyH_take (i := 21) (v := undef) rfl (by kernel_rfl) (by kernel_rfl) (by kernel_rfl) (fun _ _ _ h => h) (Or.inr ⟨by rfl, rfl⟩) hHeld ?r100
             simp only [rtPr, Act.put]
             refine wpAnyH_take (i := 22) (v := undef) rfl (by kernel_rfl) (by kernel_rfl) (by kernel_rfl) (fun _ _ _ h => h) (Or.inr ⟨by rfl, rfl⟩) hHeld ?r101
             simp only [rtPr, Act.put]
             refine wpAnyH_take (i := 23) (v := ?v102) rfl (by kernel_rfl) (by kernel_rfl) (by kernel_rfl) (fun _ _ _ h => h) (Or.inl ⟨?w102, ?y102⟩) hHeld ?r102
             case w102 => rfl
             case y102 => (intro w hSw; go_simp; try with_reducible rfl)
             simp only [rtPr, Act.put]
             refine wpAnyH_take (i := 24) (v := ?v103) rfl (by kernel_rfl) (by kernel_rfl) (by kernel_rfl) (fun _ _ _ h => h) (Or.inl ⟨?w103, ?y103⟩) hHeld ?r103
             case w103 => rfl
             case y103 => (intro w hSw; go_simp; try with_reducible rfl)
             simp only [rtPr, Act.put]
             refine wpAnyH_take (i := 25) (v := undef) rfl (by kernel_rfl) (by kernel_rfl) (by kernel_rfl) (fun _ _ _ h => h) (Or.inr ⟨by rfl, rfl⟩) hHeld ?r104
             simp only [rtPr, Act.put]
             refine wpAnyH_take (i := 26) (v := undef) rfl (by kernel_rfl) (by kernel_rfl) (by kernel_rfl) (fun _ _ _ h => h) (Or.inr ⟨by rfl, rfl⟩) hHeld ?r105
             simp only [rtPr, Act.put]
             refine wpAnyH_take (i := 27) (v := undef) rfl (by kernel_rfl) (by kernel_rfl) (by kernel_rfl) (fun _ _ _ h => h) (Or.inr ⟨by rfl, rfl⟩) hHeld ?r106
             simp only [rtPr, Act.put]
             refine wpAnyH_take (i := 28) (v := undef) rfl (by kernel_rfl) (by kernel_rfl) (by kernel_rfl) (fun _ _ _ h => h) (Or.inr ⟨by rfl, rfl⟩) hHeld ?r107
             simp only [rtPr, Act.put]
             refine wpAnyH_take (i := 29) (v := undef) rfl (by kernel_rfl) (by kernel_rfl) (by kernel_rfl) (fun _ _ _ h => h) (Or.inr ⟨by rfl, rfl⟩) hHeld ?r108
             simp only [rtPr, Act.put]
             refine wpAnyH_take (i := 30) (v := undef) rfl (by kernel_rfl) (by kernel_rfl) (by kernel_rfl) (fun _ _ _ h => h) (Or.inr ⟨by rfl, rfl⟩) hHeld ?r109
             simp only [rtPr, Act.put]
             refine wpAnyH_take (i := 31) (v := undef) rfl (by kernel_rfl) (by kernel_rfl) (by kernel_rfl) (fun _ _ _ h => h) (Or.inr ⟨by rfl, rfl⟩) hHeld ?r110
             simp only [rtPr, Act.put]
             refine wpAnyH_take (i := 32) (v := undef) rfl (by kernel_rfl) (by kernel_rfl) (by kernel_rfl) (fun _ _ _ h => h) (Or.inr ⟨by rfl, rfl⟩) hHeld ?r111
             simp only [rtPr, Act.put]
             refine wpAnyH_take (i := 33) (v := undef) rfl (by kernel_rfl) (by kernel_rfl) (by kernel_rfl) (fun _ _ _ h => h) (Or.inr ⟨by rfl, rfl⟩) hHeld ?r112
             simp only [rtPr, Act.put]
             refine wpAnyH_take (i := 35) (v := undef) rfl (by kernel_rfl) (by kernel_rfl) (by kernel_rfl) (fun _ _ _ h => h) (Or.inr ⟨by rfl, rfl⟩) hHeld ?r113
             simp only [rtPr, Act.put]
             refine wpAnyH_take (i := 34) (v := undef) rfl (by kernel_rfl) (by kernel_rfl) (by kernel_rfl) (fun _ _ _ h => h) (Or.inr ⟨by rfl, rfl⟩) hHeld ?r114
             simp only [rtPr, Act.put]
             refine wpAnyH_take (i := 36) (v := undef) rfl (by kernel_rfl) (by kernel_rfl) (by kernel_rfl) (fun _ _ _ h => h) (Or.inr ⟨by rfl, rfl⟩) hHeld ?r115
             simp only [rtPr, Act.put]
             refine wpAnyH_take (i := 37) (v := undef) rfl (by kernel_rfl) (by kernel_rfl) (by kernel_rfl) (fun _ _ _ h => h) (Or.inr ⟨by rfl, rfl⟩) hHeld ?r116
             simp only [rtPr, Act.put]
             refine wpAnyH_take (i := 38) (v := undef) rfl (by kernel_rfl) (by kernel_rfl) (by kernel_rfl) (fun _ _ _ h => h) (Or.inr ⟨by rfl, rfl⟩) hHeld ?r117
             simp only [rtPr, Act.put]
             refine wpAnyH_take (i := 39) (v := ?v118) rfl (by kernel_rfl) (by kernel_rfl) (by kernel_rfl) (fun _ _ _ h => h) (Or.inl ⟨?w118, ?y118⟩) hHeld ?r118
             case w118 => rfl
             case y118 => (intro w hSw; go_simp; try with_reducible rfl)
             simp only [rtPr, Act.put]
             refine wpAnyH_done (by kernel_rfl) ?_ _
             have HS := Lib.hid (HE2.out.trans (hx.trans hHeld))
             clear hHeld
             go_wp2_with fail
             go_ret
             exact ⟨ret_bool hfin.out.symm, HS.out⟩
            ·have hlk : ∀ W, Ext wk W → (Instr.lookup 82 (.map (some gs)) (.int .i64 y) false).run Try.prog W = .ok (.bool false) W := fun W hW => look_f (hset.below hW) hys
             have HNS : Hid (y ∉ pre ++ p.take k) := fun h => hys ((hss y).2 h)
             have hfl : t < m.free.length := by have := HG.out.fl; omega
             obtain ⟨bf, offf, cf, bf', offf', lf, cf', rfl, hcf1, hnl, hlc, hfc, hcf2⟩ := mazeFree HMZ.out HG.out.fn hfl hy0 hyn
             have HYN := Lib.hid hyn
             have qf1 : ∀ W, Ext wk W → W.cell? ⟨bf, offf + t, none⟩ = some (.slice (some ⟨bf', offf', none⟩) lf cf') := fun W h => Ext.rule hcf1 W (HE2.out.trans (hx.trans h))
             have hfl1 : (t : Int) < (m.free.length : Int) := by omega
             clear hset hss hys hyn hcf1
             cases hfr : freeAt m t y with
             | false =>
              rw [hfr] at hcf2
              have qf2 : ∀ W, Ext wk W → W.cell? ⟨bf', offf' + y.toNat, none⟩ = some (.bool false) := fun W h => Ext.rule hcf2 W (HE2.out.trans (hx.trans h))
              have hfin : Hid (rightB m ps = false) := HRF.out (pathB_nd hklt (by unfold nodeB; rw [HYK.out, hfr]; simp))
              clear hcf2 hfr
              refine wp_region_held_drew (S := fun W => Ext wk W) (by kernel_rfl) ((Ext.refl wk).drew) (fun hHeld => ?_)
              refine wpAnyH_take (i := 0) (v := ?v119) rfl (by kernel_rfl) (by kernel_rfl) (by kernel_rfl) (fun _ _ _ h => h) (Or.inl ⟨?w119, ?y119⟩) hHeld ?r119
              case w119 => rfl
              case y119 => (intro w hSw; go_simp; try with_reducible rfl)
              simp only [rtPr, Act.put]
              refine wpAnyH_take (i := 1) (v := ?v120) rfl (by kernel_rfl) (by kernel_rfl) (by kernel_rfl) (fun _ _ _ h => h) (Or.inl ⟨?w120, ?y120⟩) hHeld ?r120
              case w120 => rfl
              case y120 => (intro w hSw; go_simp; try with_reducible rfl)
              simp only [rtPr, Act.put]
              refine wpAnyH_take (i := 2) (v := ?v121) rfl (by kernel_rfl) (by kernel_rfl) (by kernel_rfl) (fun _ _ _ h => h) (Or.inl ⟨?w121, ?y121⟩) hHeld ?r121
              case w121 => rfl
              case y121 => (intro w hSw; go_simp; try with_reducible rfl)
              simp only [rtPr, Act.put]
              refine wpAnyH_take (i := 3) (v := ?v122) rfl (by kernel_rfl) (by kernel_rfl) (by kernel_rfl) (fun _ _ _ h => h) (Or.inl ⟨?w122, ?y122⟩) hHeld ?r122
              case w122 => rfl
              case y122 => (intro w hSw; go_simp; try with_reducible rfl)
              simp only [rtPr, Act.put]
              refine wpAnyH_take (i := 4) (v := ?v123) rfl (by kernel_rfl) (by kernel_rfl) (by kernel_rfl) (fun _ _ _ h => h) (Or.inl ⟨?w123, ?y123⟩) hHeld ?r123
              case w123 => rfl
              case y123 => (intro w hSw; go_simp; try with_reducible rfl)
              simp only [rtPr, Act.put]
              refine wpAnyH_ready (rs := [5]) (by kernel_rfl) (by simp) ?_
              refine AllReadyH.cons rfl (fun K hK => ?_) AllReadyH.nil
              go_simp
              go_at_call 49
              refine (HALL.out _).mono ?_
              rintro e w9 ⟨rfl, hb9⟩
              go_simp
              refine hK.out _ _ (Ext.trans hHeld hb9) (fun hHeld => ?_)
              clear hK K
              try simp only [rtPr, Act.put]
              refine wpAnyH_take (i := 6) (v := ?v124) rfl (by kernel_rfl) (by kernel_rfl) (by kernel_rfl) (fun _ _ _ h => h) (Or.inl ⟨?w124, ?y124⟩) hHeld ?r124
              case w124 => rfl
              case y124 => (intro w hSw; go_simp; try with_reducible rfl)
              simp only [rtPr, Act.put]
              refine wpAnyH_take (i := 7) (v := ?v125) rfl (by kernel_rfl) (by kernel_rfl) (by kernel_rfl) (fun _ _ _ h => h) (Or.inl ⟨?w125, ?y125⟩) hHeld ?r125
              case w125 => rfl
              case y125 => (intro w hSw; go_simp; try with_reducible rfl)
              simp only [rtPr, Act.put]
              refine wpAnyH_take (i := 8) (v := ?v126) rfl (by kernel_rfl) (by kernel_rfl) (by kernel_rfl) (fun _ _ _ h => h) (Or.inl ⟨?w126, ?y126⟩) hHeld ?r126
              case w126 => rfl
              case y126 => (intro w hSw; go_simp; try with_reducible rfl)
              simp only [rtPr, Act.put]
              refine wpAnyH_take (i := 9) (v := ?v127) rfl (by kernel_rfl) (by kernel_rfl) (by kernel_rfl) (fun _ _ _ h => h) (Or.inl ⟨?w127, ?y127⟩) hHeld ?r127
              case w127 => rfl
              case y127 => (intro w hSw; go_simp; try with_reducible rfl)
              simp only [rtPr, Act.put]
              refine wpAnyH_take (i := 10) (v := ?v128) rfl (by kernel_rfl) (by kernel_rfl) (by kernel_rfl) (fun _ _ _ h => h) (Or.inl ⟨?w128, ?y128⟩) hHeld ?r128
              case w128 => rfl
              case y128 => (intro w hSw; go_simp; try with_reducible rfl)
              simp only [rtPr, Act.put]
              refine wpAnyH_take (i := 11) (v := ?v129) rfl (by kernel_rfl) (by kernel_rfl) (by kernel_rfl) (fun _ _ _ h => h) (Or.inl ⟨?w129, ?y129⟩) hHeld ?r129
              case w129 => rfl
              case y129 => (intro w hSw; go_simp; try with_reducible rfl)
              simp only [rtPr, Act.put]
              refine wpAnyH_take (i := 12) (v := ?v130) rfl (by kernel_rfl) (by kernel_rfl) (by kernel_rfl) (fun _ _ _ h => h) (Or.inl ⟨?w130, ?y130⟩) hHeld ?r130
              case w130 => rfl
              case y130 => (intro w hSw; go_simp; try with_reducible rfl)
              simp only [rtPr, Act.put]
              refine wpAnyH_take (i := 13) (v := ?v131) rfl (by kernel_rfl) (by kernel_rfl) (by kernel_rfl) (fun _ _ _ h => h) (Or.inl ⟨?w131, ?y131⟩) hHeld ?r131
              case w131 => rfl
              case y131 => (intro w hSw; go_simp; try with_reducible rfl)
              simp only [rtPr, Act.put]
              refine wpAnyH_take (i := 14) (v := ?v132) rfl (by kernel_rfl) (by kernel_rfl) (by kernel_rfl) (fun _ _ _ h => h) (Or.inl ⟨?w132, ?y132⟩) hHeld ?r132
              case w132 => rfl
              case y132 => (intro w hSw; go_simp; try with_reducible rfl)
              simp only [rtPr, Act.put]
              refine wpAnyH_take (i := 15) (v := ?v133) rfl (by kernel_rfl) (by kernel_rfl) (by kernel_rfl) (fun _ _ _ h => h) (Or.inl ⟨?w133, ?y133⟩) hHeld ?r133
              case w133 => rfl
              case y133 => (intro w hSw; go_simp; try with_reducible rfl)
              simp only [rtPr, Act.put]
              refine wpAnyH_take (i := 16) (v := ?v134) rfl (by kernel_rfl) (by kernel_rfl) (by kernel_rfl) (fun _ _ _ h => h) (Or.inl ⟨?w134, ?y134⟩) hHeld ?r134
              case w134 => rfl
              case y134 => (intro w hSw; go_simp; try with_reducible rfl)
              simp only [rtPr, Act.put]
              refine wpAnyH_take (i := 17) (v := ?v135) rfl (by kernel_rfl) (by kernel_rfl) (by kernel_rfl) (fun _ _ _ h => h) (Or.inl ⟨?w135, ?y135⟩) hHeld ?r135
              case w135 => rfl
              case y135 => (intro w hSw; go_simp; try with_reducible rfl)
              simp only [rtPr, Act.put]
              refine wpAnyH_take (i := 18) (v := ?v136) rfl (by kernel_rfl) (by kernel_rfl) (by kernel_rfl) (fun _ _ _ h => h) (Or.inl ⟨?w136, ?y136⟩) hHeld ?r136
              case w136 => rfl
              case y136 => (intro w hSw; go_simp; try with_reducible rfl)
              simp only [rtPr, Act.put]
              refine wpAnyH_take (i := 19) (v := ?v137) rfl (by kernel_rfl) (by kernel_rfl) (by kernel_rfl) (fun _ _ _ h => h) (Or.inl ⟨?w137, ?y137⟩) hHeld ?r137
              case w137 => rfl
              case y137 => (intro w hSw; go_simp; try with_reducible rfl)
              simp only [rtPr, Act.put]
              refine wpAnyH_take (i := 20) (v := ?v138) rfl (by kernel_rfl) (by kernel_rfl) (by kernel_rfl) (fun _ _ _ h => h) (Or.inl ⟨?w138, ?y138⟩) hHeld ?r138
              case w138 => rfl
              case y138 => (intro w hSw; go_simp; try with_reducible rfl)
              simp only [rtPr, Act.put]
              refine wpAnyH_take (i := 21) (v := ?v139) rfl (by kernel_rfl) (by kernel_rfl) (by kernel_rfl) (fun _ _ _ h => h) (Or.inl ⟨?w139, ?y139⟩) hHeld ?r139
              case w139 => rfl
              case y139 => (intro w hSw; go_simp; try with_reducible rfl)
              simp only [rtPr, Act.put]
              refine wpAnyH_take (i := 22) (v := ?v140) rfl (by kernel_rfl) (by kernel_rfl) (by kernel_rfl) (fun _ _ _ h => h) (Or.inl ⟨?w140, ?y140⟩) hHeld ?r140
              case w140 => rfl
              case y140 => (intro w hSw; go_simp; try with_reducible rfl)
              simp only [rtPr, Act.put]
              refine wpAnyH_take (i := 23) (v := ?v141) rfl (by kernel_rfl) (by kernel_rfl) (by kernel_rfl) (fun _ _ _ h => h) (Or.inl ⟨?w141, ?y141⟩) hHeld ?r141
              case w141 => rfl
              case y141 => (intro w hSw; go_simp; try with_reducible rfl)
              simp only [rtPr, Act.put]
              refine wpAnyH_take (i := 24) (v := ?v142) rfl (by kernel_rfl) (by kernel_rfl) (by kernel_rfl) (fun _ _ _ h => h) (Or.inl ⟨?w142, ?y142⟩) hHeld ?r142
              case w142 => rfl
              case y142 => (intro w hSw; go_simp; try with_reducible rfl)
              simp only [rtPr, Act.put]
              refine wpAnyH_take (i := 25) (v := undef) rfl (by kernel_rfl) (by kernel_rfl) (by kernel_rfl) (fun _ _ _ h => h) (Or.inr ⟨by rfl, rfl⟩) hHeld ?r143
              simp only [rtPr, Act.put]
              refine wpAnyH_take (i := 26) (v := undef) rfl (by kernel_rfl) (by kernel_rfl) (by kernel_rfl) (fun _ _ _ h => h) (Or.inr ⟨by rfl, rfl⟩) hHeld ?r144
              simp only [rtPr, Act.put]
              refine wpAnyH_take (i := 27) (v := undef) rfl (by kernel_rfl) (by kernel_rfl) (by kernel_rfl) (fun _ _ _ h => h) (Or.inr ⟨by rfl, rfl⟩) hHeld ?r145
              simp only [rtPr, Act.put]
              refine wpAnyH_take (i := 28) (v := undef) rfl (by kernel_rfl) (by kernel_rfl) (by kernel_rfl) (fun _ _ _ h => h) (Or.inr ⟨by rfl, rfl⟩) hHeld ?r146
              simp only [rtPr, Act.put]
              refine wpAnyH_take (i := 29) (v := undef) rfl (by kernel_rfl) (by kernel_rfl) (by kernel_rfl) (fun _ _ _ h => h) (Or.inr ⟨by rfl, rfl⟩) hHeld ?r147
              simp only [rtPr, Act.put]
              refine wpAnyH_take (i := 30) (v := undef) rfl (by kernel_rfl) (by kernel_rfl) (by kernel_rfl) (fun _ _ _ h => h) (Or.inr ⟨by rfl, rfl⟩) hHeld ?r148
              simp only [rtPr, Act.put]
              refine wpAnyH_take (i := 31) (v := undef) rfl (by kernel_rfl) (by kernel_rfl) (by kernel_rfl) (fun _ _ _ h => h) (Or.inr ⟨by rfl, rfl⟩) hHeld ?r149
              simp only [rtPr, Act.put]
              refine wpAnyH_take (i := 32) (v := undef) rfl (by kernel_rfl) (by kernel_rfl) (by kernel_rfl) (fun _ _ _ h => h) (Or.inr ⟨by rfl, rfl⟩) hHeld ?r150
              simp only [rtPr, Act.put]
              refine wpAnyH_take (i := 33) (v := undef) rfl (by kernel_rfl) (by kernel_rfl) (by kernel_rfl) (fun _ _ _ h => h) (Or.inr ⟨by rfl, rfl⟩) hHeld ?r151
              simp only [rtPr, Act.put]
              refine wpAnyH_take (i := 35) (v := undef) rfl (by kernel_rfl) (by kernel_rfl) (by kernel_rfl) (fun _ _ _ h => h) (Or.inr ⟨by rfl, rfl⟩) hHeld ?r152
              simp only [rtPr, Act.put]
              refine wpAnyH_take (i := 34) (v := undef) rfl (by kernel_rfl) (by kernel_rfl) (by kernel_rfl) (fun _ _ _ h => h) (Or.inr ⟨by rfl, rfl⟩) hHeld ?r153
              simp only [rtPr, Act.put]
              refine wpAnyH_take (i := 36) (v := undef) rfl (by kernel_rfl) (by kernel_rfl) (by kernel_rfl) (fun _ _ _ h => h) (Or.inr ⟨by rfl, rfl⟩) hHeld ?r154
              simp only [rtPr, Act.put]
              refine wpAnyH_take (i := 37) (v := undef) rfl (by kernel_rfl) (by kernel_rfl) (by kernel_rfl) (fun _ _ _ h => h) (Or.inr ⟨by rfl, rfl⟩) hHeld ?r155
              simp only [rtPr, Act.put]
              refine wpAnyH_take (i := 38) (v := undef) rfl (by kernel_rfl) (by kernel_rfl) (by kernel_rfl) (fun _ _ _ h => h) (Or.inr ⟨by rfl, rfl⟩) hHeld ?r156
              simp only [rtPr, Act.put]
              refine wpAnyH_take (i := 39) (v := ?v157) rfl (by kernel_rfl) (by kernel_rfl) (by kernel_rfl) (fun _ _ _ h => h) (Or.inl ⟨?w157, ?y157⟩) hHeld ?r157
              case w157 => rfl
              case y157 => (intro w hSw; go_simp; try with_reducible rfl)
              simp only [rtPr, Act.put]
              refine wpAnyH_done (by kernel_rfl) ?_ _
              have HS := Lib.hid (HE2.out.trans (hx.trans hHeld))
              clear hHeld
              go_wp2_with fail
              go_ret
              exact ⟨ret_bool hfin.out.symm, HS.out⟩
             | true =>
              have HFR := Lib.hid hfr
              rw [hfr] at hcf2
              have qf2 : ∀ W, Ext wk W → W.cell? ⟨bf', offf' + y.toNat, none⟩ = some (.bool true) := fun W h => Ext.rule hcf2 W (HE2.out.trans (hx.trans h))
              clear hcf2 hfr
              rcases Nat.eq_zero_or_pos k with hkz | hkz
              ·have hkd : decide ((0 : Int) < (k : Int)) = false := decide_eq_false (by omega)
               have hkd2 : decide (0 < k) = false := decide_eq_false (by omega)
               have HKZ := Lib.hid hkz
               clear hkz
               refine wp_region_held_drew (S := fun W => Ext wk W) (by kernel_rfl) ((Ext.refl wk).drew) (fun hHeld => ?_)
               refine wpAnyH_take (i := 0) (v := ?v158) rfl (by kernel_rfl) (by kernel_rfl) (by kernel_rfl) (fun _ _ _ h => h) (Or.inl ⟨?w158, ?y158⟩) hHeld ?r158
               case w158 => rfl
               case y158 => (intro w hSw; go_simp; try with_reducible rfl)
               simp only [rtPr, Act.put]
               refine wpAnyH_take (i := 1) (v := ?v159) rfl (by kernel_rfl) (by kernel_rfl) (by kernel_rfl) (fun _ _ _ h => h) (Or.inl ⟨?w159, ?y159⟩) hHeld ?r159
               case w159 => rfl
               case y159 => (intro w hSw; go_simp; try with_reducible rfl)
               simp only [rtPr, Act.put]
               refine wpAnyH_take (i := 2) (v := ?v160) rfl (by kernel_rfl) (by kernel_rfl) (by kernel_rfl) (fun _ _ _ h => h) (Or.inl ⟨?w160, ?y160⟩) hHeld ?r160
               case w160 => rfl
               case y160 => (intro w hSw; go_simp; try with_reducible rfl)
               simp only [rtPr, Act.put]
               refine wpAnyH_take (i := 3) (v := ?v161) rfl (by kernel_rfl) (by kernel_rfl) (by kernel_rfl) (fun _ _ _ h => h) (Or.inl ⟨?w161, ?y161⟩) hHeld ?r161
               case w161 => rfl
               case y161 => (intro w hSw; go_simp; try with_reducible rfl)
               simp only [rtPr, Act.put]
               refine wpAnyH_take (i := 4) (v := ?v162) rfl (by kernel_rfl) (by kernel_rfl) (by kernel_rfl) (fun _ _ _ h => h) (Or.inl ⟨?w162, ?y162⟩) hHeld ?r162
               case w162 => rfl
               case y162 => (intro w hSw; go_simp; try with_reducible rfl)
               simp only [rtPr, Act.put]
               refine wpAnyH_ready (rs := [5]) (by kernel_rfl) (by simp) ?_
               refine AllReadyH.cons rfl (fun K hK => ?_) AllReadyH.nil
               go_simp
               go_at_call 49
               refine (HALL.out _).mono ?_
               rintro e w9 ⟨rfl, hb9⟩
               go_simp
               refine hK.out _ _ (Ext.trans hHeld hb9) (fun hHeld => ?_)
               clear hK K
               try simp only [rtPr, Act.put]
               refine wpAnyH_take (i := 6) (v := ?v163) rfl (by kernel_rfl) (by kernel_rfl) (by kernel_rfl) (fun _ _ _ h => h) (Or.inl ⟨?w163, ?y163⟩) hHeld ?r163
               case w163 => rfl
               case y163 => (intro w hSw; go_simp; try with_reducible rfl)
               simp only [rtPr, Act.put]
               refine wpAnyH_take (i := 7) (v := ?v164) rfl (by kernel_rfl) (by kernel_rfl) (by kernel_rfl) (fun _ _ _ h => h) (Or.inl ⟨?w164, ?y164⟩) hHeld ?r164
               case w164 => rfl
               case y164 => (intro w hSw; go_simp; try with_reducible rfl)
               simp only [rtPr, Act.put]
               refine wpAnyH_take (i := 8) (v := ?v165) rfl (by kernel_rfl) (by kernel_rfl) (by kernel_rfl) (fun _ _ _ h => h) (Or.inl ⟨?w165, ?y165⟩) hHeld ?r165
               case w165 => rfl
               case y165 => (intro w hSw; go_simp; try with_reducible rfl)
               simp only [rtPr, Act.put]
               refine wpAnyH_take (i := 9) (v := ?v166) rfl (by kernel_rfl) (by kernel_rfl) (by kernel_rfl) (fun _ _ _ h => h) (Or.inl ⟨?w166, ?y166⟩) hHeld ?r166
               case w166 => rfl
               case y166 => (intro w hSw; go_simp; try with_reducible rfl)
               simp only [rtPr, Act.put]
               refine wpAnyH_take (i := 10) (v := ?v167) rfl (by kernel_rfl) (by kernel_rfl) (by kernel_rfl) (fun _ _ _ h => h) (Or.inl ⟨?w167, ?y167⟩) hHeld ?r167
               case w167 => rfl
               case y167 => (intro w hSw; go_simp; try with_reducible rfl)
               simp only [rtPr, Act.put]
               refine wpAnyH_take (i := 11) (v := ?v168) rfl (by kernel_rfl) (by kernel_rfl) (by kernel_rfl) (fun _ _ _ h => h) (Or.inl ⟨?w168, ?y168⟩) hHeld ?r168
               case w168 => rfl
               case y168 => (intro w hSw; go_simp; try with_reducible rfl)
               simp only [rtPr, Act.put]
               refine wpAnyH_take (i := 12) (v := ?v169) rfl (by kernel_rfl) (by kernel_rfl) (by kernel_rfl) (fun _ _ _ h => h) (Or.inl ⟨?w169, ?y169⟩) hHeld ?r169
               case w169 => rfl
               case y169 => (intro w hSw; go_simp; try with_reducible rfl)
               simp only [rtPr, Act.put]
               refine wpAnyH_take (i := 13) (v := ?v170) rfl (by kernel_rfl) (by kernel_rfl) (by kernel_rfl) (fun _ _ _ h => h) (Or.inl ⟨?w170, ?y170⟩) hHeld ?r170
               case w170 => rfl
               case y170 => (intro w hSw; go_simp; try with_reducible rfl)
               simp only [rtPr, Act.put]
               refine wpAnyH_take (i := 14) (v := ?v171) rfl (by kernel_rfl) (by kernel_rfl) (by kernel_rfl) (fun _ _ _ h => h) (Or.inl ⟨?w171, ?y171⟩) hHeld ?r171
               case w171 => rfl
               case y171 => (intro w hSw; go_simp; try with_reducible rfl)
               simp only [rtPr, Act.put]
               refine wpAnyH_take (i := 15) (v := ?v172) rfl (by kernel_rfl) (by kernel_rfl) (by kernel_rfl) (fun _ _ _ h => h) (Or.inl ⟨?w172, ?y172⟩) hHeld ?r172
               case w172 => rfl
               case y172 => (intro w hSw; go_simp; try with_reducible rfl)
               simp only [rtPr, Act.put]
               refine wpAnyH_take (i := 16) (v := ?v173) rfl (by kernel_rfl) (by kernel_rfl) (by kernel_rfl) (fun _ _ _ h => h) (Or.inl ⟨?w173, ?y173⟩) hHeld ?r173
               case w173 => rfl
               case y173 => (intro w hSw; go_simp; try with_reducible rfl)
               simp only [rtPr, Act.put]
               refine wpAnyH_take (i := 17) (v := ?v174) rfl (by kernel_rfl) (by kernel_rfl) (by kernel_rfl) (fun _ _ _ h => h) (Or.inl ⟨?w174, ?y174⟩) hHeld ?r174
               case w174 => rfl
               case y174 => (intro w hSw; go_simp; try with_reducible rfl)
               simp only [rtPr, Act.put]
               refine wpAnyH_take (i := 18) (v := ?v175) rfl (by kernel_rfl) (by kernel_rfl) (by kernel_rfl) (fun _ _ _ h => h) (Or.inl ⟨?w175, ?y175⟩) hHeld ?r175
               case w175 => rfl
               case y175 => (intro w hSw; go_simp; try with_reducible rfl)
               simp only [rtPr, Act.put]
               refine wpAnyH_take (i := 19) (v := ?v176) rfl (by kernel_rfl) (by kernel_rfl) (by kernel_rfl) (fun _ _ _ h => h) (Or.inl ⟨?w176, ?y176⟩) hHeld ?r176
               case w176 => rfl
               case y176 => (intro w hSw; go_simp; try with_reducible rfl)
               simp only [rtPr, Act.put]
               refine wpAnyH_take (i := 20) (v := ?v177) rfl (by kernel_rfl) (by kernel_rfl) (by kernel_rfl) (fun _ _ _ h => h) (Or.inl ⟨?w177, ?y177⟩) hHeld ?r177
               case w177 => rfl
               case y177 => (intro w hSw; go_simp; try with_reducible rfl)
               simp only [rtPr, Act.put]
               refine wpAnyH_take (i := 21) (v := ?v178) rfl (by kernel_rfl) (by kernel_rfl) (by kernel_rfl) (fun _ _ _ h => h) (Or.inl ⟨?w178, ?y178⟩) hHeld ?r178
               case w178 => rfl
               case y178 => (intro w hSw; go_simp; try with_reducible rfl)
               simp only [rtPr, Act.put]
               refine wpAnyH_take (i := 22) (v := ?v179) rfl (by kernel_rfl) (by kernel_rfl) (by kernel_rfl) (fun _ _ _ h => h) (Or.inl ⟨?w179, ?y179⟩) hHeld ?r179
               case w179 => rfl
               case y179 => (intro w hSw; go_simp; try with_reducible rfl)
               simp only [rtPr, Act.put]
               refine wpAnyH_take (i := 23) (v := ?v180) rfl (by kernel_rfl) (by kernel_rfl) (by kernel_rfl) (fun _ _ _ h => h) (Or.inl ⟨?w180, ?y180⟩) hHeld ?r180
               case w180 => rfl
               case y180 => (intro w hSw; go_simp; try with_reducible rfl)
               simp only [rtPr, Act.put]
               refine wpAnyH_take (i := 24) (v := ?v181) rfl (by kernel_rfl) (by kernel_rfl) (by kernel_rfl) (fun _ _ _ h => h) (Or.inl ⟨?w181, ?y181⟩) hHeld ?r181
               case w181 => rfl
               case y181 => (intro w hSw; go_simp; try with_reducible rfl)
               simp only [rtPr, Act.put]
               refine wpAnyH_take (i := 25) (v := ?v182) rfl (by kernel_rfl) (by kernel_rfl) (by kernel_rfl) (fun _ _ _ h => h) (Or.inl ⟨?w182, ?y182⟩) hHeld ?r182
               case w182 => rfl
               case y182 => (intro w hSw; go_simp; try with_reducible rfl)
               simp only [rtPr, Act.put]
               refine wpAnyH_take (i := 26) (v := ?v183) rfl (by kernel_rfl) (by kernel_rfl) (by kernel_rfl) (fun _ _ _ h => h) (Or.inl ⟨?w183, ?y183⟩) hHeld ?r183
               case w183 => rfl
               case y183 => (intro w hSw; go_simp; try with_reducible rfl)
               simp only [rtPr, Act.put]
               refine wpAnyH_take (i := 27) (v := ?v184) rfl (by kernel_rfl) (by kernel_rfl) (by kernel_rfl) (fun _ _ _ h => h) (Or.inl ⟨?w184, ?y184⟩) hHeld ?r184
               case w184 => rfl
               case y184 => (intro w hSw; go_simp; try with_reducible rfl)
               simp only [rtPr, Act.put]
               refine wpAnyH_take (i := 28) (v := undef) rfl (by kernel_rfl) (by kernel_rfl) (by kernel_rfl) (fun _ _ _ h => h) (Or.inr ⟨by rfl, rfl⟩) hHeld ?r185
               simp only [rtPr, Act.put]
               refine wpAnyH_take (i := 29) (v := undef) rfl (by kernel_rfl) (by kernel_rfl) (by kernel_rfl) (fun _ _ _ h => h) (Or.inr ⟨by rfl, rfl⟩) hHeld ?r186
               simp only [rtPr, Act.put]
               refine wpAnyH_take (i := 30) (v := undef) rfl (by kernel_rfl) (by kernel_rfl) (by kernel_rfl) (fun _ _ _ h => h) (Or.inr ⟨by rfl, rfl⟩) hHeld ?r187
               simp only [rtPr, Act.put]
               refine wpAnyH_take (i := 31) (v := undef) rfl (by kernel_rfl) (by kernel_rfl) (by kernel_rfl) (fun _ _ _ h => h) (Or.inr ⟨by rfl, rfl⟩) hHeld ?r188
               simp only [rtPr, Act.put]
               refine wpAnyH_take (i := 32) (v := undef) rfl (by kernel_rfl) (by kernel_rfl) (by kernel_rfl) (fun _ _ _ h => h) (Or.inr ⟨by rfl, rfl⟩) hHeld ?r189
               simp only [rtPr, Act.put]
               refine wpAnyH_take (i := 33) (v := undef) rfl (by kernel_rfl) (by kernel_rfl) (by kernel_rfl) (fun _ _ _ h => h) (Or.inr ⟨by rfl, rfl⟩) hHeld ?r190
               simp only [rtPr, Act.put]
               refine wpAnyH_take (i := 35) (v := undef) rfl (by kernel_rfl) (by kernel_rfl) (by kernel_rfl) (fun _ _ _ h => h) (Or.inr ⟨by rfl, rfl⟩) hHeld ?r191
               simp only [rtPr, Act.put]
               refine wpAnyH_take (i := 34) (v := undef) rfl (by kernel_rfl) (by kernel_rfl) (by kernel_rfl) (fun _ _ _ h => h) (Or.inr ⟨by rfl, rfl⟩) hHeld ?r192
               simp only [rtPr, Act.put]
               refine wpAnyH_take (i := 36) (v := undef) rfl (by kernel_rfl) (by kernel_rfl) (by kernel_rfl) (fun _ _ _ h => h) (Or.inr ⟨by rfl, rfl⟩) hHeld ?r193
               simp only [rtPr, Act.put]
               refine wpAnyH_take (i := 37) (v := undef) rfl (by kernel_rfl) (by kernel_rfl) (by kernel_rfl) (fun _ _ _ h => h) (Or.inr ⟨by rfl, rfl⟩) hHeld ?r194
               simp only [rtPr, Act.put]
               refine wpAnyH_take (i := 38) (v := ?v195) rfl (by kernel_rfl) (by kernel_rfl) (by kernel_rfl) (fun _ _ _ h => h) (Or.inl ⟨?w195, ?y195⟩) hHeld ?r195
               case w195 => rfl
               case y195 => (intro w hSw; go_simp; try with_reducible rfl)
               simp only [rtPr, Act.put]
               refine wpAnyH_take (i := 39) (v := ?v196) rfl (by kernel_rfl) (by kernel_rfl) (by kernel_rfl) (fun _ _ _ h => h) (Or.inl ⟨?w196, ?y196⟩) hHeld ?r196
               case w196 => rfl
               case y196 => (intro w hSw; go_simp; try with_reducible rfl)
               simp only [rtPr, Act.put]
               refine wpAnyH_done (by kernel_rfl) ?_ _
               have hJ9 := Lib.hid (hJ.out.1.more hHeld)
               obtain ⟨s9, hs9, hss9⟩ := hJ9.out.set
               have HSS := Lib.hid hss9
               have HNK : Hid (nodeB m t p (pre ++ p.take k) k = true) := by show _ = _; unfold nodeB; rw [HYK.out, decide_eq_true hy0, decide_eq_true HYN.out, decide_eq_false HNS.out, HFR.out, decide_eq_true HKZ.out]; rfl
               clear hHeld hss9
               go_wp2_with (at_mapUpdate; refine wpSetAdd rfl _ _ _ _ rfl Try.underlying82 gs s9 y rfl rfl rfl hs9 ?_)
               intro wa hsa hga
               have hJa := Lib.hid (hJ9.out.add HSS.out hsa hga)
               clear hsa hga hs9
               go_wp2_with fail
               go_roundg (p.length - (k + 1))
               case measure => omega
               case rel => exact ⟨k + 1, by go_num, hklt, rfl, by rw [List.take_succ_eq_append_getElem hklt, ← List.append_assoc, ← HY.out]; exact hJa.out, fun k' hk' => by
                rcases Nat.lt_or_ge k' k with h1 | h1
                ·exact hJ.out.2 k' h1
                ·obtain rfl : k' = k := by omega
                 exact HNK.out⟩
              ·have hkd : decide ((0 : Int) < (k : Int)) = true := decide_eq_true (by omega)
               have hkd2 : decide (0 < k) = true := decide_eq_true hkz
               have hk1 : k - 1 < p.length := by omega
               obtain ⟨j, hj⟩ : ∃ j, j = k - 1 := ⟨_, rfl⟩
               have hjk : j < k := by omega
               rw [← hj] at hk1
               obtain ⟨bq', offq', e, -, hcv⟩ := intsAt HRQ.out (k := j) hk1 hk1
               injection e with e
               injection e with e1 e2
               subst e1 e2
               have hpj : p.getD j 0 = p[j] := by rw [List.getD_eq_getElem?_getD, List.getElem?_eq_getElem hk1]; rfl
               have hnj := hJ.out.2 j hjk
               obtain ⟨prev, hprev⟩ : ∃ prev, prev = p[j] := ⟨_, rfl⟩
               rw [← hprev] at hcv hpj
               unfold nodeB at hnj
               rw [hpj] at hnj
               simp only [Bool.and_eq_true, decide_eq_true_eq] at hnj
               obtain ⟨hv0, hv1, -⟩ := hnj
               have HPV : Hid (p.getD (k - 1) 0 = prev) := by show _ = _; rw [← hj, hpj]
               have qv : ∀ W, Ext wk W → W.cell? ⟨bq, offq + j, none⟩ = some (.int .i64 prev) := fun W h => Ext.rule hcv W (HE2.out.trans (hx.trans h))
               have hjw : IntKind.i64.wrap ((k : Int) - 1) = (j : Int) := by rw [IntKind.wrap_i64]; omega
               have hj0 : (0 : Int) ≤ (j : Int) := by omega
               have hj1 : (j : Int) < (p.length : Int) := by omega
               have HNX : Hid (∀ W, Ext wk W → Calls Try.prog 55 #[.agg #[.int .i64 m.w, .int .i64 m.h, .int .i64 m.l, .slice (some ⟨bf, offf, none⟩) m.free.length cf, vup, .slice (some ⟨bt, offt, none⟩) m.tasks.length ct], .int .i64 prev] W fun e w' => ∃ v', e = .returned v' ∧ Below W.heap.size W w' ∧ w'.ownsRow W.heap.size 3 1 v' (nextL m prev).length ((nextL m prev).map (Value.int .i64))) := fun W hW => next_calls m prev W (HMZ.out.below (HE2.out.trans (hx.trans hW))) HG.out.dim hv0 hv1
               have HKZ : Hid (k ≠ 0) := by show _ ≠ _; omega
               clear hcv hprev hpj hv0 hv1 hkz hj
               by_cases hbn : y ∈ nextL m prev
               ·have HBN := Lib.hid (decide_eq_true hbn)
                have HMN := Lib.hid hbn
                clear hbn
                refine wp_region_held_drew (S := fun W => Ext wk W) (by kernel_rfl) ((Ext.refl wk).drew) (fun hHeld => ?_)
                refine wpAnyH_take (i := 0) (v := ?v197) rfl (by kernel_rfl) (by kernel_rfl) (by kernel_rfl) (fun _ _ _ h => h) (Or.inl ⟨?w197, ?y197⟩) hHeld ?r197
                case w197 => rfl
                case y197 => (intro w hSw; go_simp; try with_reducible rfl)
                simp only [rtPr, Act.put]
                refine wpAnyH_take (i := 1) (v := ?v198) rfl (by kernel_rfl) (by kernel_rfl) (by kernel_rfl) (fun _ _ _ h => h) (Or.inl ⟨?w198, ?y198⟩) hHeld ?r198
                case w198 => rfl
                case y198 => (intro w hSw; go_simp; try with_reducible rfl)
                simp only [rtPr, Act.put]
                refine wpAnyH_take (i := 2) (v := ?v199) rfl (by kernel_rfl) (by kernel_rfl) (by kernel_rfl) (fun _ _ _ h => h) (Or.inl ⟨?w199, ?y199⟩) hHeld ?r199
                case w199 => rfl
                case y199 => (intro w hSw; go_simp; try with_reducible rfl)
                simp only [rtPr, Act.put]
                refine wpAnyH_take (i := 3) (v := ?v200) rfl (by kernel_rfl) (by kernel_rfl) (by kernel_rfl) (fun _ _ _ h => h) (Or.inl ⟨?w200, ?y200⟩) hHeld ?r200
                case w200 => rfl
                case y200 => (intro w hSw; go_simp; try with_reducible rfl)
                simp only [rtPr, Act.put]
                refine wpAnyH_take (i := 4) (v := ?v201) rfl (by kernel_rfl) (by kernel_rfl) (by kernel_rfl) (fun _ _ _ h => h) (Or.inl ⟨?w201, ?y201⟩) hHeld ?r201
                case w201 => rfl
                case y201 => (intro w hSw; go_simp; try with_reducible rfl)
                simp only [rtPr, Act.put]
                refine wpAnyH_ready (rs := [5]) (by kernel_rfl) (by simp) ?_
                refine AllReadyH.cons rfl (fun K hK => ?_) AllReadyH.nil
                go_simp
                go_at_call 49
                refine (HALL.out _).mono ?_
                rintro e w9 ⟨rfl, hb9⟩
                go_simp
                refine hK.out _ _ (Ext.trans hHeld hb9) (fun hHeld => ?_)
                clear hK K
                try simp only [rtPr, Act.put]
                refine wpAnyH_take (i := 6) (v := ?v202) rfl (by kernel_rfl) (by kernel_rfl) (by kernel_rfl) (fun _ _ _ h => h) (Or.inl ⟨?w202, ?y202⟩) hHeld ?r202
                case w202 => rfl
                case y202 => (intro w hSw; go_simp; try with_reducible rfl)
                simp only [rtPr, Act.put]
                refine wpAnyH_take (i := 7) (v := ?v203) rfl (by kernel_rfl) (by kernel_rfl) (by kernel_rfl) (fun _ _ _ h => h) (Or.inl ⟨?w203, ?y203⟩) hHeld ?r203
                case w203 => rfl
                case y203 => (intro w hSw; go_simp; try with_reducible rfl)
                simp only [rtPr, Act.put]
                refine wpAnyH_take (i := 8) (v := ?v204) rfl (by kernel_rfl) (by kernel_rfl) (by kernel_rfl) (fun _ _ _ h => h) (Or.inl ⟨?w204, ?y204⟩) hHeld ?r204
                case w204 => rfl
                case y204 => (intro w hSw; go_simp; try with_reducible rfl)
                simp only [rtPr, Act.put]
                refine wpAnyH_take (i := 9) (v := ?v205) rfl (by kernel_rfl) (by kernel_rfl) (by kernel_rfl) (fun _ _ _ h => h) (Or.inl ⟨?w205, ?y205⟩) hHeld ?r205
                case w205 => rfl
                case y205 => (intro w hSw; go_simp; try with_reducible rfl)
                simp only [rtPr, Act.put]
                refine wpAnyH_take (i := 10) (v := ?v206) rfl (by kernel_rfl) (by kernel_rfl) (by kernel_rfl) (fun _ _ _ h => h) (Or.inl ⟨?w206, ?y206⟩) hHeld ?r206
                case w206 => rfl
                case y206 => (intro w hSw; go_simp; try with_reducible rfl)
                simp only [rtPr, Act.put]
                refine wpAnyH_take (i := 11) (v := ?v207) rfl (by kernel_rfl) (by kernel_rfl) (by kernel_rfl) (fun _ _ _ h => h) (Or.inl ⟨?w207, ?y207⟩) hHeld ?r207
                case w207 => rfl
                case y207 => (intro w hSw; go_simp; try with_reducible rfl)
                simp only [rtPr, Act.put]
                refine wpAnyH_take (i := 12) (v := ?v208) rfl (by kernel_rfl) (by kernel_rfl) (by kernel_rfl) (fun _ _ _ h => h) (Or.inl ⟨?w208, ?y208⟩) hHeld ?r208
                case w208 => rfl
                case y208 => (intro w hSw; go_simp; try with_reducible rfl)
                simp only [rtPr, Act.put]
                refine wpAnyH_take (i := 13) (v := ?v209) rfl (by kernel_rfl) (by kernel_rfl) (by kernel_rfl) (fun _ _ _ h => h) (Or.inl ⟨?w209, ?y209⟩) hHeld ?r209
                case w209 => rfl
                case y209 => (intro w hSw; go_simp; try with_reducible rfl)
                simp only [rtPr, Act.put]
                refine wpAnyH_take (i := 14) (v := ?v210) rfl (by kernel_rfl) (by kernel_rfl) (by kernel_rfl) (fun _ _ _ h => h) (Or.inl ⟨?w210, ?y210⟩) hHeld ?r210
                case w210 => rfl
                case y210 => (intro w hSw; go_simp; try with_reducible rfl)
                simp only [rtPr, Act.put]
                refine wpAnyH_take (i := 15) (v := ?v211) rfl (by kernel_rfl) (by kernel_rfl) (by kernel_rfl) (fun _ _ _ h => h) (Or.inl ⟨?w211, ?y211⟩) hHeld ?r211
                case w211 => rfl
                case y211 => (intro w hSw; go_simp; try with_reducible rfl)
                simp only [rtPr, Act.put]
                refine wpAnyH_take (i := 16) (v := ?v212) rfl (by kernel_rfl) (by kernel_rfl) (by kernel_rfl) (fun _ _ _ h => h) (Or.inl ⟨?w212, ?y212⟩) hHeld ?r212
                case w212 => rfl
                case y212 => (intro w hSw; go_simp; try with_reducible rfl)
                simp only [rtPr, Act.put]
                refine wpAnyH_take (i := 17) (v := ?v213) rfl (by kernel_rfl) (by kernel_rfl) (by kernel_rfl) (fun _ _ _ h => h) (Or.inl ⟨?w213, ?y213⟩) hHeld ?r213
                case w213 => rfl
                case y213 => (intro w hSw; go_simp; try with_reducible rfl)
                simp only [rtPr, Act.put]
                refine wpAnyH_take (i := 18) (v := ?v214) rfl (by kernel_rfl) (by kernel_rfl) (by kernel_rfl) (fun _ _ _ h => h) (Or.inl ⟨?w214, ?y214⟩) hHeld ?r214
                case w214 => rfl
                case y214 => (intro w hSw; go_simp; try with_reducible rfl)
                simp only [rtPr, Act.put]
                refine wpAnyH_take (i := 19) (v := ?v215) rfl (by kernel_rfl) (by kernel_rfl) (by kernel_rfl) (fun _ _ _ h => h) (Or.inl ⟨?w215, ?y215⟩) hHeld ?r215
                case w215 => rfl
                case y215 => (intro w hSw; go_simp; try with_reducible rfl)
                simp only [rtPr, Act.put]
                refine wpAnyH_take (i := 20) (v := ?v216) rfl (by kernel_rfl) (by kernel_rfl) (by kernel_rfl) (fun _ _ _ h => h) (Or.inl ⟨?w216, ?y216⟩) hHeld ?r216
                case w216 => rfl
                case y216 => (intro w hSw; go_simp; try with_reducible rfl)
                simp only [rtPr, Act.put]
                refine wpAnyH_take (i := 21) (v := ?v217) rfl (by kernel_rfl) (by kernel_rfl) (by kernel_rfl) (fun _ _ _ h => h) (Or.inl ⟨?w217, ?y217⟩) hHeld ?r217
                case w217 => rfl
                case y217 => (intro w hSw; go_simp; try with_reducible rfl)
                simp only [rtPr, Act.put]
                refine wpAnyH_take (i := 22) (v := ?v218) rfl (by kernel_rfl) (by kernel_rfl) (by kernel_rfl) (fun _ _ _ h => h) (Or.inl ⟨?w218, ?y218⟩) hHeld ?r218
                case w218 => rfl
                case y218 => (intro w hSw; go_simp; try with_reducible rfl)
                simp only [rtPr, Act.put]
                refine wpAnyH_take (i := 23) (v := ?v219) rfl (by kernel_rfl) (by kernel_rfl) (by kernel_rfl) (fun _ _ _ h => h) (Or.inl ⟨?w219, ?y219⟩) hHeld ?r219
                case w219 => rfl
                case y219 => (intro w hSw; go_simp; try with_reducible rfl)
                simp only [rtPr, Act.put]
                refine wpAnyH_take (i := 24) (v := ?v220) rfl (by kernel_rfl) (by kernel_rfl) (by kernel_rfl) (fun _ _ _ h => h) (Or.inl ⟨?w220, ?y220⟩) hHeld ?r220
                case w220 => rfl
                case y220 => (intro w hSw; go_simp; try with_reducible rfl)
                simp only [rtPr, Act.put]
                refine wpAnyH_take (i := 25) (v := ?v221) rfl (by kernel_rfl) (by kernel_rfl) (by kernel_rfl) (fun _ _ _ h => h) (Or.inl ⟨?w221, ?y221⟩) hHeld ?r221
                case w221 => rfl
                case y221 => (intro w hSw; go_simp; try with_reducible rfl)
                simp only [rtPr, Act.put]
                refine wpAnyH_take (i := 26) (v := ?v222) rfl (by kernel_rfl) (by kernel_rfl) (by kernel_rfl) (fun _ _ _ h => h) (Or.inl ⟨?w222, ?y222⟩) hHeld ?r222
                case w222 => rfl
                case y222 => (intro w hSw; go_simp; try with_reducible rfl)
                simp only [rtPr, Act.put]
                refine wpAnyH_take (i := 27) (v := ?v223) rfl (by kernel_rfl) (by kernel_rfl) (by kernel_rfl) (fun _ _ _ h => h) (Or.inl ⟨?w223, ?y223⟩) hHeld ?r223
                case w223 => rfl
                case y223 => (intro w hSw; go_simp; try with_reducible rfl)
                simp only [rtPr, Act.put]
                refine wpAnyH_take (i := 28) (v := ?v224) rfl (by kernel_rfl) (by kernel_rfl) (by kernel_rfl) (fun _ _ _ h => h) (Or.inl ⟨?w224, ?y224⟩) hHeld ?r224
                case w224 => rfl
                case y224 => (intro w hSw; go_simp; try with_reducible rfl)
                simp only [rtPr, Act.put]
                refine wpAnyH_take (i := 29) (v := ?v225) rfl (by kernel_rfl) (by kernel_rfl) (by kernel_rfl) (fun _ _ _ h => h) (Or.inl ⟨?w225, ?y225⟩) hHeld ?r225
                case w225 => rfl
                case y225 => (intro w hSw; go_simp; try with_reducible rfl)
                simp only [rtPr, Act.put]
                refine wpAnyH_take (i := 30) (v := ?v226) rfl (by kernel_rfl) (by kernel_rfl) (by kernel_rfl) (fun _ _ _ h => h) (Or.inl ⟨?w226, ?y226⟩) hHeld ?r226
                case w226 => rfl
                case y226 => (intro w hSw; go_simp; try with_reducible rfl)
                simp only [rtPr, Act.put]
                refine wpAnyH_take (i := 31) (v := ?v227) rfl (by kernel_rfl) (by kernel_rfl) (by kernel_rfl) (fun _ _ _ h => h) (Or.inl ⟨?w227, ?y227⟩) hHeld ?r227
                case w227 => rfl
                case y227 => (intro w hSw; go_simp; try with_reducible rfl)
                simp only [rtPr, Act.put]
                refine wpAnyH_take (i := 32) (v := ?v228) rfl (by kernel_rfl) (by kernel_rfl) (by kernel_rfl) (fun _ _ _ h => h) (Or.inl ⟨?w228, ?y228⟩) hHeld ?r228
                case w228 => rfl
                case y228 => (intro w hSw; go_simp; try with_reducible rfl)
                simp only [rtPr, Act.put]
                refine wpAnyH_take (i := 33) (v := ?v229) rfl (by kernel_rfl) (by kernel_rfl) (by kernel_rfl) (fun _ _ _ h => h) (Or.inl ⟨?w229, ?y229⟩) hHeld ?r229
                case w229 => rfl
                case y229 => (intro w hSw; go_simp; try with_reducible rfl)
                simp only [rtPr, Act.put]
                refine wpAnyH_take (i := 35) (v := ?v230) rfl (by kernel_rfl) (by kernel_rfl) (by kernel_rfl) (fun _ _ _ h => h) (Or.inl ⟨?w230, ?y230⟩) hHeld ?r230
                case w230 => rfl
                case y230 => (intro w hSw; go_simp; try with_reducible rfl)
                simp only [rtPr, Act.put]
                refine wpAnyH_ready (rs := [34]) (by kernel_rfl) (by simp) ?_
                refine AllReadyH.cons rfl (fun K hK => ?_) AllReadyH.nil
                go_simp
                go_at_call 55
                refine (HNX.out _ hHeld).mono ?_
                rintro e w10 ⟨v10, rfl, hb10, ho10⟩
                go_simp
                refine hK.out _ _ (Ext.trans hHeld hb10) (fun hHeld => ?_)
                clear hK K
                try simp only [rtPr, Act.put]
                refine wpAnyH_ready (rs := [36]) (by kernel_rfl) (by simp) ?_
                refine AllReadyH.cons rfl (fun K hK => ?_) AllReadyH.nil
                go_simp
                go_at_call 67
                refine (contains_calls y _ (Row.of_own ho10) (by have := nextL_len m prev; omega)).mono ?_
                rintro e w11 ⟨he, rfl⟩
                rw [HBN.out] at he
                subst he
                go_simp
                refine hK.out _ _ (hHeld) (fun hHeld => ?_)
                clear hK K
                try simp only [rtPr, Act.put]
                refine wpAnyH_take (i := 37) (v := ?v231) rfl (by kernel_rfl) (by kernel_rfl) (by kernel_rfl) (fun _ _ _ h => h) (Or.inl ⟨?w231, ?y231⟩) hHeld ?r231
                case w231 => rfl
                case y231 => (intro w hSw; go_simp; try with_reducible rfl)
                simp only [rtPr, Act.put]
                refine wpAnyH_take (i := 38) (v := ?v232) rfl (by kernel_rfl) (by kernel_rfl) (by kernel_rfl) (fun _ _ _ h => h) (Or.inl ⟨?w232, ?y232⟩) hHeld ?r232
                case w232 => rfl
                case y232 => (intro w hSw; go_simp; try with_reducible rfl)
                simp only [rtPr, Act.put]
                refine wpAnyH_take (i := 39) (v := ?v233) rfl (by kernel_rfl) (by kernel_rfl) (by kernel_rfl) (fun _ _ _ h => h) (Or.inl ⟨?w233, ?y233⟩) hHeld ?r233
                case w233 => rfl
                case y233 => (intro w hSw; go_simp; try with_reducible rfl)
                simp only [rtPr, Act.put]
                refine wpAnyH_done (by kernel_rfl) ?_ _
                have hJ9 := Lib.hid (hJ.out.1.more hHeld)
                obtain ⟨s9, hs9, hss9⟩ := hJ9.out.set
                have HSS := Lib.hid hss9
                have HNK : Hid (nodeB m t p (pre ++ p.take k) k = true) := by show _ = _; unfold nodeB; rw [HYK.out, decide_eq_true hy0, decide_eq_true HYN.out, decide_eq_false HNS.out, HFR.out, HPV.out, decide_eq_true HMN.out]; simp
                clear hHeld hss9
                go_wp2_with (at_mapUpdate; refine wpSetAdd rfl _ _ _ _ rfl Try.underlying82 gs s9 y rfl rfl rfl hs9 ?_)
                intro wa hsa hga
                have hJa := Lib.hid (hJ9.out.add HSS.out hsa hga)
                clear hsa hga hs9
                go_wp2_with fail
                go_roundg (p.length - (k + 1))
                case measure => omega
                case rel => exact ⟨k + 1, by go_num, hklt, rfl, by rw [List.take_succ_eq_append_getElem hklt, ← List.append_assoc, ← HY.out]; exact hJa.out, fun k' hk' => by
                 rcases Nat.lt_or_ge k' k with h1 | h1
                 ·exact hJ.out.2 k' h1
                 ·obtain rfl : k' = k := by omega
                  exact HNK.out⟩
               ·have HBN := Lib.hid (decide_eq_false hbn)
                have hfin : Hid (rightB m ps = false) := HRF.out (pathB_nd hklt (by unfold nodeB; rw [HYK.out, HPV.out, decide_eq_false HKZ.out, decide_eq_false hbn]; simp))
                clear hbn
                refine wp_region_held_drew (S := fun W => Ext wk W) (by kernel_rfl) ((Ext.refl wk).drew) (fun hHeld => ?_)
                refine wpAnyH_take (i := 0) (v := ?v234) rfl (by kernel_rfl) (by kernel_rfl) (by kernel_rfl) (fun _ _ _ h => h) (Or.inl ⟨?w234, ?y234⟩) hHeld ?r234
                case w234 => rfl
                case y234 => (intro w hSw; go_simp; try with_reducible rfl)
                simp only [rtPr, Act.put]
                refine wpAnyH_take (i := 1) (v := ?v235) rfl (by kernel_rfl) (by kernel_rfl) (by kernel_rfl) (fun _ _ _ h => h) (Or.inl ⟨?w235, ?y235⟩) hHeld ?r235
                case w235 => rfl
                case y235 => (intro w hSw; go_simp; try with_reducible rfl)
                simp only [rtPr, Act.put]
                refine wpAnyH_take (i := 2) (v := ?v236) rfl (by kernel_rfl) (by kernel_rfl) (by kernel_rfl) (fun _ _ _ h => h) (Or.inl ⟨?w236, ?y236⟩) hHeld ?r236
                case w236 => rfl
                case y236 => (intro w hSw; go_simp; try with_reducible rfl)
                simp only [rtPr, Act.put]
                refine wpAnyH_take (i := 3) (v := ?v237) rfl (by kernel_rfl) (by kernel_rfl) (by kernel_rfl) (fun _ _ _ h => h) (Or.inl ⟨?w237, ?y237⟩) hHeld ?r237
                case w237 => rfl
                case y237 => (intro w hSw; go_simp; try with_reducible rfl)
                simp only [rtPr, Act.put]
                refine wpAnyH_take (i := 4) (v := ?v238) rfl (by kernel_rfl) (by kernel_rfl) (by kernel_rfl) (fun _ _ _ h => h) (Or.inl ⟨?w238, ?y238⟩) hHeld ?r238
                case w238 => rfl
                case y238 => (intro w hSw; go_simp; try with_reducible rfl)
                simp only [rtPr, Act.put]
                refine wpAnyH_ready (rs := [5]) (by kernel_rfl) (by simp) ?_
                refine AllReadyH.cons rfl (fun K hK => ?_) AllReadyH.nil
                go_simp
                go_at_call 49
                refine (HALL.out _).mono ?_
                rintro e w9 ⟨rfl, hb9⟩
                go_simp
                refine hK.out _ _ (Ext.trans hHeld hb9) (fun hHeld => ?_)
                clear hK K
                try simp only [rtPr, Act.put]
                refine wpAnyH_take (i := 6) (v := ?v239) rfl (by kernel_rfl) (by kernel_rfl) (by kernel_rfl) (fun _ _ _ h => h) (Or.inl ⟨?w239, ?y239⟩) hHeld ?r239
                case w239 => rfl
                case y239 => (intro w hSw; go_simp; try with_reducible rfl)
                simp only [rtPr, Act.put]
                refine wpAnyH_take (i := 7) (v := ?v240) rfl (by kernel_rfl) (by kernel_rfl) (by kernel_rfl) (fun _ _ _ h => h) (Or.inl ⟨?w240, ?y240⟩) hHeld ?r240
                case w240 => rfl
                case y240 => (intro w hSw; go_simp; try with_reducible rfl)
                simp only [rtPr, Act.put]
                refine wpAnyH_take (i := 8) (v := ?v241) rfl (by kernel_rfl) (by kernel_rfl) (by kernel_rfl) (fun _ _ _ h => h) (Or.inl ⟨?w241, ?y241⟩) hHeld ?r241
                case w241 => rfl
                case y241 => (intro w hSw; go_simp; try with_reducible rfl)
                simp only [rtPr, Act.put]
                refine wpAnyH_take (i := 9) (v := ?v242) rfl (by kernel_rfl) (by kernel_rfl) (by kernel_rfl) (fun _ _ _ h => h) (Or.inl ⟨?w242, ?y242⟩) hHeld ?r242
                case w242 => rfl
                case y242 => (intro w hSw; go_simp; try with_reducible rfl)
                simp only [rtPr, Act.put]
                refine wpAnyH_take (i := 10) (v := ?v243) rfl (by kernel_rfl) (by kernel_rfl) (by kernel_rfl) (fun _ _ _ h => h) (Or.inl ⟨?w243, ?y243⟩) hHeld ?r243
                case w243 => rfl
                case y243 => (intro w hSw; go_simp; try with_reducible rfl)
                simp only [rtPr, Act.put]
                refine wpAnyH_take (i := 11) (v := ?v244) rfl (by kernel_rfl) (by kernel_rfl) (by kernel_rfl) (fun _ _ _ h => h) (Or.inl ⟨?w244, ?y244⟩) hHeld ?r244
                case w244 => rfl
                case y244 => (intro w hSw; go_simp; try with_reducible rfl)
                simp only [rtPr, Act.put]
                refine wpAnyH_take (i := 12) (v := ?v245) rfl (by kernel_rfl) (by kernel_rfl) (by kernel_rfl) (fun _ _ _ h => h) (Or.inl ⟨?w245, ?y245⟩) hHeld ?r245
                case w245 => rfl
                case y245 => (intro w hSw; go_simp; try with_reducible rfl)
                simp only [rtPr, Act.put]
                refine wpAnyH_take (i := 13) (v := ?v246) rfl (by kernel_rfl) (by kernel_rfl) (by kernel_rfl) (fun _ _ _ h => h) (Or.inl ⟨?w246, ?y246⟩) hHeld ?r246
                case w246 => rfl
                case y246 => (intro w hSw; go_simp; try with_reducible rfl)
                simp only [rtPr, Act.put]
                refine wpAnyH_take (i := 14) (v := ?v247) rfl (by kernel_rfl) (by kernel_rfl) (by kernel_rfl) (fun _ _ _ h => h) (Or.inl ⟨?w247, ?y247⟩) hHeld ?r247
                case w247 => rfl
                case y247 => (intro w hSw; go_simp; try with_reducible rfl)
                simp only [rtPr, Act.put]
                refine wpAnyH_take (i := 15) (v := ?v248) rfl (by kernel_rfl) (by kernel_rfl) (by kernel_rfl) (fun _ _ _ h => h) (Or.inl ⟨?w248, ?y248⟩) hHeld ?r248
                case w248 => rfl
                case y248 => (intro w hSw; go_simp; try with_reducible rfl)
                simp only [rtPr, Act.put]
                refine wpAnyH_take (i := 16) (v := ?v249) rfl (by kernel_rfl) (by kernel_rfl) (by kernel_rfl) (fun _ _ _ h => h) (Or.inl ⟨?w249, ?y249⟩) hHeld ?r249
                case w249 => rfl
                case y249 => (intro w hSw; go_simp; try with_reducible rfl)
                simp only [rtPr, Act.put]
                refine wpAnyH_take (i := 17) (v := ?v250) rfl (by kernel_rfl) (by kernel_rfl) (by kernel_rfl) (fun _ _ _ h => h) (Or.inl ⟨?w250, ?y250⟩) hHeld ?r250
                case w250 => rfl
                case y250 => (intro w hSw; go_simp; try with_reducible rfl)
                simp only [rtPr, Act.put]
                refine wpAnyH_take (i := 18) (v := ?v251) rfl (by kernel_rfl) (by kernel_rfl) (by kernel_rfl) (fun _ _ _ h => h) (Or.inl ⟨?w251, ?y251⟩) hHeld ?r251
                case w251 => rfl
                case y251 => (intro w hSw; go_simp; try with_reducible rfl)
                simp only [rtPr, Act.put]
                refine wpAnyH_take (i := 19) (v := ?v252) rfl (by kernel_rfl) (by kernel_rfl) (by kernel_rfl) (fun _ _ _ h => h) (Or.inl ⟨?w252, ?y252⟩) hHeld ?r252
                case w252 => rfl
                case y252 => (intro w hSw; go_simp; try with_reducible rfl)
                simp only [rtPr, Act.put]
                refine wpAnyH_take (i := 20) (v := ?v253) rfl (by kernel_rfl) (by kernel_rfl) (by kernel_rfl) (fun _ _ _ h => h) (Or.inl ⟨?w253, ?y253⟩) hHeld ?r253
                case w253 => rfl
                case y253 => (intro w hSw; go_simp; try with_reducible rfl)
                simp only [rtPr, Act.put]
                refine wpAnyH_take (i := 21) (v := ?v254) rfl (by kernel_rfl) (by kernel_rfl) (by kernel_rfl) (fun _ _ _ h => h) (Or.inl ⟨?w254, ?y254⟩) hHeld ?r254
                case w254 => rfl
                case y254 => (intro w hSw; go_simp; try with_reducible rfl)
                simp only [rtPr, Act.put]
                refine wpAnyH_take (i := 22) (v := ?v255) rfl (by kernel_rfl) (by kernel_rfl) (by kernel_rfl) (fun _ _ _ h => h) (Or.inl ⟨?w255, ?y255⟩) hHeld ?r255
                case w255 => rfl
                case y255 => (intro w hSw; go_simp; try with_reducible rfl)
                simp only [rtPr, Act.put]
                refine wpAnyH_take (i := 23) (v := ?v256) rfl (by kernel_rfl) (by kernel_rfl) (by kernel_rfl) (fun _ _ _ h => h) (Or.inl ⟨?w256, ?y256⟩) hHeld ?r256
                case w256 => rfl
                case y256 => (intro w hSw; go_simp; try with_reducible rfl)
                simp only [rtPr, Act.put]
                refine wpAnyH_take (i := 24) (v := ?v257) rfl (by kernel_rfl) (by kernel_rfl) (by kernel_rfl) (fun _ _ _ h => h) (Or.inl ⟨?w257, ?y257⟩) hHeld ?r257
                case w257 => rfl
                case y257 => (intro w hSw; go_simp; try with_reducible rfl)
                simp only [rtPr, Act.put]
                refine wpAnyH_take (i := 25) (v := ?v258) rfl (by kernel_rfl) (by kernel_rfl) (by kernel_rfl) (fun _ _ _ h => h) (Or.inl ⟨?w258, ?y258⟩) hHeld ?r258
                case w258 => rfl
                case y258 => (intro w hSw; go_simp; try with_reducible rfl)
                simp only [rtPr, Act.put]
                refine wpAnyH_take (i := 26) (v := ?v259) rfl (by kernel_rfl) (by kernel_rfl) (by kernel_rfl) (fun _ _ _ h => h) (Or.inl ⟨?w259, ?y259⟩) hHeld ?r259
                case w259 => rfl
                case y259 => (intro w hSw; go_simp; try with_reducible rfl)
                simp only [rtPr, Act.put]
                refine wpAnyH_take (i := 27) (v := ?v260) rfl (by kernel_rfl) (by kernel_rfl) (by kernel_rfl) (fun _ _ _ h => h) (Or.inl ⟨?w260, ?y260⟩) hHeld ?r260
                case w260 => rfl
                case y260 => (intro w hSw; go_simp; try with_reducible rfl)
                simp only [rtPr, Act.put]
                refine wpAnyH_take (i := 28) (v := ?v261) rfl (by kernel_rfl) (by kernel_rfl) (by kernel_rfl) (fun _ _ _ h => h) (Or.inl ⟨?w261, ?y261⟩) hHeld ?r261
                case w261 => rfl
                case y261 => (intro w hSw; go_simp; try with_reducible rfl)
                simp only [rtPr, Act.put]
                refine wpAnyH_take (i := 29) (v := ?v262) rfl (by kernel_rfl) (by kernel_rfl) (by kernel_rfl) (fun _ _ _ h => h) (Or.inl ⟨?w262, ?y262⟩) hHeld ?r262
                case w262 => rfl
                case y262 => (intro w hSw; go_simp; try with_reducible rfl)
                simp only [rtPr, Act.put]
                refine wpAnyH_take (i := 30) (v := ?v263) rfl (by kernel_rfl) (by kernel_rfl) (by kernel_rfl) (fun _ _ _ h => h) (Or.inl ⟨?w263, ?y263⟩) hHeld ?r263
                case w263 => rfl
                case y263 => (intro w hSw; go_simp; try with_reducible rfl)
                simp only [rtPr, Act.put]
                refine wpAnyH_take (i := 31) (v := ?v264) rfl (by kernel_rfl) (by kernel_rfl) (by kernel_rfl) (fun _ _ _ h => h) (Or.inl ⟨?w264, ?y264⟩) hHeld ?r264
                case w264 => rfl
                case y264 => (intro w hSw; go_simp; try with_reducible rfl)
                simp only [rtPr, Act.put]
                refine wpAnyH_take (i := 32) (v := ?v265) rfl (by kernel_rfl) (by kernel_rfl) (by kernel_rfl) (fun _ _ _ h => h) (Or.inl ⟨?w265, ?y265⟩) hHeld ?r265
                case w265 => rfl
                case y265 => (intro w hSw; go_simp; try with_reducible rfl)
                simp only [rtPr, Act.put]
                refine wpAnyH_take (i := 33) (v := ?v266) rfl (by kernel_rfl) (by kernel_rfl) (by kernel_rfl) (fun _ _ _ h => h) (Or.inl ⟨?w266, ?y266⟩) hHeld ?r266
                case w266 => rfl
                case y266 => (intro w hSw; go_simp; try with_reducible rfl)
                simp only [rtPr, Act.put]
                refine wpAnyH_take (i := 35) (v := ?v267) rfl (by kernel_rfl) (by kernel_rfl) (by kernel_rfl) (fun _ _ _ h => h) (Or.inl ⟨?w267, ?y267⟩) hHeld ?r267
                case w267 => rfl
                case y267 => (intro w hSw; go_simp; try with_reducible rfl)
                simp only [rtPr, Act.put]
                refine wpAnyH_ready (rs := [34]) (by kernel_rfl) (by simp) ?_
                refine AllReadyH.cons rfl (fun K hK => ?_) AllReadyH.nil
                go_simp
                go_at_call 55
                refine (HNX.out _ hHeld).mono ?_
                rintro e w10 ⟨v10, rfl, hb10, ho10⟩
                go_simp
                refine hK.out _ _ (Ext.trans hHeld hb10) (fun hHeld => ?_)
                clear hK K
                try simp only [rtPr, Act.put]
                refine wpAnyH_ready (rs := [36]) (by kernel_rfl) (by simp) ?_
                refine AllReadyH.cons rfl (fun K hK => ?_) AllReadyH.nil
                go_simp
                go_at_call 67
                refine (contains_calls y _ (Row.of_own ho10) (by have := nextL_len m prev; omega)).mono ?_
                rintro e w11 ⟨he, rfl⟩
                rw [HBN.out] at he
                subst he
                go_simp
                refine hK.out _ _ (hHeld) (fun hHeld => ?_)
                clear hK K
                try simp only [rtPr, Act.put]
                refine wpAnyH_take (i := 37) (v := ?v268) rfl (by kernel_rfl) (by kernel_rfl) (by kernel_rfl) (fun _ _ _ h => h) (Or.inl ⟨?w268, ?y268⟩) hHeld ?r268
                case w268 => rfl
                case y268 => (intro w hSw; go_simp; try with_reducible rfl)
                simp only [rtPr, Act.put]
                refine wpAnyH_take (i := 38) (v := ?v269) rfl (by kernel_rfl) (by kernel_rfl) (by kernel_rfl) (fun _ _ _ h => h) (Or.inl ⟨?w269, ?y269⟩) hHeld ?r269
                case w269 => rfl
                case y269 => (intro w hSw; go_simp; try with_reducible rfl)
                simp only [rtPr, Act.put]
                refine wpAnyH_take (i := 39) (v := ?v270) rfl (by kernel_rfl) (by kernel_rfl) (by kernel_rfl) (fun _ _ _ h => h) (Or.inl ⟨?w270, ?y270⟩) hHeld ?r270
                case w270 => rfl
                case y270 => (intro w hSw; go_simp; try with_reducible rfl)
                simp only [rtPr, Act.put]
                refine wpAnyH_done (by kernel_rfl) ?_ _
                have HS := Lib.hid (HE2.out.trans (hx.trans hHeld))
                clear hHeld
                go_wp2_with fail
                go_ret
                exact ⟨ret_bool hfin.out.symm, HS.out⟩
         ·have hke : k = p.length := by omega
          subst hke
          have HPF : Hid (∀ t', t' < t + 1 → pathB m t' (ps.getD t' []) (ps.take t').flatten = true) := fun t' ht' => by
           rcases Nat.lt_or_ge t' t with h1 | h1
           ·exact HI.out.2 t' h1
           ·obtain rfl : t' = t := by omega
            rw [HPT.out]
            have h2 := HPO.out hJ.out.2
            have h3 := HTK.out
            exact HPRE.out ▸ h2
          have HJ2 : Hid (RtI w2 wk gs (ps.take (t + 1)).flatten) := by
           show RtI _ _ _ _
           rw [HTK.out]
           have := hJ.out.1
           rwa [List.take_length] at this
          go_wp2_with fail
          go_roundg (ps.length - (t + 1))
          case measure => omega
          case rel => exact ⟨t + 1, by go_num, hlt, rfl, HJ2.out, HPF.out⟩
    ·have hte : t = ps.length := by omega
     subst hte
     have hfin : Hid (rightB m ps = true) := HOT.out HLEN.out hI.out.2
     go_wp2_with fail
     go_ret
     exact ⟨ret_bool hfin.out.symm, HE2.out.trans hx⟩
end Go.Proofs.Ytgpjfpcjiebjiaa
