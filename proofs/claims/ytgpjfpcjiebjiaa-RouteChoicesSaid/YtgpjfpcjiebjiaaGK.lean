/- Walks: the reference's Right. -/
import Derived.Test.YtgpjfpcjiebjiaaGt
import Derived.Test.YtgpjfpcjiebjiaaGy
namespace Go.Proofs.Ytgpjfpcjiebjiaa
open Go.RowKit
set_option linter.unusedVariables false
set_option linter.unusedSimpArgs false
attribute [local go_sem ↓] Go.wp_at_zero Go.wp_at_succ

/-- The table of seen nodes. -/
structure SnI (w1 wr : World) (gi n : Nat) (pre : List Int) : Prop where
 ext : Ext w1 wr
 hi : w1.heap.size ≤ gi
 row : wr.rowIs gi 4 n (memF pre)
section
variable {w1 wr w' : World} {gi n : Nat} {pre : List Int}
theorem SnI.more (h : SnI w1 wr gi n pre) (hE : Ext wr w') : SnI w1 w' gi n pre := ⟨h.ext.trans hE, h.hi, h.row.of_block (hE.block _ h.row.lt)⟩
theorem SnI.set {x : Int} (h : SnI w1 wr gi n pre) (hx : 0 ≤ x) : SnI w1 (wr.setCell ⟨gi, x.toNat, none⟩ (.bool true)) gi n (pre ++ [x]) :=
 ⟨h.ext.setCell h.hi _, h.hi, (h.row.set x.toNat (.bool true)).congr fun j _ => memF_set hx j⟩
theorem SnI.cell (h : SnI w1 wr gi n pre) {x : Int} (h0 : 0 ≤ x) (h1 : x < n) : wr.cell? ⟨gi, x.toNat, none⟩ = some (.bool (decide (x ∈ pre))) ∧ wr.frozen? ⟨gi, x.toNat, none⟩ = false := by
 refine ⟨?_, h.row.frozen _⟩
 rw [h.row.cell (by omega)]
 unfold memF
 rw [Int.toNat_of_nonneg h0]
end

set_option maxHeartbeats 40000000 in
set_option maxRecDepth 100000 in
theorem qRight_calls {okm okp : Nat → Prop} {v vp : Value} {m : MZ} {ps : List (List Int)} (w : World) (hm : MazeV w okm v m) (hl : Lens m) (hp : Intss w okp vp ps) (hpl : ps.length ≤ 20000000000000) (hpx : ∀ x ∈ ps, x.length ≤ 20000000000000) :
  Calls Try.prog 44 #[v, vp] w fun e w' => e = .returned (.bool (rightB m ps)) ∧ Ext w w' := by
 have HMZ := Lib.hid hm
 obtain ⟨vfr, vup, vts, rfl, hfr, -, hts⟩ := hm
 obtain ⟨vsf, ⟨Af, cf, rfl, hcf, hrf⟩, hef⟩ := hfr
 have HTS := Lib.hid hts
 obtain ⟨vst, ⟨At, ct, rfl, hct, -⟩, -⟩ := hts
 have HRF := Lib.hid hrf
 have HEF := Lib.hid hef
 have HPS := Lib.hid hp
 obtain ⟨vps, ⟨Ap, cp, rfl, hcp, hrp⟩, hep⟩ := hp
 have HRP := Lib.hid hrp
 have HEP := Lib.hid hep
 have HL := Lib.hid hl
 have HPX := Lib.hid hpx
 have hlf := hl.fr
 have hlt := hl.ts
 obtain ⟨ck, hck⟩ : ∃ ck, ck = chk m := ⟨_, rfl⟩
 have HCK := Lib.hid hck
 clear hrf hef hrp hep hl hpx hck
 go_enter Try.func44, Try.ntmps44
 go_wp2_with fail
 generalize hw1 : w.alloc (.cells #[.int .i64 m.w, .int .i64 m.h, .int .i64 m.l, .slice Af m.free.length cf, vup, .slice At m.tasks.length ct] 31) = w1
 have hb1 : Ext w w1 := by rw [← hw1]; exact (Ext.refl w).alloc _
 have hgm : Blk w1 w.heap.size 31 #[.int .i64 m.w, .int .i64 m.h, .int .i64 m.l, .slice Af m.free.length cf, vup, .slice At m.tasks.length ct] := by rw [← hw1]; exact heap_alloc_new _ _
 clear hw1
 obtain ⟨m0, m1, m2, m3, m4, m5⟩ := cells6 hgm
 have c0 := Ext.rule m0
 have c1 := Ext.rule m1
 have c2 := Ext.rule m2
 have c3 := Ext.rule m3
 have c4 := Ext.rule m4
 have c5 := Ext.rule m5
 clear m0 m1 m2 m3 m4 m5 hgm
 refine (qcheck_calls w1 (HMZ.out.below hb1) HL.out).mono ?_
 rintro e w2 ⟨rfl, hx2⟩
 have hx2 : Ext w1 w2 := hx2
 rw [← HCK.out]
 by_cases h0 : ck = 0
 case neg =>
  have hq1 : (ck == 0) = false := by rw [beq_eq_false_iff_ne]; exact h0
  have hq2 : (ck != 0) = true := by rw [bne_iff_ne]; exact h0
  have hle : Hid (rightB m ps = false) := by show _ = _; unfold rightB; rw [← HCK.out, decide_eq_false h0]; rfl
  clear h0
  go_wp2_with fail
  go_ret
  exact ⟨ret_bool hle.out.symm, hb1.trans hx2⟩
 case pos =>
  subst h0
  have HG := Lib.hid (Good.of HCK.out.symm)
  have hn1 := HG.out.dim.n1
  have hlay := HG.out.dim.layer
  by_cases hlen : ps.length = m.tasks.length
  case neg =>
   have hq1 : ((ps.length : Int) == (m.tasks.length : Int)) = false := by rw [beq_eq_false_iff_ne]; omega
   have hq2 : ((ps.length : Int) != (m.tasks.length : Int)) = true := by rw [bne_iff_ne]; omega
   have hle : Hid (rightB m ps = false) := by show _ = _; unfold rightB; rw [decide_eq_false hlen]; simp
   clear hlen
   go_wp2_with fail
   go_ret
   exact ⟨ret_bool hle.out.symm, hb1.trans hx2⟩
  case pos =>
   have hq1 : ((ps.length : Int) == (m.tasks.length : Int)) = true := by rw [beq_iff_eq]; omega
   have hq2 : ((ps.length : Int) != (m.tasks.length : Int)) = false := by rw [hlen]; simp
   have HLN := Lib.hid hlen
   have htk := HG.out.tk
   clear hlen
   obtain ⟨N, hN⟩ : ∃ N : Nat, m.w * m.h * m.l = (N : Int) := ⟨(m.w * m.h * m.l).toNat, by omega⟩
   have hN3 : N ≤ 300 := by omega
   have HN := Lib.hid hN
   have hmk : ∀ W : World, (Instr.makeSlice 28 (.int .i64 (N : Int)) (.int .i64 (N : Int))).run Try.prog W = .ok (.slice (some ⟨W.heap.size, 0, none⟩) N N) (W.alloc (.cells (madeCells #[.bool false] N) 4)) := fun W =>
    run_make_row' 28 4 (.bool false) 1 Try.underlying28 Try.infoBool rfl .i64 .i64 N (by omega) (by omega) W
   clear hN
   go_wp2_with fail
   refine (qnodes_calls m.w m.h m.l _ _ _ w2 (by omega) (by omega)).mono ?_
   rintro e wA ⟨rfl, hbA⟩
   rw [HN.out]
   have hxA : Ext w1 wA := Ext.trans ‹Ext w1 w2› hbA
   have hS0 : Hid (SnI w1 (wA.alloc (.cells (madeCells #[.bool false] N) 4)) wA.heap.size N (ps.take 0).flatten) := ⟨hxA.alloc _, hxA.size, World.rowIs_made wA (.bool false) N 4⟩
   generalize hwB : wA.alloc (.cells (madeCells #[.bool false] N) 4) = wB at hS0
   go_upto_region 4 with fail
   clear hwB hbA
   generalize hgi : wA.heap.size = gi at *
   clear hgi hmk
   go_wp2_with fail
   go_loopw [6] (fun i wr => ∃ t : Nat, t ≤ ps.length ∧ i = .int .i64 t ∧ Hid (SnI w1 wr gi N (ps.take t).flatten) ∧ Hid (∀ t', t' < t → pathB m t' (ps.getD t' []) (ps.take t').flatten = true)) (fun i _ => ps.length - (intOf i).toNat)
   case atStart => exact ⟨0, Nat.zero_le _, rfl, hS0, fun t' h => by omega⟩
   clear hS0
   case round =>
    obtain ⟨t, ht, rfl, hS, hO⟩ := hrel
    obtain ⟨wk, rfl⟩ : ∃ wk : World, wk = wr := ⟨_, rfl⟩
    have hx1k : Ext w1 wk := hS.out.ext
    by_cases htl : t < ps.length
    ·have htm : t < m.tasks.length := by have := HLN.out; omega
     obtain ⟨bt, offt, sn, u1, u2, rfl, _, hc0, hc1, hc2, hi1, hi2⟩ := tasksAt HTS.out htm
     obtain ⟨bp, ofp, up, rfl, _, hcu, hup⟩ := eachAt HRP.out HEP.out htl htl
     have hlt12 := HL.out.tl _ (List.getElem_mem htm)
     have hpx9 := HPX.out _ (List.getElem_mem htl)
     have hgd : ps.getD t [] = ps[t] := by rw [List.getD_eq_getElem?_getD, List.getElem?_eq_getElem htl, Option.getD_some]
     have htd : m.tasks.getD t ([], []) = m.tasks[t] := by simp [htm]
     have hfs : (ps.take (t + 1)).flatten = (ps.take t).flatten ++ ps[t] := by rw [List.take_succ_eq_append_getElem htl, List.flatten_append]; simp
     obtain ⟨p, hpp⟩ : ∃ p, p = ps[t] := ⟨_, rfl⟩
     obtain ⟨pre, hpre⟩ : ∃ pre, pre = (ps.take t).flatten := ⟨_, rfl⟩
     have HF : Hid (pathB m t p pre = false → rightB m ps = false) := fun h => rightB_path htl (by rw [hgd, ← hpp, ← hpre]; exact h)
     have HO : Hid (pathB m t p pre = true → ∀ t', t' < t + 1 → pathB m t' (ps.getD t' []) (ps.take t').flatten = true) := fun h t' h' => by
      rcases Nat.lt_or_ge t' t with h1 | h1
      ·exact hO.out t' h1
      ·obtain rfl : t' = t := by omega
       rw [hgd, ← hpp, ← hpre]; exact h
     rw [← hpp] at hup hpx9 hfs
     rw [← hpre] at hS hfs
     have HFS := Lib.hid hfs
     have HTD := Lib.hid htd
     have HUP := Lib.hid hup
     have HI1 := Lib.hid hi1
     have HI2 := Lib.hid hi2
     obtain ⟨hlt1, hlt2⟩ := hlt12
     have rt1 : ∀ W, Ext w1 W → W.cell? ⟨bt, offt + t * 3 + 1, none⟩ = some u1 := fun W hW => Ext.rule hc1 W (hb1.trans hW)
     have rt2 : ∀ W, Ext w1 W → W.cell? ⟨bt, offt + t * 3 + 2, none⟩ = some u2 := fun W hW => Ext.rule hc2 W (hb1.trans hW)
     obtain ⟨Aq, cq, rfl, hcq, hrq⟩ := hup
     have ru : ∀ W, Ext w1 W → W.cell? ⟨bp, ofp + t, none⟩ = some (.slice Aq p.length cq) := fun W hW => Ext.rule hcu W (hb1.trans hW)
     clear hO hc0 hc1 hc2 hi1 hi2 hcu hgd htd hfs hpp hpre
     have htl2 : (t : Int) < (ps.length : Int) := by omega
     have htm2 : (t : Int) < (m.tasks.length : Int) := by omega
     rcases Nat.eq_zero_or_pos p.length with hp0 | hp0
     ·have hpn := List.eq_nil_of_length_eq_zero hp0
      have hle : Hid (rightB m ps = false) := HF.out (by rw [hpn]; rfl)
      have hd1 : ((p.length : Int) == 0) = true := by rw [beq_iff_eq]; omega
      have hd2 : decide (p.length = 0) = true := decide_eq_true hp0
      clear hpn hp0
      go_upto_region 8 with fail
      go_quiet (fail)
      go_wp2
      go_ret
      exact ⟨ret_bool hle.out.symm, hb1.trans (hx1k.drewN _)⟩
     ·have hd1 : ((p.length : Int) == 0) = false := by rw [beq_eq_false_iff_ne]; omega
      have hd2 : decide (p.length = 0) = false := decide_eq_false (by omega)
      have hpne : Hid (p ≠ []) := fun h => by rw [h] at hp0; simp at hp0
      obtain ⟨bq, ofq, rfl, _, hcx0⟩ := intsAt hrq (k := 0) hp0 hp0
      obtain ⟨bq', ofq', e9, _, hcxl⟩ := intsAt hrq (k := p.length - 1) (by omega) (by omega)
      injection e9 with e9
      injection e9 with e1 e2
      subst e1 e2
      have HCP : Hid (∀ j (hj : j < p.length), w.cell? ⟨bq, ofq + j, none⟩ = some (.int .i64 p[j])) := fun j hj => by
       obtain ⟨b9, of9, e9, _, hc9⟩ := intsAt hrq (k := j) hj hj
       injection e9 with e9
       injection e9 with e1 e2
       subst e1 e2
       exact hc9
      have hg0 : p.getD 0 0 = p[0] := by rw [List.getD_eq_getElem?_getD, List.getElem?_eq_getElem hp0, Option.getD_some]
      have hgl : p.getD (p.length - 1) 0 = p[p.length - 1] := by rw [List.getD_eq_getElem?_getD, List.getElem?_eq_getElem (by omega), Option.getD_some]
      rw [← hg0] at hcx0
      rw [← hgl] at hcxl
      obtain ⟨x0, hx0⟩ : ∃ x0, x0 = p.getD 0 0 := ⟨_, rfl⟩
      obtain ⟨xl, hxl⟩ : ∃ xl, xl = p.getD (p.length - 1) 0 := ⟨_, rfl⟩
      rw [← hx0] at hcx0
      rw [← hxl] at hcxl
      have rx0 : ∀ W, Ext w1 W → W.cell? ⟨bq, ofq, none⟩ = some (.int .i64 x0) := fun W hW => Ext.rule hcx0 W (hb1.trans hW)
      obtain ⟨n, hn⟩ : ∃ n, p.length = n + 1 := ⟨p.length - 1, by omega⟩
      rw [hn, Nat.add_sub_cancel] at hcxl
      have rxl : ∀ W, Ext w1 W → W.cell? ⟨bq, ofq + n, none⟩ = some (.int .i64 xl) := fun W hW => Ext.rule hcxl W (hb1.trans hW)
      have hqw : IntKind.i64.wrap ((p.length : Int) - 1) = (n : Int) := by rw [IntKind.wrap_i64]; omega
      have hqw2 : IntKind.i64.wrap ((n : Int) + 1 - 1) = (n : Int) := by rw [IntKind.wrap_i64]; omega
      have hqw3 : IntKind.i64.wrap (n : Int) = (n : Int) := by rw [IntKind.wrap_i64]; omega
      have hn0 : (0 : Int) ≤ (n : Int) := by omega
      have hn1' : (n : Int) < (p.length : Int) := by omega
      have hp0' : (0 : Int) < (p.length : Int) := by omega
      have HX0 := Lib.hid hx0
      have HXL := Lib.hid hxl
      have HNN := Lib.hid hn
      have HH1 : Hid (∀ W, Ext w1 W → Calls Try.prog 36 #[u1, .int .i64 x0] W fun e w' => e = .returned (.bool (decide (x0 ∈ (m.tasks[t]).1))) ∧ W = w') := fun W hW => has_calls _ W (HI1.out.below (hb1.trans hW)) (by omega)
      have HH2 : Hid (∀ W, Ext w1 W → Calls Try.prog 36 #[u2, .int .i64 xl] W fun e w' => e = .returned (.bool (decide (xl ∈ (m.tasks[t]).2))) ∧ W = w') := fun W hW => has_calls _ W (HI2.out.below (hb1.trans hW)) (by omega)
      have HM1 := Lib.hid (Iff.refl (x0 ∈ (m.tasks[t]).1))
      obtain ⟨d1, hd1'⟩ : ∃ d1, d1 = decide (x0 ∈ (m.tasks[t]).1) := ⟨_, rfl⟩
      obtain ⟨d2, hd2'⟩ : ∃ d2, d2 = decide (xl ∈ (m.tasks[t]).2) := ⟨_, rfl⟩
      rw [← hd1'] at HH1
      rw [← hd2'] at HH2
      have HD1 := Lib.hid hd1'
      have HD2 := Lib.hid hd2'
      clear hrq hcx0 hcxl hg0 hgl hx0 hxl hn hd1' hd2' HM1
      cases d1
      ·have hle : Hid (rightB m ps = false) := HF.out (pathB_hd (by
        rw [HTD.out, ← HX0.out]
        have := HD1.out.symm
        rwa [decide_eq_false_iff_not] at this))
       go_upto_region 8 with fail
       go_quiet (first | (go_at_call 36; with_reducible refine (HH1.out _ (hx1k.drewN _)).mono ?_; rintro e w8 ⟨he8, rfl⟩; exact ⟨he8, ⟨_, rfl⟩⟩) | (go_at_call 36; with_reducible refine (HH2.out _ (hx1k.drewN _)).mono ?_; rintro e w8 ⟨he8, rfl⟩; exact ⟨he8, ⟨_, rfl⟩⟩))
       go_wp2
       go_ret
       exact ⟨ret_bool hle.out.symm, hb1.trans (hx1k.drewN _)⟩
      ·cases d2
       ·have hle : Hid (rightB m ps = false) := HF.out (pathB_lt (by
         rw [HTD.out, ← HXL.out]
         have := HD2.out.symm
         rwa [decide_eq_false_iff_not] at this))
        go_upto_region 8 with fail
        go_quiet (first | (go_at_call 36; with_reducible refine (HH1.out _ (hx1k.drewN _)).mono ?_; rintro e w8 ⟨he8, rfl⟩; exact ⟨he8, ⟨_, rfl⟩⟩) | (go_at_call 36; with_reducible refine (HH2.out _ (hx1k.drewN _)).mono ?_; rintro e w8 ⟨he8, rfl⟩; exact ⟨he8, ⟨_, rfl⟩⟩))
        go_wp2
        go_ret
        exact ⟨ret_bool hle.out.symm, hb1.trans (hx1k.drewN _)⟩
       ·have HOK : Hid ((∀ k, k < p.length → nodeB m t p (pre ++ p.take k) k = true) → pathB m t p pre = true) := pathB_ok hpne.out
         (by
          rw [HTD.out, ← HX0.out]
          have := HD1.out.symm
          rwa [decide_eq_true_eq] at this)
         (by
          rw [HTD.out, ← HXL.out]
          have := HD2.out.symm
          rwa [decide_eq_true_eq] at this)
        have HND : Hid (∀ k, k < p.length → nodeB m t p (pre ++ p.take k) k = false → rightB m ps = false) := fun k hk h => HF.out (pathB_nd hk h)
        go_upto_region 8 with fail
        go_quiet (first | (go_at_call 36; with_reducible refine (HH1.out _ (hx1k.drewN _)).mono ?_; rintro e w8 ⟨he8, rfl⟩; exact ⟨he8, ⟨_, rfl⟩⟩) | (go_at_call 36; with_reducible refine (HH2.out _ (hx1k.drewN _)).mono ?_; rintro e w8 ⟨he8, rfl⟩; exact ⟨he8, ⟨_, rfl⟩⟩))
        generalize hwz : wk.drewN nq = wz
        have hEz : Ext wk wz := by rw [← hwz]; exact (Ext.refl wk).drewN _
        clear hwz
        have hSz : Hid (SnI w1 wz gi N (pre ++ p.take 0)) := by
         have := hS.out.more hEz
         rw [List.take_zero, List.append_nil]
         exact this
        clear rx0 rxl hS HH1 HH2
        go_wp2_with fail
        have hx1z : Ext w1 wz := hx1k.trans hEz
        go_loopw [8] (fun i wr => ∃ k : Nat, k ≤ p.length ∧ i = .int .i64 k ∧ Hid (SnI w1 wr gi N (pre ++ p.take k)) ∧ Hid (∀ k', k' < k → nodeB m t p (pre ++ p.take k') k' = true)) (fun i _ => p.length - (intOf i).toNat)
        case atStart => exact ⟨0, Nat.zero_le _, rfl, hSz, fun k' h => by omega⟩
        clear hSz
        case round =>
         obtain ⟨k, hk, rfl, hS, hK⟩ := hrel
         obtain ⟨wj, rfl⟩ : ∃ wj : World, wj = wr := ⟨_, rfl⟩
         have hx1j : Ext w1 wj := hS.out.ext
         by_cases hkl : k < p.length
         ·have hcx := HCP.out k hkl
          have hgk : p.getD k 0 = p[k] := by rw [List.getD_eq_getElem?_getD, List.getElem?_eq_getElem hkl, Option.getD_some]
          have hts : pre ++ p.take (k + 1) = (pre ++ p.take k) ++ [p.getD k 0] := by rw [List.take_succ_eq_append_getElem hkl, hgk, List.append_assoc]
          rw [← hgk] at hcx
          obtain ⟨prk, hprk⟩ : ∃ prk, prk = pre ++ p.take k := ⟨_, rfl⟩
          have HNDk : Hid (nodeB m t p prk k = false → rightB m ps = false) := by rw [hprk]; exact HND.out k hkl
          have HNDs : Hid (nodeB m t p prk k = true → ∀ k', k' < k + 1 → nodeB m t p (pre ++ p.take k') k' = true) := fun h k' h' => by
           rcases Nat.lt_or_ge k' k with h1 | h1
           ·exact hK.out k' h1
           ·obtain rfl : k' = k := by omega
            rw [← hprk]; exact h
          have HNB : Hid (nodeB m t p prk k = (decide (0 ≤ p.getD k 0) && (decide (p.getD k 0 < m.n) && (!decide (p.getD k 0 ∈ prk) && (freeAt m t (p.getD k 0) && (decide (k = 0) || decide (p.getD k 0 ∈ nextL m (p.getD (k - 1) 0)))))))) := rfl
          rw [← hprk] at hS hts
          obtain ⟨x, hx⟩ : ∃ x, x = p.getD k 0 := ⟨_, rfl⟩
          rw [← hx] at hcx hts HNB
          have HTS2 := Lib.hid hts
          have rx : ∀ W, Ext w1 W → W.cell? ⟨bq, ofq + k, none⟩ = some (.int .i64 x) := fun W hW => Ext.rule hcx W (hb1.trans hW)
          have hkl2 : (k : Int) < (p.length : Int) := by omega
          have hk0 : (0 : Int) ≤ (k : Int) := by omega
          have HPREV : Hid (∀ k', k' < k → 0 ≤ p.getD k' 0 ∧ p.getD k' 0 < m.n) := fun k' h' => by
           have h1 := hK.out k' h'
           unfold nodeB at h1
           simp only [Bool.and_eq_true, decide_eq_true_eq] at h1
           exact ⟨h1.1, h1.2.1⟩
          clear hcx hgk hts hprk hx hK
          by_cases hx0 : x < 0
          ·have hq3 : decide (x < 0) = true := decide_eq_true hx0
           have hle : Hid (rightB m ps = false) := HNDk.out (by rw [HNB.out, decide_eq_false (by omega)]; rfl)
           go_wp2_with fail
           go_quiet (fail)
           go_wp2
           go_ret
           exact ⟨ret_bool hle.out.symm, hb1.trans (hx1j.drewN _)⟩
          ·have hq3 : decide (x < 0) = false := decide_eq_false hx0
           by_cases hxn : (N : Int) ≤ x
           ·have hq4 : decide ((N : Int) ≤ x) = true := decide_eq_true hxn
            have hle : Hid (rightB m ps = false) := HNDk.out (by rw [HNB.out, decide_eq_false (show ¬ x < m.n by have : m.n = m.w * m.h * m.l := rfl; have := HN.out; omega)]; simp)
            go_wp2_with fail
            go_quiet (fail)
            go_wp2
            go_ret
            exact ⟨ret_bool hle.out.symm, hb1.trans (hx1j.drewN _)⟩
           ·have hq4 : decide ((N : Int) ≤ x) = false := decide_eq_false hxn
            obtain ⟨X, rfl⟩ : ∃ X : Nat, x = (X : Int) := ⟨x.toNat, by omega⟩
            have hXN : X < N := by omega
            have HXM : Hid (decide (0 ≤ (X : Int)) = true ∧ decide ((X : Int) < m.n) = true) := ⟨decide_eq_true (by omega), decide_eq_true (by have : m.n = m.w * m.h * m.l := rfl; have := HN.out; omega)⟩
            obtain ⟨hsc, hsf⟩ := hS.out.cell (x := (X : Int)) (by omega) (by omega)
            rw [Int.toNat_natCast] at hsc hsf
            have hqf : t < m.free.length := by rw [HG.out.fl]; exact htm
            obtain ⟨bf, off3, uf, e1, _, hcf1, hbf⟩ := eachAt HRF.out HEF.out hqf hqf
            subst e1
            have hflen := HG.out.fn _ (List.getElem_mem hqf)
            obtain ⟨A4, c4, rfl, hc4, hr4⟩ := hbf
            have hXl : X < (m.free[t]).length := by have : m.n = m.w * m.h * m.l := rfl; have := HN.out; omega
            obtain ⟨b4, off4, e4, _, hcf2⟩ := boolsAt hr4 hXl hXl
            subst e4
            have hfa : (m.free[t])[X] = freeAt m t (X : Int) := by simp [freeAt, hqf, hXl]
            rw [hfa] at hcf2
            obtain ⟨fl, hfl⟩ : ∃ fl, fl = (m.free[t]).length := ⟨_, rfl⟩
            rw [← hfl] at hcf1 hXl hc4
            have rf1 : ∀ W, Ext w1 W → W.cell? ⟨bf, off3 + t, none⟩ = some (.slice (some ⟨b4, off4, none⟩) fl c4) := fun W hW => Ext.rule hcf1 W (hb1.trans hW)
            have rf2 : ∀ W, Ext w1 W → W.cell? ⟨b4, off4 + X, none⟩ = some (.bool (freeAt m t (X : Int))) := fun W hW => Ext.rule hcf2 W (hb1.trans hW)
            have rs := Ext.rule hsc
            have hX0 : (0 : Int) ≤ (X : Int) := by omega
            have hX1 : (X : Int) < (fl : Int) := by omega
            have hX2 : (X : Int) < (N : Int) := by omega
            have htf : (t : Int) < (m.free.length : Int) := by omega
            clear hcf1 hcf2 hfa hfl hflen hr4 hx0 hxn
            have HNB2 : Hid (nodeB m t p prk k = (!decide ((X : Int) ∈ prk) && (freeAt m t (X : Int) && (decide (k = 0) || decide ((X : Int) ∈ nextL m (p.getD (k - 1) 0)))))) := by
             show _ = _
             rw [HNB.out, HXM.out.1, HXM.out.2, Bool.true_and, Bool.true_and]
            obtain ⟨d3, hd3⟩ : ∃ d3, d3 = decide ((X : Int) ∈ prk) := ⟨_, rfl⟩
            obtain ⟨d4, hd4⟩ : ∃ d4, d4 = freeAt m t (X : Int) := ⟨_, rfl⟩
            rw [← hd3] at HNB2 hsc rs
            rw [← hd4] at HNB2 rf2
            have hxjj := Ext.refl wj
            clear hd3 hd4 HNB
            have hq5 : decide (N ≤ X) = false := decide_eq_false (by omega)
            have hq6 : decide ((X : Int) < 0) = false := decide_eq_false (by omega)
            have hq7 : decide (X < N) = true := decide_eq_true hXN
            cases d3
            ·cases d4
             ·have hle : Hid (rightB m ps = false) := HNDk.out (by rw [HNB2.out]; simp)
              go_wp2_with fail
              go_quiet (fail)
              go_wp2
              go_ret
              exact ⟨ret_bool hle.out.symm, hb1.trans (hx1j.drewN _)⟩
             ·go_wp2_with fail
              go_quiet (fail)
              generalize hwv : wj.drewN nq = wv
              have hEv : Ext wj wv := by rw [← hwv]; exact (Ext.refl wj).drewN _
              clear hwv
              have HSv := Lib.hid (hS.out.more hEv)
              have hx1v : Ext w1 wv := hx1j.trans hEv
              clear hS hEv rf1 rf2 rs hsc hsf hxjj
              go_upto_region 15 with fail
              go_cut [124] (fun s wx => s = .bool (!(decide (k = 0) || decide ((X : Int) ∈ nextL m (p.getD (k - 1) 0)))) ∧ Hid (SnI w1 wx gi N prk))
              case first =>
               cases k with
               | zero =>
                have hz : decide ((0 : Int) < ((0 : Nat) : Int)) = false := by simp
                go_quiet (fail)
                go_wp2_with fail
                go_meet
                exact ⟨rfl, HSv.out.more ((Ext.refl wv).drewN _)⟩
               | succ j =>
                have hz : decide ((0 : Int) < ((j + 1 : Nat) : Int)) = true := decide_eq_true (by omega)
                have hz2 : (0 : Int) < (j : Int) + 1 := by omega
                have hz3 : decide ((0 : Int) < (j : Int) + 1) = true := decide_eq_true hz2
                have hcy := HCP.out j (by omega)
                have hgj : p.getD j 0 = p[j] := by rw [List.getD_eq_getElem?_getD, List.getElem?_eq_getElem (by omega), Option.getD_some]
                rw [← hgj] at hcy
                obtain ⟨hy0, hy1⟩ := HPREV.out j (by omega)
                obtain ⟨y, hy⟩ : ∃ y, y = p.getD j 0 := ⟨_, rfl⟩
                rw [← hy] at hcy hy0 hy1
                have HY := Lib.hid hy
                have ry : ∀ W, Ext w1 W → W.cell? ⟨bq, ofq + j, none⟩ = some (.int .i64 y) := fun W hW => Ext.rule hcy W (hb1.trans hW)
                have hw9 : IntKind.i64.wrap ((j : Int) + 1 - 1) = (j : Int) := by rw [IntKind.wrap_i64]; omega
                have hw10 : IntKind.i64.wrap (j : Int) = (j : Int) := by rw [IntKind.wrap_i64]; omega
                have hj0 : (0 : Int) ≤ (j : Int) := by omega
                have hj1 : (j : Int) < (p.length : Int) := by omega
                have hj2 : (j : Int) + 1 < (p.length : Int) := by omega
                have hj3 : (0 : Int) ≤ (j : Int) + 1 := by omega
                have hnl := nextL_len m y
                clear hcy hgj hy
                go_region_held3 (fun w' => Ext w1 w' ∧ Ext wv w')
                 (first | (exact ⟨hx1v.drew, (Ext.refl _).drew⟩) | (exact ⟨hx1v.drew.trans hbn, (Ext.refl _).drew.trans hbn⟩))
                 (first | (go_at_call 56; refine (qnext_calls m y _ (HMZ.out.below (hb1.trans hx1v.drew)) HG.out.dim hy0 hy1).mono ?_; rintro e wn ⟨v9, rfl, hbn, hon⟩) | (go_at_call 36; refine (has_calls (X : Int) _ (Row.of_own hon) (by omega)).mono ?_; rintro e w10 ⟨rfl, rfl⟩))
                rename_i hSS
                have HSn := Lib.hid (HSv.out.more hSS.2)
                clear hbn hon hSS
                go_wp2_with fail
                go_meet
                exact ⟨by rw [Nat.add_sub_cancel, ← HY.out]; simp, HSn.out⟩
              case rest =>
               obtain ⟨rfl, hSc⟩ := hcut
               obtain ⟨ws, rfl⟩ : ∃ ws : World, ws = wc := ⟨_, rfl⟩
               have hx1s : Ext w1 ws := hSc.out.ext
               obtain ⟨d5, hd5⟩ : ∃ d5, d5 = (decide (k = 0) || decide ((X : Int) ∈ nextL m (p.getD (k - 1) 0))) := ⟨_, rfl⟩
               rw [← hd5] at HNB2 ⊢
               clear hd5
               cases d5
               ·have hle : Hid (rightB m ps = false) := HNDk.out (by rw [HNB2.out]; rfl)
                go_wp2
                go_ret
                exact ⟨ret_bool hle.out.symm, hb1.trans hx1s⟩
               ·have HKK := Lib.hid (HNDs.out (by rw [HNB2.out]; rfl))
                obtain ⟨hsc, hsf⟩ := hSc.out.cell (x := (X : Int)) (by omega) (by omega)
                rw [Int.toNat_natCast] at hsc hsf
                have HSw : Hid (SnI w1 (ws.setCell ⟨gi, X, none⟩ (.bool true)) gi N (pre ++ p.take (k + 1))) := by
                 have h1 := hSc.out.set (x := (X : Int)) (by omega)
                 rw [Int.toNat_natCast] at h1
                 rw [HTS2.out]
                 exact h1
                clear HNB2
                go_wp2_with fail
                refine ⟨⟨k + 1, by omega, by go_num, HSw, HKK⟩, ?_⟩
                simp [intOf]
                omega
            ·have hle : Hid (rightB m ps = false) := HNDk.out (by rw [HNB2.out]; simp)
             go_wp2_with fail
             go_quiet (fail)
             go_wp2
             go_ret
             exact ⟨ret_bool hle.out.symm, hb1.trans (hx1j.drewN _)⟩
         ·obtain rfl : k = p.length := by omega
          have HPB : Hid (pathB m t p pre = true) := HOK.out hK.out
          have HS' : Hid (SnI w1 wj gi N (ps.take (t + 1)).flatten) := by
           have h1 := hS.out
           rw [List.take_length] at h1
           rw [HFS.out]
           exact h1
          have HO' := Lib.hid (HO.out HPB.out)
          have hkk : decide (p.length < p.length) = false := decide_eq_false (by omega)
          go_wp2_with fail
          go_roundw
          case rel => exact ⟨t + 1, htl, by go_num, HS', HO'⟩
          case measure => simp [intOf]; omega
    ·obtain rfl : t = ps.length := by omega
     have hR : Hid (rightB m ps = true) := rightB_ok HCK.out.symm HLN.out hO.out
     have htt : decide (ps.length < ps.length) = false := decide_eq_false (by omega)
     go_wp2
     go_ret
     exact ⟨ret_bool hR.out.symm, hb1.trans hx1k⟩
end Go.Proofs.Ytgpjfpcjiebjiaa
