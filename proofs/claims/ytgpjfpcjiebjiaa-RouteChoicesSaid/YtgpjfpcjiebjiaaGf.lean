/- Walks: the reference's check of a maze. Walks: Next and Reach, of the program and of the reference. -/
import Derived.Test.YtgpjfpcjiebjiaaGd
import Derived.BigQuiet
import Derived.Deep.RegionHeld3
import Derived.Deep.DrawnRows
import Derived.Test.YtgpjfpcjiebjiaaGe
namespace Go.Proofs.Ytgpjfpcjiebjiaa
open Go.RowKit
set_option linter.unusedVariables false
set_option linter.unusedSimpArgs false
attribute [local go_sem ↓] Go.wp_at_zero Go.wp_at_succ

/-- What is held while a region reads a maze and calls. -/
theorem held6_drew {w w1 : World} {g : Nat} {a0 a1 a2 a3 a4 a5 : Value} (hg : g < w1.heap.size) (m0 : w1.cell? ⟨g, 0, none⟩ = some a0) (m1 : w1.cell? ⟨g, 1, none⟩ = some a1) (m2 : w1.cell? ⟨g, 2, none⟩ = some a2) (m3 : w1.cell? ⟨g, 3, none⟩ = some a3) (m4 : w1.cell? ⟨g, 4, none⟩ = some a4) (m5 : w1.cell? ⟨g, 5, none⟩ = some a5) (hb : Hid (Below w.heap.size w w1)) :
  w1.drew.cell? ⟨g, 0, none⟩ = some a0 ∧ w1.drew.cell? ⟨g, 1, none⟩ = some a1 ∧ w1.drew.cell? ⟨g, 2, none⟩ = some a2 ∧ w1.drew.cell? ⟨g, 3, none⟩ = some a3 ∧ w1.drew.cell? ⟨g, 4, none⟩ = some a4 ∧ w1.drew.cell? ⟨g, 5, none⟩ = some a5 ∧ Hid (Below w.heap.size w w1.drew) :=
 ⟨m0, m1, m2, m3, m4, m5, Below.drew hb.out⟩
theorem held6 {w w1 w2 : World} {g : Nat} {a0 a1 a2 a3 a4 a5 : Value} (hg : g < w1.heap.size)
  (h : w1.drew.cell? ⟨g, 0, none⟩ = some a0 ∧ w1.drew.cell? ⟨g, 1, none⟩ = some a1 ∧ w1.drew.cell? ⟨g, 2, none⟩ = some a2 ∧ w1.drew.cell? ⟨g, 3, none⟩ = some a3 ∧ w1.drew.cell? ⟨g, 4, none⟩ = some a4 ∧ w1.drew.cell? ⟨g, 5, none⟩ = some a5 ∧ Hid (Below w.heap.size w w1.drew)) (hb : Below w1.drew.heap.size w1.drew w2) :
  w2.cell? ⟨g, 0, none⟩ = some a0 ∧ w2.cell? ⟨g, 1, none⟩ = some a1 ∧ w2.cell? ⟨g, 2, none⟩ = some a2 ∧ w2.cell? ⟨g, 3, none⟩ = some a3 ∧ w2.cell? ⟨g, 4, none⟩ = some a4 ∧ w2.cell? ⟨g, 5, none⟩ = some a5 ∧ Hid (Below w.heap.size w w2) := by
 obtain ⟨m0, m1, m2, m3, m4, m5, h⟩ := h
 exact ⟨(hb.cell hg).trans m0, (hb.cell hg).trans m1, (hb.cell hg).trans m2, (hb.cell hg).trans m3, (hb.cell hg).trans m4, (hb.cell hg).trans m5, below_tr h.out hb (Nat.le_refl _)⟩

theorem held_cell {w1 w2 : World} {p : Addr} {v : Value} (h : w1.cell? p = some v) (hb : Below w1.heap.size w1 w2) : w2.cell? p = some v := (hb.cell (lt_of_cell h)).trans h
theorem held_and {A B A' B' : Prop} (h : A ∧ B) (f : A → A') (g : B → B') : A' ∧ B' := ⟨f h.1, g h.2⟩
theorem drewn_below {a w' : World} (h : Below a.drew.heap.size a.drew w') : Below a.heap.size a w' := ((Below.refl a.heap.size a).drew).trans h
/-- The memory while the reference checks a maze. -/
structure CQ (w wr : World) (a0 a1 a2 a3 a4 a5 : Value) : Prop where
 below : Below w.heap.size w wr
 m0 : wr.cell? ⟨w.heap.size, 0, none⟩ = some a0
 m1 : wr.cell? ⟨w.heap.size, 1, none⟩ = some a1
 m2 : wr.cell? ⟨w.heap.size, 2, none⟩ = some a2
 m3 : wr.cell? ⟨w.heap.size, 3, none⟩ = some a3
 m4 : wr.cell? ⟨w.heap.size, 4, none⟩ = some a4
 m5 : wr.cell? ⟨w.heap.size, 5, none⟩ = some a5

set_option maxHeartbeats 4000000 in
set_option maxRecDepth 100000 in
theorem qcheck_calls {ok : Nat → Prop} {v : Value} {m : MZ} (w : World) (hm : MazeV w ok v m) (hl : Lens m) :
  Calls Try.prog 16 #[v] w fun e w' => e = .returned (.int .i64 (chk m)) ∧ Below w.heap.size w w' := by
 have hmz := hm
 obtain ⟨vfr, vup, vts, rfl, hfr, hup, hts⟩ := hm
 obtain ⟨vsf, ⟨Af, cf, rfl, hcf, hrf⟩, hef⟩ := hfr
 obtain ⟨Au, cu, rfl, hcu, hru⟩ := hup
 obtain ⟨vst, ⟨At, ct, rfl, hct, hrt⟩, het⟩ := hts
 obtain ⟨l1, l2, l3, l4⟩ := hl
 have HRF := Lib.hid hrf; clear hrf
 have HEF := Lib.hid hef; clear hef
 have HRT := Lib.hid hrt; clear hrt
 have HET := Lib.hid het; clear het
 have HL4 := Lib.hid l4; clear l4
 clear hru hmz
 go_enter Try.func16, Try.ntmps16
 by_cases hs : [m.w, m.h, m.l].any side = true
 ·have HC := Lib.hid (chk_side hs)
  have h6 : (m.w < 1) ∨ (¬ m.w < 1 ∧ m.h < 1) ∨ (¬ m.w < 1 ∧ ¬ m.h < 1 ∧ m.l < 1) ∨ (¬ m.w < 1 ∧ ¬ m.h < 1 ∧ ¬ m.l < 1 ∧ 300 < m.w) ∨ (¬ m.w < 1 ∧ ¬ m.h < 1 ∧ ¬ m.l < 1 ∧ ¬ 300 < m.w ∧ 300 < m.h) ∨ (¬ m.w < 1 ∧ ¬ m.h < 1 ∧ ¬ m.l < 1 ∧ ¬ 300 < m.w ∧ ¬ 300 < m.h ∧ 300 < m.l) := by
   simp [side] at hs
   omega
  clear hs
  rcases h6 with h | ⟨h1, h⟩ | ⟨h1, h2, h⟩ | ⟨h1, h2, h3, h⟩ | ⟨h1, h2, h3, h4, h⟩ | ⟨h1, h2, h3, h4, h5, h⟩
  all_goals go_wp2
  all_goals go_ret
  all_goals exact ⟨ret_int HC.out.symm, (Below.refl _ _).alloc (Nat.le_refl _) _⟩
 have hs' : [m.w, m.h, m.l].any side = false := by simpa using hs
 clear hs
 obtain ⟨⟨p1, p2⟩, p3, p4⟩ := sides_mul hs'
 obtain ⟨⟨a1, a2⟩, ⟨b1, b2⟩, c1, c2⟩ := sides hs'
 have HN := Lib.hid hs'; clear hs'
 have hret2 : 300 < m.n ∨ 6 < m.tasks.length → chk m = 2 := by
  intro h
  unfold chk
  rw [if_neg (by rw [HN.out]; simp), if_pos h]
 have HR2 := Lib.hid hret2; clear hret2
 go_wp2_with fail
 refine (qnodes_calls _ _ _ _ _ _ _ (by omega) (by omega)).mono ?_
 rintro e w' ⟨rfl, hb⟩
 have hB0 : Blk (w.alloc (.cells #[.int .i64 m.w, .int .i64 m.h, .int .i64 m.l, .slice Af m.free.length cf, .slice Au m.up.length cu, .slice At m.tasks.length ct] 31)) w.heap.size 31 _ := heap_alloc_new _ _
 have hB1 : Blk w' w.heap.size 31 _ := hB0.below hb (lt_of_some hB0)
 have hb1 : Below w.heap.size w w' := below_tr ((Below.refl _ _).alloc (Nat.le_refl _) _) hb (by simp)
 clear hB0 hb
 obtain ⟨m0, m1, m2, m3, m4, m5⟩ := cells6 hB1
 have HB1 := Lib.hid hB1; clear hB1
 have Hb1 := Lib.hid hb1; clear hb1
 by_cases hn : 300 < m.w * m.h * m.l
 ·go_wp2
  go_ret
  exact ⟨ret_int (HR2.out (.inl hn)).symm, Hb1.out⟩
 by_cases ht : 6 < m.tasks.length
 ·go_wp2
  go_ret
  exact ⟨ret_int (HR2.out (.inr ht)).symm, Hb1.out⟩
 have hret1 : (m.free.length ≠ m.tasks.length ∨ (m.up.length : Int) ≠ m.n ∨ m.free.any (fun f => (f.length : Int) != m.n) = true) → chk m = 1 := by
  intro h
  unfold chk
  rw [if_neg (by rw [HN.out]; simp), if_neg (by unfold MZ.n; omega), if_pos h]
 have HR1 := Lib.hid hret1; clear hret1
 by_cases hf : m.free.length = m.tasks.length
 case neg =>
  have hd1 : decide ((m.free.length : Int) = (m.tasks.length : Int)) = false := by simp; omega
  have hd2 : ((m.free.length : Int) != (m.tasks.length : Int)) = true := by simp; omega
  have hd3 : decide (m.free.length = m.tasks.length) = false := by simp; omega
  have hd4 : (m.free.length != m.tasks.length) = true := by simp; omega
  go_wp2_with fail
  go_quiet (fail)
  go_wp2
  go_ret
  exact ⟨ret_int (HR1.out (.inl hf)).symm, below_drewN Hb1.out _⟩
 have hd1 : decide ((m.free.length : Int) = (m.tasks.length : Int)) = true := by simp; omega
 have hd2 : ((m.free.length : Int) != (m.tasks.length : Int)) = false := by simp; omega
 have hd3 : decide (m.free.length = m.tasks.length) = true := by simp; omega
 have hd4 : (m.free.length != m.tasks.length) = false := by simp; omega
 have HF := Lib.hid hf; clear hf
 have hlt : w.heap.size < w'.heap.size := lt_of_some HB1.out
 go_wp2_with fail
 go_region_held3 (fun w' => w'.cell? ⟨w.heap.size, 0, none⟩ = some (.int .i64 m.w) ∧ w'.cell? ⟨w.heap.size, 1, none⟩ = some (.int .i64 m.h) ∧ w'.cell? ⟨w.heap.size, 2, none⟩ = some (.int .i64 m.l) ∧ w'.cell? ⟨w.heap.size, 3, none⟩ = some (.slice Af m.free.length cf) ∧ w'.cell? ⟨w.heap.size, 4, none⟩ = some (.slice Au m.up.length cu) ∧ w'.cell? ⟨w.heap.size, 5, none⟩ = some (.slice At m.tasks.length ct) ∧ Hid (Below w.heap.size w w'))
  (first | exact held6_drew hlt m0 m1 m2 m3 m4 m5 Hb1 | exact held6 hlt (by assumption) hb9)
  ((go_at_call 48; refine (qnodes_calls _ _ _ _ _ _ _ (by omega) (by omega)).mono ?_; rintro e w9 ⟨rfl, hb9⟩))
 rename_i hS
 obtain ⟨m0, m1, m2, m3, m4, m5, hB⟩ := hS
 have hI := Lib.hid (CQ.mk hB.out m0 m1 m2 m3 m4 m5)
 by_cases hu : (m.up.length : Int) = m.w * m.h * m.l
 case neg =>
  go_wp2
  go_ret
  exact ⟨ret_int (HR1.out (.inr (.inl hu))).symm, hB.out⟩
 clear m0 m1 m2 m3 m4 m5 hb9 hB hlt
 have HU := Lib.hid hu
 go_wp2_with fail
 rename ((m.up.length : Int) != m.w * m.h * m.l) = false => hq
 clear hu hq
 have hBB : Boolss w ok (.slice Af m.free.length cf) m.free := ⟨vsf, ⟨Af, cf, rfl, hcf, HRF.out⟩, HEF.out⟩
 have HBB := Lib.hid hBB; clear hBB
 go_loopw [3] (fun i wr => ∃ k : Nat, k ≤ m.free.length ∧ i = .int .i64 k ∧ Hid ((m.free.take k).any (fun f => (f.length : Int) != m.n) = false) ∧ Hid (CQ w wr (.int .i64 m.w) (.int .i64 m.h) (.int .i64 m.l) (.slice Af m.free.length cf) (.slice Au m.up.length cu) (.slice At m.tasks.length ct))) (fun i _ => m.free.length - (intOf i).toNat)
 case atStart => exact ⟨0, by omega, rfl, by simp [Hid], hI⟩
 clear hI
 case round =>
  obtain ⟨k, hk, rfl, hn, hI⟩ := hrel
  obtain ⟨Hb1, m0, m1, m2, m3, m4, m5⟩ := hI
  have Hb1 := Lib.hid Hb1
  have hlt := lt_of_cell m0
  by_cases hkl : k < m.free.length
  ·obtain ⟨b, off, u, rfl, _, hcell, hu⟩ := eachAt (HRF.out.keep (Same.of_below Hb1.out)) HEF.out hkl hkl
   obtain ⟨x, hx⟩ : ∃ x, x = m.free[k] := ⟨_, rfl⟩
   rw [← hx] at hu
   obtain ⟨Ax, cx, rfl, hcx, _⟩ := hu
   have hsucc := Lib.hid (any_take_succ (fun f => (f.length : Int) != m.n) hkl)
   rw [← hx] at hsucc
   have HM := Lib.hid (show x ∈ m.free by rw [hx]; exact List.getElem_mem _)
   clear hx
   go_wp2_with fail
   go_region_held3 (fun w' => (w'.cell? ⟨w.heap.size, 0, none⟩ = some (.int .i64 m.w) ∧ w'.cell? ⟨w.heap.size, 1, none⟩ = some (.int .i64 m.h) ∧ w'.cell? ⟨w.heap.size, 2, none⟩ = some (.int .i64 m.l) ∧ w'.cell? ⟨w.heap.size, 3, none⟩ = some (.slice (some ⟨b, off, none⟩) m.free.length cf) ∧ w'.cell? ⟨w.heap.size, 4, none⟩ = some (.slice Au m.up.length cu) ∧ w'.cell? ⟨w.heap.size, 5, none⟩ = some (.slice At m.tasks.length ct) ∧ Hid (Below w.heap.size w w')) ∧ w'.cell? ⟨b, off + k, none⟩ = some (.slice Ax x.length cx))
    (first | exact ⟨held6_drew hlt m0 m1 m2 m3 m4 m5 Hb1, hcell⟩ | exact held_and (by assumption) (fun h => held6 hlt h hb9) (fun h => held_cell h hb9))
    ((go_at_call 48; refine (qnodes_calls _ _ _ _ _ _ _ (by omega) (by omega)).mono ?_; rintro e w9 ⟨rfl, hb9⟩))
   rename_i hS
   obtain ⟨⟨m0, m1, m2, m3, m4, m5, hB⟩, _⟩ := hS
   have hI := Lib.hid (CQ.mk hB.out m0 m1 m2 m3 m4 m5)
   clear hb9 hB
   by_cases hx : (x.length : Int) = m.w * m.h * m.l
   ·have HX := Lib.hid hx
    go_wp2
    clear hx
    go_roundw
    case rel => exact ⟨k + 1, by omega, by go_num, by
     show _ = false
     rw [hsucc.out, hn.out]
     show (false || ((x.length : Int) != m.w * m.h * m.l)) = false
     rw [HX.out]; simp, hI⟩
    case measure => simp [intOf]; omega
   ·have HX := Lib.hid hx
    go_wp2
    go_ret
    exact ⟨ret_int (HR1.out (.inr (.inr (List.any_eq_true.2 ⟨x, HM.out, by
     show ((x.length : Int) != m.w * m.h * m.l) = true
     simpa using HX.out⟩)))).symm, hI.out.below⟩
  ·obtain rfl : k = m.free.length := by omega
   have ha : m.free.any (fun f => (f.length : Int) != m.n) = false := by have h := hn.out; rwa [List.take_length] at h
   have HA := Lib.hid ha; clear ha hn
   have hI := Lib.hid (CQ.mk Hb1.out m0 m1 m2 m3 m4 m5)
   have hTT : Tasks w ok (.slice At m.tasks.length ct) m.tasks := ⟨vst, ⟨At, ct, rfl, hct, HRT.out⟩, HET.out⟩
   have HTT := Lib.hid hTT; clear hTT
   go_wp2_with fail
   clear m0 m1 m2 m3 m4 m5 Hb1 hlt
   go_loopw [4] (fun i wr => ∃ k : Nat, k ≤ m.tasks.length ∧ i = .int .i64 k ∧ Hid ((m.tasks.take k).any (fun t => t.1.any (beyond m.n) || t.2.any (beyond m.n)) = false) ∧ Hid (CQ w wr (.int .i64 m.w) (.int .i64 m.h) (.int .i64 m.l) (.slice Af m.free.length cf) (.slice Au m.up.length cu) (.slice At m.tasks.length ct))) (fun i _ => m.tasks.length - (intOf i).toNat)
   case atStart => exact ⟨0, by omega, rfl, by simp [Hid], hI⟩
   clear hI
   case round =>
    obtain ⟨k, hk, rfl, hn, hI⟩ := hrel
    obtain ⟨Hb1, m0, m1, m2, m3, m4, m5⟩ := hI
    have Hb1 := Lib.hid Hb1
    have hlt := lt_of_cell m0
    by_cases hkl : k < m.tasks.length
    ·obtain ⟨b, off, sn, u1, u2, rfl, _, hc0, hc1, hc2, hi1, hi2⟩ := tasksAt (HTT.out.below Hb1.out) hkl
     obtain ⟨t, htt⟩ : ∃ t, t = m.tasks[k] := ⟨_, rfl⟩
     rw [← htt] at hi1 hi2
     obtain ⟨hl1, hl2⟩ := HL4.out _ (List.getElem_mem hkl)
     rw [← htt] at hl1 hl2
     have HI1 := Lib.hid hi1; clear hi1
     have HI2 := Lib.hid hi2; clear hi2
     have hsucc := Lib.hid (any_take_succ (fun t => t.1.any (beyond m.n) || t.2.any (beyond m.n)) hkl)
     rw [← htt] at hsucc
     have HM := Lib.hid (show t ∈ m.tasks by rw [htt]; exact List.getElem_mem _)
     clear htt
     have hret : ∀ x, x ∈ [] ++ t.1 ++ t.2 → beyond m.n x = true → chk m = 50 := by
      intro x hx h
      have ht : (t.1.any (beyond m.n) || t.2.any (beyond m.n)) = true := by
       rw [← List.any_append]
       exact List.any_eq_true.2 ⟨x, by simpa using hx, h⟩
      unfold chk
      rw [if_neg (by rw [HN.out]; simp), if_neg (by unfold MZ.n; omega), if_neg (by rw [HA.out, HF.out, HU.out]; simp [MZ.n]), if_pos (List.any_eq_true.2 ⟨t, HM.out, ht⟩)]
     have HRET := Lib.hid hret; clear hret
     go_wp2_with fail
     have hN0 : w.heap.size ≤ wr.heap.size := Hb1.out.size
     go_region_held3 (fun w' => (w'.cell? ⟨w.heap.size, 0, none⟩ = some (.int .i64 m.w) ∧ w'.cell? ⟨w.heap.size, 1, none⟩ = some (.int .i64 m.h) ∧ w'.cell? ⟨w.heap.size, 2, none⟩ = some (.int .i64 m.l) ∧ w'.cell? ⟨w.heap.size, 3, none⟩ = some (.slice Af m.free.length cf) ∧ w'.cell? ⟨w.heap.size, 4, none⟩ = some (.slice Au m.up.length cu) ∧ w'.cell? ⟨w.heap.size, 5, none⟩ = some (.slice (some ⟨b, off, none⟩) m.tasks.length ct) ∧ Hid (Below w.heap.size w w')) ∧ w'.cell? ⟨b, off + k * 3 + 1, none⟩ = some u1 ∧ w'.cell? ⟨b, off + k * 3 + 2, none⟩ = some u2)
      (first | (exact ⟨held6_drew hlt m0 m1 m2 m3 m4 m5 Hb1, hc1, hc2⟩) | (exact ⟨held6 hlt (held6_drew hlt m0 m1 m2 m3 m4 m5 Hb1) hbB, held_cell (w1 := wr.drew) hc1 hbB, held_cell (w1 := wr.drew) hc2 hbB⟩) | (exact ⟨held6 hlt (held6_drew hlt m0 m1 m2 m3 m4 m5 Hb1) hbA, held_cell (w1 := wr.drew) hc1 hbA, held_cell (w1 := wr.drew) hc2 hbA⟩) | (exact ⟨held6 hlt (held6_drew hlt m0 m1 m2 m3 m4 m5 Hb1) ((Below.refl _ _).alloc (Nat.le_refl _) _), held_cell (w1 := wr.drew) hc1 ((Below.refl _ _).alloc (Nat.le_refl _) _), held_cell (w1 := wr.drew) hc2 ((Below.refl _ _).alloc (Nat.le_refl _) _)⟩))
      (first | (refine step_append_ints (ok := ok) (by rfl) _ _ _ (by rfl) wr.heap.size [] t.1 _ _ (by rfl) (by rfl) (own_empty wr.drew wr.heap.size (Nat.le_refl _)) (HI1.out.keep (Same.of_below (w := wr) ((Below.drew (Below.refl _ _)).alloc (Nat.le_refl _) _))) (by simp) (by simp; omega) ?_; intro v1 w1 ho1 hg1 hat1; have hbA : Below wr.drew.heap.size wr.drew w1 := (below_app ((Below.refl _ _).alloc (Nat.le_refl _) _) hg1 (by simp) (fun k hk => own_base (own_empty wr.drew wr.heap.size (Nat.le_refl _)) hk))) | (refine step_append_ints (ok := ok) (by rfl) _ _ _ (by rfl) wr.heap.size ([] ++ t.1) t.2 _ _ (by rfl) (by rfl) ho1 (HI2.out.keep (Same.of_below (w := wr.drew) hbA)) hbA.size (by simp; omega) ?_; intro v2 w2 ho2 hg2 hat2; have hbB : Below wr.drew.heap.size wr.drew w2 := (below_app hbA hg2 hbA.size (fun k hk => own_base ho1 hk))))
     rename_i hS
     obtain ⟨⟨m0, m1, m2, m3, m4, m5, hB⟩, _, _⟩ := hS
     have hI := Lib.hid (CQ.mk hB.out m0 m1 m2 m3 m4 m5)
     have HO2 := Lib.hid (ho2.mono hN0 : OwnI w2 w.heap.size v2 ([] ++ t.1 ++ t.2))
     clear hbA hbB hg1 hat1 ho1 ho2 hg2 hat2 hc0 hc1 hc2 m0 m1 m2 m3 m4 m5 hB hlt Hb1
     obtain ⟨all, hall⟩ : ∃ all, all = [] ++ t.1 ++ t.2 := ⟨_, rfl⟩
     rw [← hall] at HO2 HRET
     have hll : all.length ≤ 800000000000 := by rw [hall]; simp; omega
     have HALL := Lib.hid hall; clear hall
     obtain ⟨Av, cv, rfl, hcv, hrv⟩ := Row.of_own HO2.out
     have HRV := Lib.hid hrv; clear hrv
     go_wp2_with fail
     go_loopw [6] (fun i wi => ∃ j : Nat, j ≤ all.length ∧ i = .int .i64 j ∧ Hid ((all.take j).any (beyond m.n) = false) ∧ Hid (Below w2.heap.size w2 wi) ∧ Hid (CQ w wi (.int .i64 m.w) (.int .i64 m.h) (.int .i64 m.l) (.slice Af m.free.length cf) (.slice Au m.up.length cu) (.slice (some ⟨b, off, none⟩) m.tasks.length ct))) (fun i _ => all.length - (intOf i).toNat)
     case atStart => exact ⟨0, by omega, rfl, by simp [Hid], Below.refl _ _, hI⟩
     clear hI
     case round =>
      obtain ⟨j, hj, rfl, hnj, hb2, hI⟩ := hrel
      obtain ⟨wi, rfl⟩ : ∃ wi : World, wi = wr := ⟨_, rfl⟩
      obtain ⟨Hb1, m0, m1, m2, m3, m4, m5⟩ := hI
      have Hb1 := Lib.hid Hb1
      have hlt := lt_of_cell m0
      by_cases hjl : j < all.length
      ·obtain ⟨bv, ov, rfl, _, hcell⟩ := intsAt (HRV.out.keep (Same.of_below hb2.out)) hjl hjl
       obtain ⟨x, hx⟩ : ∃ x, x = all[j] := ⟨_, rfl⟩
       rw [← hx] at hcell
       have hsucj := Lib.hid (any_take_succ (beyond m.n) hjl)
       rw [← hx] at hsucj
       have HXM := Lib.hid (show x ∈ all by rw [hx]; exact List.getElem_mem _)
       clear hx
       by_cases hx0 : x < 0
       ·have hd : decide (x < 0) = true := by simpa using hx0
        go_wp2_with fail
        go_quiet (fail)
        go_wp2
        go_ret
        exact ⟨ret_int (HRET.out x HXM.out (by unfold beyond; rw [hd]; rfl)).symm, below_drewN Hb1.out _⟩
       ·have hd : decide (x < 0) = false := by simpa using hx0
        go_wp2_with fail
        go_region_held3 (fun w' => (w'.cell? ⟨w.heap.size, 0, none⟩ = some (.int .i64 m.w) ∧ w'.cell? ⟨w.heap.size, 1, none⟩ = some (.int .i64 m.h) ∧ w'.cell? ⟨w.heap.size, 2, none⟩ = some (.int .i64 m.l) ∧ w'.cell? ⟨w.heap.size, 3, none⟩ = some (.slice Af m.free.length cf) ∧ w'.cell? ⟨w.heap.size, 4, none⟩ = some (.slice Au m.up.length cu) ∧ w'.cell? ⟨w.heap.size, 5, none⟩ = some (.slice (some ⟨b, off, none⟩) m.tasks.length ct) ∧ Hid (Below w.heap.size w w')) ∧ w'.cell? ⟨bv, ov + j, none⟩ = some (.int .i64 x))
         (first | exact ⟨held6_drew hlt m0 m1 m2 m3 m4 m5 Hb1, hcell⟩ | exact held_and (by assumption) (fun h => held6 hlt h hb9) (fun h => held_cell h hb9))
         ((go_at_call 48; refine (qnodes_calls _ _ _ _ _ _ _ (by omega) (by omega)).mono ?_; rintro e w9 ⟨rfl, hb9⟩))
        rename_i hS
        obtain ⟨⟨m0, m1, m2, m3, m4, m5, hB⟩, _⟩ := hS
        have hI := Lib.hid (CQ.mk hB.out m0 m1 m2 m3 m4 m5)
        have hb29 : Hid (Below w2.heap.size w2 w9) := below_tr hb2.out (drewn_below hb9) (Nat.le_refl _)
        clear hb9 hB
        by_cases hxn : x < m.w * m.h * m.l
        ·have HX := Lib.hid hxn
         have HX0 := Lib.hid hx0
         go_wp2
         clear hxn hx0 hd
         go_roundw
         case rel => exact ⟨j + 1, by omega, by go_num, by
          show _ = false
          rw [hsucj.out, hnj.out]
          have h1 : ¬ m.w * m.h * m.l ≤ x := by have := HX.out; omega
          have h2 : ¬ x < 0 := by have := HX0.out; omega
          show (false || (decide (x < 0) || decide (m.w * m.h * m.l ≤ x))) = false
          rw [decide_eq_false h1, decide_eq_false h2]
          rfl, hb29, hI⟩
         case measure => simp [intOf]; omega
        ·have HX := Lib.hid hxn
         go_wp2
         go_ret
         exact ⟨ret_int (HRET.out x HXM.out (by
          have h1 : m.w * m.h * m.l ≤ x := by have := HX.out; omega
          show (decide (x < 0) || decide (m.w * m.h * m.l ≤ x)) = true
          rw [decide_eq_true h1, Bool.or_true])).symm, hI.out.below⟩
      ·obtain rfl : j = all.length := by omega
       go_wp2
       go_roundw
       case rel => exact ⟨k + 1, by omega, by go_num, by
        show _ = false
        have h := hnj.out
        rw [List.take_length, HALL.out, List.nil_append, List.any_append] at h
        rw [hsucc.out, hn.out]
        exact h, ⟨Hb1.out, m0, m1, m2, m3, m4, m5⟩⟩
       case measure => simp [intOf]; omega
    ·obtain rfl : k = m.tasks.length := by omega
     go_wp2
     go_ret
     refine ⟨ret_int ?_, Hb1.out⟩
     have hn := hn.out
     rw [List.take_length] at hn
     unfold chk
     rw [if_neg (by rw [HN.out]; simp), if_neg (by unfold MZ.n; omega), if_neg (by rw [HA.out, HF.out, HU.out]; simp [MZ.n]), if_neg (by rw [hn]; simp)]
end Go.Proofs.Ytgpjfpcjiebjiaa

namespace Go.Proofs.Ytgpjfpcjiebjiaa
open Go.RowKit
set_option linter.unusedVariables false
set_option linter.unusedSimpArgs false
attribute [local go_sem ↓] Go.wp_at_zero Go.wp_at_succ

/-- A right maze. -/
structure Good (m : MZ) : Prop where
 dim : Dim m
 fl : m.free.length = m.tasks.length
 fn : ∀ f ∈ m.free, (f.length : Int) = m.n
 tk : m.tasks.length ≤ 6
 tn : ∀ t ∈ m.tasks, ∀ x, x ∈ t.1 ∨ x ∈ t.2 → 0 ≤ x ∧ x < m.n
theorem Good.of {m : MZ} (h : chk m = 0) : Good m := by
 unfold chk at h
 split at h
 ·cases h
 ·rename_i h1
  have h1' : [m.w, m.h, m.l].any side = false := by simpa using h1
  obtain ⟨⟨a1, a2⟩, ⟨b1, b2⟩, c1, c2⟩ := sides h1'
  split at h
  ·cases h
  ·rename_i h2
   split at h
   ·cases h
   ·rename_i h3
    split at h
    ·cases h
    ·rename_i h4
     have h2' : m.n ≤ 300 ∧ m.tasks.length ≤ 6 := by omega
     have h3a : m.free.length = m.tasks.length := by
      by_cases h : m.free.length = m.tasks.length
      ·exact h
      ·exact absurd (.inl h) h3
     have h3b : (m.up.length : Int) = m.n := by
      by_cases h : (m.up.length : Int) = m.n
      ·exact h
      ·exact absurd (.inr (.inl h)) h3
     have h3c : ∀ f ∈ m.free, (f.length : Int) = m.n := by
      intro f hf
      by_cases h : (f.length : Int) = m.n
      ·exact h
      ·exact absurd (.inr (.inr (List.any_eq_true.2 ⟨f, hf, by simpa using h⟩))) h3
     refine ⟨⟨a1, a2, b1, b2, c1, c2, h2'.1, h3b⟩, h3a, h3c, h2'.2, fun t ht x hx => ?_⟩
     by_cases hb : beyond m.n x = true
     ·exfalso
      apply h4
      refine List.any_eq_true.2 ⟨t, ht, ?_⟩
      rw [Bool.or_eq_true]
      rcases hx with hx | hx
      ·exact .inl (List.any_eq_true.2 ⟨x, hx, hb⟩)
      ·exact .inr (List.any_eq_true.2 ⟨x, hx, hb⟩)
     ·simp [beyond] at hb
      omega
theorem Good.n1 {m : MZ} (g : Good m) : 1 ≤ m.w * m.h * m.l := by have := g.dim.layer; omega

/-- What Next returns. -/
def nextO (m : MZ) (node : Int) : List Int := if chk m = 0 ∧ 0 ≤ node ∧ node < m.n then nextL m node else []
open Classical in
/-- What Reach returns. -/
noncomputable def reachO (m : MZ) (t : Int) (from_ used : List Int) : List Int := if chk m = 0 ∧ 0 ≤ t ∧ t < m.tasks.length then reachL m t.toNat from_ used else []

set_option maxHeartbeats 4000000 in
set_option maxRecDepth 100000 in
theorem rNext_calls {ok : Nat → Prop} {v : Value} {m : MZ} (node : Int) (w : World) (hm : MazeV w ok v m) (hl : Lens m) :
  Calls Try.prog 18 #[v, .int .i64 node] w fun e w' => ∃ v', e = .returned v' ∧ Mk w w' v' (nextO m node) := by
 have hmz := hm
 obtain ⟨vfr, vup, vts, rfl, hfr, _, hts⟩ := hm
 obtain ⟨vst, ⟨At, ct, rfl, hct, _⟩, _⟩ := hts
 have HMZ := Lib.hid hmz; clear hmz
 have HL := Lib.hid hl
 obtain ⟨l1, l2, l3, l4⟩ := hl
 clear l4 hfr
 go_enter Try.func18, Try.ntmps18
 go_wp2_with fail
 generalize hw1 : w.alloc (.cells #[.int .i64 m.w, .int .i64 m.h, .int .i64 m.l, vfr, vup, .slice At m.tasks.length ct] 31) = w1
 have hb1 : Ext w w1 := by rw [← hw1]; exact (Ext.refl w).alloc _
 have hgm : Blk w1 w.heap.size 31 #[.int .i64 m.w, .int .i64 m.h, .int .i64 m.l, vfr, vup, .slice At m.tasks.length ct] := by rw [← hw1]; exact heap_alloc_new _ _
 clear hw1
 obtain ⟨m0, m1, m2, m3, m4, m5⟩ := cells6 hgm
 have r0 := Ext.rule m0
 have r1 := Ext.rule m1
 have r2 := Ext.rule m2
 have r3 := Ext.rule m3
 have r4 := Ext.rule m4
 have r5 := Ext.rule m5
 clear m0 m1 m2 m3 m4 m5 hgm
 have ra := ext_allocs w1
 have hx : Ext w1 w1 := Ext.refl w1
 go_wp2_with fail
 refine (check_calls w1 (HMZ.out.below hb1) HL.out).mono ?_
 rintro e wA ⟨rfl, hbA⟩
 have hxA : Ext w1 wA := hbA
 clear hx
 by_cases hc : chk m = 0
 case neg =>
  have hd : (chk m != 0) = true := by simpa using hc
  have HC := Lib.hid hc; clear hc
  go_wp2
  go_ret
  exact ⟨_, rfl, (hb1.trans hxA).mono_mk (Mk.cast (Mk.nil _) (by unfold nextO; rw [if_neg (fun h => HC.out h.1)]))⟩
 have hd : (chk m != 0) = false := by simpa using hc
 have G := Lib.hid (Good.of hc)
 have HC := Lib.hid hc; clear hc
 obtain ⟨hl1, hl2⟩ := G.out.dim.layer
 have hn1 := G.out.dim.n1
 by_cases h0 : 0 ≤ node
 case neg =>
  go_wp2
  go_ret
  exact ⟨_, rfl, (hb1.trans hxA).mono_mk (Mk.cast (Mk.nil _) (by unfold nextO; rw [if_neg (fun h => by have := h.2.1; omega)]))⟩
 go_wp2_with fail
 refine (rnodes_calls _ _ _ _ _ _ _ (by omega) (by omega)).mono ?_
 rintro e wB ⟨rfl, hbB⟩
 have hxB : Ext w1 wB := hxA.trans hbB
 by_cases h1 : node < m.w * m.h * m.l
 case neg =>
  go_wp2
  go_ret
  exact ⟨_, rfl, (hb1.trans hxB).mono_mk (Mk.cast (Mk.nil _) (by unfold nextO; rw [if_neg (fun h => by have := h.2.2; unfold MZ.n at this; omega)]))⟩
 go_wp2_with fail
 refine (next_calls m node _ (HMZ.out.below (hb1.trans hxB)) G.out.dim h0 h1).mono ?_
 rintro e wC ⟨v', rfl, hbC, hoC⟩
 have HM : Hid (Mk wB wC v' (nextL m node)) := ⟨hoC, hbC⟩
 clear hoC
 have hxC : Ext w1 wC := hxB.trans hbC
 go_wp2_with fail
 go_ret
 exact ⟨_, rfl, (hb1.trans hxB).mono_mk (HM.out.cast (by unfold nextO; rw [if_pos ⟨HC.out, h0, h1⟩]))⟩

set_option maxHeartbeats 4000000 in
set_option maxRecDepth 100000 in
theorem qNext_calls {ok : Nat → Prop} {v : Value} {m : MZ} (node : Int) (w : World) (hm : MazeV w ok v m) (hl : Lens m) :
  Calls Try.prog 19 #[v, .int .i64 node] w fun e w' => ∃ v', e = .returned v' ∧ Mk w w' v' (nextO m node) := by
 have hmz := hm
 obtain ⟨vfr, vup, vts, rfl, hfr, _, hts⟩ := hm
 obtain ⟨vst, ⟨At, ct, rfl, hct, _⟩, _⟩ := hts
 have HMZ := Lib.hid hmz; clear hmz
 have HL := Lib.hid hl
 obtain ⟨l1, l2, l3, l4⟩ := hl
 clear l4 hfr
 go_enter Try.func19, Try.ntmps19
 go_wp2_with fail
 generalize hw1 : w.alloc (.cells #[.int .i64 m.w, .int .i64 m.h, .int .i64 m.l, vfr, vup, .slice At m.tasks.length ct] 31) = w1
 have hb1 : Ext w w1 := by rw [← hw1]; exact (Ext.refl w).alloc _
 have hgm : Blk w1 w.heap.size 31 #[.int .i64 m.w, .int .i64 m.h, .int .i64 m.l, vfr, vup, .slice At m.tasks.length ct] := by rw [← hw1]; exact heap_alloc_new _ _
 clear hw1
 obtain ⟨m0, m1, m2, m3, m4, m5⟩ := cells6 hgm
 have r0 := Ext.rule m0
 have r1 := Ext.rule m1
 have r2 := Ext.rule m2
 have r3 := Ext.rule m3
 have r4 := Ext.rule m4
 have r5 := Ext.rule m5
 clear m0 m1 m2 m3 m4 m5 hgm
 have ra := ext_allocs w1
 have hx : Ext w1 w1 := Ext.refl w1
 go_wp2_with fail
 refine (qcheck_calls w1 (HMZ.out.below hb1) HL.out).mono ?_
 rintro e wA ⟨rfl, hbA⟩
 have hxA : Ext w1 wA := hbA
 clear hx
 by_cases hc : chk m = 0
 case neg =>
  have hd : (chk m != 0) = true := by simpa using hc
  have HC := Lib.hid hc; clear hc
  go_wp2
  go_ret
  exact ⟨_, rfl, (hb1.trans hxA).mono_mk (Mk.cast (Mk.nil _) (by unfold nextO; rw [if_neg (fun h => HC.out h.1)]))⟩
 have hd : (chk m != 0) = false := by simpa using hc
 have G := Lib.hid (Good.of hc)
 have HC := Lib.hid hc; clear hc
 obtain ⟨hl1, hl2⟩ := G.out.dim.layer
 have hn1 := G.out.dim.n1
 by_cases h0 : 0 ≤ node
 case neg =>
  go_wp2
  go_ret
  exact ⟨_, rfl, (hb1.trans hxA).mono_mk (Mk.cast (Mk.nil _) (by unfold nextO; rw [if_neg (fun h => by have := h.2.1; omega)]))⟩
 go_wp2_with fail
 refine (qnodes_calls _ _ _ _ _ _ _ (by omega) (by omega)).mono ?_
 rintro e wB ⟨rfl, hbB⟩
 have hxB : Ext w1 wB := hxA.trans hbB
 by_cases h1 : node < m.w * m.h * m.l
 case neg =>
  go_wp2
  go_ret
  exact ⟨_, rfl, (hb1.trans hxB).mono_mk (Mk.cast (Mk.nil _) (by unfold nextO; rw [if_neg (fun h => by have := h.2.2; unfold MZ.n at this; omega)]))⟩
 go_wp2_with fail
 refine (qnext_calls m node _ (HMZ.out.below (hb1.trans hxB)) G.out.dim h0 h1).mono ?_
 rintro e wC ⟨v', rfl, hbC, hoC⟩
 have HM : Hid (Mk wB wC v' (nextL m node)) := ⟨hoC, hbC⟩
 clear hoC
 have hxC : Ext w1 wC := hxB.trans hbC
 go_wp2_with fail
 go_ret
 exact ⟨_, rfl, (hb1.trans hxB).mono_mk (HM.out.cast (by unfold nextO; rw [if_pos ⟨HC.out, h0, h1⟩]))⟩

set_option maxHeartbeats 4000000 in
set_option maxRecDepth 100000 in
theorem qReach_calls {ok ok1 ok2 : Nat → Prop} {v vf vu : Value} {m : MZ} {from_ used : List Int} (t : Int) (w : World) (hm : MazeV w ok v m) (hl : Lens m) (hf : Ints w ok1 vf from_) (hlf : from_.length ≤ 20000000000000) (hu : Ints w ok2 vu used) (hlu : used.length ≤ 20000000000000) :
  Calls Try.prog 21 #[v, .int .i64 t, vf, vu] w fun e w' => ∃ v', e = .returned v' ∧ Mk w w' v' (reachO m t from_ used) := by
 have hmz := hm
 obtain ⟨vfr, vup, vts, rfl, hfr, _, hts⟩ := hm
 obtain ⟨vst, ⟨At, ct, rfl, hct, _⟩, _⟩ := hts
 have HMZ := Lib.hid hmz; clear hmz
 have HL := Lib.hid hl
 obtain ⟨l1, l2, l3, l4⟩ := hl
 clear l4 hfr
 have HF := Lib.hid hf; clear hf
 have HU := Lib.hid hu; clear hu
 go_enter Try.func21, Try.ntmps21
 go_wp2_with fail
 generalize hw1 : w.alloc (.cells #[.int .i64 m.w, .int .i64 m.h, .int .i64 m.l, vfr, vup, .slice At m.tasks.length ct] 31) = w1
 have hb1 : Ext w w1 := by rw [← hw1]; exact (Ext.refl w).alloc _
 have hgm : Blk w1 w.heap.size 31 #[.int .i64 m.w, .int .i64 m.h, .int .i64 m.l, vfr, vup, .slice At m.tasks.length ct] := by rw [← hw1]; exact heap_alloc_new _ _
 clear hw1
 obtain ⟨m0, m1, m2, m3, m4, m5⟩ := cells6 hgm
 have r0 := Ext.rule m0
 have r1 := Ext.rule m1
 have r2 := Ext.rule m2
 have r3 := Ext.rule m3
 have r4 := Ext.rule m4
 have r5 := Ext.rule m5
 clear m0 m1 m2 m3 m4 m5 hgm
 have ra := ext_allocs w1
 have hx : Ext w1 w1 := Ext.refl w1
 go_wp2_with fail
 refine (qcheck_calls w1 (HMZ.out.below hb1) HL.out).mono ?_
 rintro e wA ⟨rfl, hbA⟩
 have hxA : Ext w1 wA := hbA
 clear hx
 by_cases hc : chk m = 0
 case neg =>
  have hd : (chk m != 0) = true := by simpa using hc
  have HC := Lib.hid hc; clear hc
  go_wp2
  go_ret
  exact ⟨_, rfl, (hb1.trans hxA).mono_mk (Mk.cast (Mk.nil _) (by unfold reachO; rw [if_neg (fun h => HC.out h.1)]))⟩
 have hd : (chk m != 0) = false := by simpa using hc
 have G := Lib.hid (Good.of hc)
 have HC := Lib.hid hc; clear hc
 obtain ⟨hl1, hl2⟩ := G.out.dim.layer
 have hn1 := G.out.dim.n1
 by_cases h0 : 0 ≤ t
 case neg =>
  go_wp2
  go_ret
  exact ⟨_, rfl, (hb1.trans hxA).mono_mk (Mk.cast (Mk.nil _) (by unfold reachO; rw [if_neg (fun h => by have := h.2.1; omega)]))⟩
 by_cases h1 : t < m.tasks.length
 case neg =>
  have h1' : (m.tasks.length : Int) ≤ t := by omega
  go_wp2
  go_ret
  exact ⟨_, rfl, (hb1.trans hxA).mono_mk (Mk.cast (Mk.nil _) (by unfold reachO; rw [if_neg (fun h => by have := h.2.2; omega)]))⟩
 obtain ⟨tn, rfl⟩ : ∃ tn : Nat, t = tn := ⟨t.toNat, by omega⟩
 have htn : tn < m.free.length := by have := G.out.fl; omega
 have htn2 : tn < m.tasks.length := by omega
 go_wp2_with fail
 refine (qreach_calls tn _ (HMZ.out.below (hb1.trans hxA)) G.out.dim htn G.out.fn (HF.out.below (hb1.trans hxA)) hlf (HU.out.below (hb1.trans hxA)) hlu).mono ?_
 rintro e wC ⟨v', rfl, hM⟩
 have HM := Lib.hid hM; clear hM
 have hxC : Ext w1 wC := hxA.trans HM.out.ext
 go_wp2_with fail
 go_ret
 exact ⟨_, rfl, (hb1.trans hxA).mono_mk (HM.out.cast (by unfold reachO; rw [if_pos ⟨HC.out, by omega, by omega⟩]; rfl))⟩

set_option maxHeartbeats 4000000 in
set_option maxRecDepth 100000 in
theorem rReach_calls {ok ok1 ok2 : Nat → Prop} {v vf vu : Value} {m : MZ} {from_ used : List Int} (t : Int) (w : World) (hm : MazeV w ok v m) (hl : Lens m) (hf : Ints w ok1 vf from_) (hlf : from_.length ≤ 20000000000000) (hu : Ints w ok2 vu used) (hlu : used.length ≤ 20000000000000) :
  Calls Try.prog 20 #[v, .int .i64 t, vf, vu] w fun e w' => ∃ v', e = .returned v' ∧ Mk w w' v' (reachO m t from_ used) := by
 have hmz := hm
 obtain ⟨vfr, vup, vts, rfl, hfr, _, hts⟩ := hm
 obtain ⟨vst, ⟨At, ct, rfl, hct, _⟩, _⟩ := hts
 have HMZ := Lib.hid hmz; clear hmz
 have HL := Lib.hid hl
 obtain ⟨l1, l2, l3, l4⟩ := hl
 clear l4 hfr
 have HF := Lib.hid hf; clear hf
 have HU := Lib.hid hu; clear hu
 go_enter Try.func20, Try.ntmps20
 go_wp2_with fail
 generalize hw1 : w.alloc (.cells #[.int .i64 m.w, .int .i64 m.h, .int .i64 m.l, vfr, vup, .slice At m.tasks.length ct] 31) = w1
 have hb1 : Ext w w1 := by rw [← hw1]; exact (Ext.refl w).alloc _
 have hgm : Blk w1 w.heap.size 31 #[.int .i64 m.w, .int .i64 m.h, .int .i64 m.l, vfr, vup, .slice At m.tasks.length ct] := by rw [← hw1]; exact heap_alloc_new _ _
 clear hw1
 obtain ⟨m0, m1, m2, m3, m4, m5⟩ := cells6 hgm
 have r0 := Ext.rule m0
 have r1 := Ext.rule m1
 have r2 := Ext.rule m2
 have r3 := Ext.rule m3
 have r4 := Ext.rule m4
 have r5 := Ext.rule m5
 clear m0 m1 m2 m3 m4 m5 hgm
 have ra := ext_allocs w1
 have hx : Ext w1 w1 := Ext.refl w1
 go_wp2_with fail
 refine (check_calls w1 (HMZ.out.below hb1) HL.out).mono ?_
 rintro e wA ⟨rfl, hbA⟩
 have hxA : Ext w1 wA := hbA
 clear hx
 by_cases hc : chk m = 0
 case neg =>
  have hd : (chk m != 0) = true := by simpa using hc
  have HC := Lib.hid hc; clear hc
  go_wp2
  go_ret
  exact ⟨_, rfl, (hb1.trans hxA).mono_mk (Mk.cast (Mk.nil _) (by unfold reachO; rw [if_neg (fun h => HC.out h.1)]))⟩
 have hd : (chk m != 0) = false := by simpa using hc
 have G := Lib.hid (Good.of hc)
 have HC := Lib.hid hc; clear hc
 obtain ⟨hl1, hl2⟩ := G.out.dim.layer
 have hn1 := G.out.dim.n1
 by_cases h0 : 0 ≤ t
 case neg =>
  go_wp2
  go_ret
  exact ⟨_, rfl, (hb1.trans hxA).mono_mk (Mk.cast (Mk.nil _) (by unfold reachO; rw [if_neg (fun h => by have := h.2.1; omega)]))⟩
 by_cases h1 : t < m.tasks.length
 case neg =>
  have h1' : (m.tasks.length : Int) ≤ t := by omega
  go_wp2
  go_ret
  exact ⟨_, rfl, (hb1.trans hxA).mono_mk (Mk.cast (Mk.nil _) (by unfold reachO; rw [if_neg (fun h => by have := h.2.2; omega)]))⟩
 obtain ⟨tn, rfl⟩ : ∃ tn : Nat, t = tn := ⟨t.toNat, by omega⟩
 have htn : tn < m.free.length := by have := G.out.fl; omega
 have htn2 : tn < m.tasks.length := by omega
 go_wp2_with fail
 have hxD := Lib.hid hxA
 go_region_held3 (fun w' => Ext w1 w' ∧ Ext wA w')
  (first | (exact held_drew hxA) | (exact held_ext (held_drew hxA) hb8) | (exact held_ext (held_ext (held_drew hxA) hb8) hb9))
  (first | ((go_at_call 58; refine (setOf_calls _ (HU.out.keep (Same.of_below (hb1.trans hxA.drew))) hlu).mono ?_; rintro e w8 ⟨s8, rfl, hb8, hs8, hss8⟩)) | ((go_at_call 57; refine (reach_calls tn _ (HMZ.out.keep (Same.of_below (hb1.trans (hxA.drew.trans hb8)))) G.out.dim htn G.out.fn (HF.out.keep (Same.of_below (hb1.trans (hxA.drew.trans hb8)))) hlf hs8).mono ?_; rintro e w9 ⟨s9, rfl, hb9, hs9, hss9⟩)))
 rename_i hS
 have hx9 := hS.1
 have HS9 := Lib.hid hs9; clear hs9
 have hE := Lib.hid (reachL_of (used := used) (fun x => (hss9 x).trans ⟨fun h => h.congr (fun _ => Iff.rfl) hss8, fun h => h.congr (fun _ => Iff.rfl) (fun y => (hss8 y).symm)⟩)); clear hss9
 have hgs : w8.heap.size + 1 < w9.heap.size := lt_of_some HS9.out
 obtain ⟨gs, hgs'⟩ : ∃ gs, gs = w8.heap.size + 1 := ⟨_, rfl⟩
 rw [← hgs'] at HS9 hgs
 have HG := Lib.hid hgs'
 clear hb8 hs8 hss8 hS
 go_wp2_with fail
 rw [← HG.out]
 clear hgs' hb9
 refine (rnodes_calls _ _ _ _ _ _ _ (by omega) (by omega)).mono ?_
 rintro e wB ⟨rfl, hbB⟩
 have hxB : Ext w1 wB := hx9.trans hbB
 have HSB := Lib.hid (HS9.out.below hbB)
 clear HS9 hgs hbB
 obtain ⟨N, hN⟩ : ∃ N : Nat, m.w * m.h * m.l = (N : Int) := ⟨(m.w * m.h * m.l).toNat, by omega⟩
 have HN := Lib.hid hN; clear hN
 have hN3 : N ≤ 300 := by have h := HN.out; have := G.out.dim.n1; omega
 have hMk := Lib.hid (Mk.nil wB)
 rw [HN.out]
 go_wp2_with fail
 go_loopw [9, 34] (fun v i wr => ∃ k : Nat, k ≤ N ∧ i = .int .i64 (k : Nat) ∧ Hid (Mk wB wr v (((List.range k).map Int.ofNat).filter (fun x => decide (x ∈ s9))))) (fun _ i _ => N - (intOf i).toNat)
 case atStart => exact ⟨0, by omega, rfl, hMk⟩
 clear hMk
 case round =>
  obtain ⟨j, hj, rfl, hM⟩ := hrel
  by_cases hjl : j < N
  ·have hstep : ((List.range (j + 1)).map Int.ofNat).filter (fun x => decide (x ∈ s9)) = ((List.range j).map Int.ofNat).filter (fun x => decide (x ∈ s9)) ++ [(j : Int)].filter (fun x => decide (x ∈ s9)) := by
    rw [List.range_succ, List.map_append, List.filter_append]; rfl
   have HS := Lib.hid hstep; clear hstep
   have hset := HSB.out.below hM.out.ext
   by_cases hjs : (j : Int) ∈ s9
   ·have hlk := look_t hset hjs
    have HJS := Lib.hid hjs; clear hjs
    have hlen : (((List.range j).map Int.ofNat).filter (fun x => decide (x ∈ s9))).length ≤ j := Nat.le_trans (List.length_filter_le _ _) (by simp)
    obtain ⟨lj, hlj⟩ : ∃ lj, lj = ((List.range j).map Int.ofNat).filter (fun x => decide (x ∈ s9)) := ⟨_, rfl⟩
    rw [← hlj] at hM hlen HS
    clear hlj
    have hzB := hM.out.ext.size
    go_wp2_with (at_builtin; refine wpAppAt rfl _ _ rfl _ lj (j : Int) wB.heap.size wr.heap.size 1 _ rfl rfl (hM.out.own.alloc _) ?d1 ?d2 ?d3 ?_)
    (try case d1 => exact cell_new _ _ _ (by simp))
    case d2 => (first | (simp; done) | (simp; omega) | omega)
    case d3 => omega
    intro v' wb hob hgb hbl
    have hM' := Lib.hid ((hM.out.alloc _).app hob hgb)
    clear hob hgb hbl
    go_wp2
    go_roundw
    case rel => exact ⟨j + 1, by omega, by go_num, by rw [HS.out, List.filter_cons_of_pos (by simpa using HJS.out)]; exact hM'⟩
    case measure => simp [intOf]; omega
   ·have hlk := look_f hset hjs
    have HJS := Lib.hid hjs; clear hjs
    go_wp2
    go_roundw
    case rel => exact ⟨j + 1, by omega, by go_num, by rw [HS.out, List.filter_cons_of_neg (by simpa using HJS.out), List.filter_nil, List.append_nil]; exact hM⟩
    case measure => simp [intOf]; omega
  ·have hjN : j = N := by omega
   subst hjN
   go_wp2_with fail
   go_ret
   refine ⟨_, rfl, (hb1.trans hxB).mono_mk (hM.out.cast ?_)⟩
   have hN' : m.n.toNat = j := by have : m.n = (j : Int) := HN.out; omega
   unfold reachO
   rw [if_pos ⟨HC.out, by omega, by omega⟩, Int.toNat_natCast, ← hE.out, hN']
end Go.Proofs.Ytgpjfpcjiebjiaa
