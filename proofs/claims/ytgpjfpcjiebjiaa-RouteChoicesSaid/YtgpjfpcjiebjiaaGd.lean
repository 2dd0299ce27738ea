/- Walks: the check of a maze. append of whole lists onto slices of the call's own, at whatever lengths. Lists under construction: a slice of the call's own that holds numbers, over a memory that only grew; cells known ahead, kept by every growth. Walks: the reference's neighbours of a node. -/
import Derived.Test.YtgpjfpcjiebjiaaGc
import Derived.Deep.AppendSrc
import Derived.Deep.AppendLies
import Derived.Deep.DeepCutAuto
namespace Go.Proofs.Ytgpjfpcjiebjiaa
open Go.RowKit
set_option linter.unusedVariables false
set_option linter.unusedSimpArgs false

/-- Beyond the nodes. -/
def beyond (n x : Int) : Bool := decide (x < 0) || decide (n ≤ x)
/-- A side out of 1..300. -/
def side (x : Int) : Bool := decide (x < 1) || decide (300 < x)
/-- The error of a maze. -/
def chk (m : MZ) : Int :=
 if [m.w, m.h, m.l].any side then 2
 else if 300 < m.n ∨ 6 < m.tasks.length then 2
 else if m.free.length ≠ m.tasks.length ∨ (m.up.length : Int) ≠ m.n ∨ m.free.any (fun f => (f.length : Int) != m.n) = true then 1
 else if m.tasks.any (fun t => t.1.any (beyond m.n) || t.2.any (beyond m.n)) then 50
 else 0

theorem cf51 (a : Array Value) (w : World) : (callFunc 51 a).run Try.prog w = .ok (.enter 51 a) w := callFunc_run Try.func51 (by kernel_rfl) (by kernel_rfl) a w
theorem cf52 (a : Array Value) (w : World) : (callFunc 52 a).run Try.prog w = .ok (.enter 52 a) w := callFunc_run Try.func52 (by kernel_rfl) (by kernel_rfl) a w

set_option maxRecDepth 100000 in
theorem check1_calls {ok : Nat → Prop} {u : Value} {f : List Bool} (g : Nat) (n : Int) (w : World) (hu : Bools w ok u f) (hc : w.cell? ⟨g, 0, none⟩ = some (.int .i64 n)) :
  Calls Try.prog 51 #[u, .pointer (some ⟨g, 0, none⟩)] w fun e w' => e = .returned (.bool ((f.length : Int) != n)) ∧ Drew w w' := by
 obtain ⟨A, c, rfl, hcc, hr⟩ := hu
 clear hr
 go_enter Try.func51, Try.ntmps51
 go_wp2
 go_ret
 exact ⟨rfl, Drew.refl _⟩

set_option maxRecDepth 100000 in
theorem check2_calls (g : Nat) (n x : Int) (w : World) (hc : w.cell? ⟨g, 0, none⟩ = some (.int .i64 n)) :
  Calls Try.prog 52 #[.int .i64 x, .pointer (some ⟨g, 0, none⟩)] w fun e w' => e = .returned (.bool (beyond n x)) ∧ Drew w w' := by
 by_cases hx : x < 0
 ·go_enter Try.func52, Try.ntmps52
  go_wp2
  go_ret
  exact ⟨ret_bool (by simp [beyond, hx]), Drew.refl _⟩
 ·go_enter Try.func52, Try.ntmps52
  go_wp2
  go_ret
  refine ⟨ret_bool ?_, Drew.refl _⟩
  simp [beyond]
  omega

/-- The lengths of a maze's lists. -/
structure Lens (m : MZ) : Prop where
 fr : m.free.length ≤ 20000000000000
 up : m.up.length ≤ 20000000000000
 ts : m.tasks.length ≤ 20000000000000
 tl : ∀ t ∈ m.tasks, t.1.length ≤ 400000000000 ∧ t.2.length ≤ 400000000000

theorem three_cells {w : World} {g : Nat} {t : TypeId} {a b c : Int} (h : Blk w g t #[.int .i64 a, .int .i64 b, .int .i64 c]) (k : Nat) (hk : k < 3) : w.cell? ⟨g, k, none⟩ = some (.int .i64 ([a, b, c][k])) := by
 unfold Blk at h
 unfold World.cell?
 simp only [h]
 match k, hk with
 | 0, _ => rfl
 | 1, _ => rfl
 | 2, _ => rfl

/-- A task of a slice of tasks. -/
theorem tasksAt {w : World} {ok : Nat → Prop} {A : Option Addr} {n c : Nat} {l : List (List Int × List Int)} (h : Tasks w ok (.slice A n c) l) {k : Nat} (hk : k < l.length) :
  ∃ b off s u1 u2, A = some ⟨b, off, none⟩ ∧ ok b ∧ w.cell? ⟨b, off + k * 3, none⟩ = some (.string s) ∧ w.cell? ⟨b, off + k * 3 + 1, none⟩ = some u1 ∧ w.cell? ⟨b, off + k * 3 + 2, none⟩ = some u2 ∧ Ints w ok u1 l[k].1 ∧ Ints w ok u2 l[k].2 := by
 obtain ⟨vs, ⟨A', c', hv, _, hl, hc⟩, he⟩ := h
 injection hv with e1 e2 e3
 subst e1
 obtain ⟨b, off, rfl, hb, hc⟩ := hc (by omega)
 obtain ⟨s, u1, u2, h0, h1, h2, i1, i2⟩ := he k _ (List.getElem?_eq_getElem hk)
 exact ⟨b, off, s, u1, u2, rfl, hb, hc _ _ h0, by rw [Nat.add_assoc]; exact hc _ _ h1, by rw [Nat.add_assoc]; exact hc _ _ h2, i1, i2⟩
/-- The memory while a maze is checked. -/
structure CI (w wr : World) (cells : Array Value) (ints : Array Value) : Prop where
 below : Below w.heap.size w wr
 box : Blk wr w.heap.size 31 cells
 ints : Blk wr (w.heap.size + 1) 3 ints
theorem CI.call {w wr w' : World} {c i : Array Value} (h : CI w wr c i) (hb : Below wr.heap.size wr w') : CI w w' c i :=
 ⟨below_tr h.below hb (Nat.le_refl _), h.box.below hb (lt_of_some h.box), h.ints.below hb (lt_of_some h.ints)⟩
theorem CI.new (w : World) (c i : Array Value) : CI w ((w.alloc (.cells c 31)).alloc (.cells i 3)) c i :=
 ⟨((Below.refl _ _).alloc (Nat.le_refl _) _).alloc (by simp) _, Blk.alloc (heap_alloc_new w _) _, by
  have := heap_alloc_new (w.alloc (.cells c 31)) (.cells i 3)
  simpa [Blk] using this⟩
theorem chk_side {m : MZ} (h : [m.w, m.h, m.l].any side = true) : chk m = 2 := by
 unfold chk
 rw [if_pos h]
/-- The same behind its own cell. -/
structure CJ (w wr : World) (cells : Array Value) (g : Nat) (n : Int) : Prop where
 below : Below w.heap.size w wr
 box : Blk wr w.heap.size 31 cells
 all : wr.cell? ⟨g, 0, none⟩ = some (.int .i64 n)
theorem CJ.call {w wr w' : World} {c : Array Value} {g : Nat} {n : Int} (h : CJ w wr c g n) (hb : Below wr.heap.size wr w') : CJ w w' c g n :=
 ⟨below_tr h.below hb (Nat.le_refl _), h.box.below hb (lt_of_some h.box), (cell_same (hb.block g (lt_of_cell h.all))).trans h.all⟩
theorem CJ.new {w w' : World} {c i : Array Value} (h : CI w w' c i) (n : Int) : CJ w (w'.alloc (.cells #[.int .i64 n] 3)) c w'.heap.size n :=
 ⟨h.below.alloc (Nat.le_of_lt (lt_of_some h.box)) _, h.box.alloc _, by
  have := heap_alloc_new w' (.cells #[.int .i64 n] 3)
  unfold World.cell?
  simp only [this]
  rfl⟩
theorem CJ.alloc {w wr : World} {c : Array Value} {g : Nat} {n : Int} (h : CJ w wr c g n) (o : Obj) : CJ w (wr.alloc o) c g n :=
 ⟨h.below.alloc (Nat.le_of_lt (lt_of_some h.box)) _, h.box.alloc _, (cell_same (Below.heap_alloc wr o g (lt_of_cell h.all))).trans h.all⟩
theorem cells3 {w : World} {g : Nat} {t : TypeId} {a0 a1 a2 : Value} (h : Blk w g t #[a0, a1, a2]) :
  w.cell? ⟨g, 0, none⟩ = some a0 ∧ w.cell? ⟨g, 1, none⟩ = some a1 ∧ w.cell? ⟨g, 2, none⟩ = some a2 := by
 unfold Blk at h
 unfold World.cell?
 simp only [h]
 exact ⟨rfl, rfl, rfl⟩
theorem sides {m : MZ} (h : [m.w, m.h, m.l].any side = false) : (1 ≤ m.w ∧ m.w ≤ 300) ∧ (1 ≤ m.h ∧ m.h ≤ 300) ∧ (1 ≤ m.l ∧ m.l ≤ 300) := by
 simp [side] at h
 omega
theorem sides_mul {m : MZ} (h : [m.w, m.h, m.l].any side = false) : (1 ≤ m.w * m.h ∧ m.w * m.h ≤ 90000) ∧ (1 ≤ m.w * m.h * m.l ∧ m.w * m.h * m.l ≤ 27000000) := by
 obtain ⟨⟨a1, a2⟩, ⟨b1, b2⟩, c1, c2⟩ := sides h
 have h1 : 1 ≤ m.w * m.h := by have := Int.mul_pos (a := m.w) (b := m.h) (by omega) (by omega); omega
 have h2 : m.w * m.h ≤ 300 * 300 := Int.mul_le_mul a2 b2 (by omega) (by omega)
 have h3 : 1 ≤ m.w * m.h * m.l := by have := Int.mul_pos (a := m.w * m.h) (b := m.l) (by omega) (by omega); omega
 have h4 : m.w * m.h * m.l ≤ 300 * 300 * 300 := Int.mul_le_mul h2 c2 (by omega) (by omega)
 omega

set_option maxHeartbeats 2000000 in
set_option maxRecDepth 100000 in
theorem check_calls {ok : Nat → Prop} {v : Value} {m : MZ} (w : World) (hm : MazeV w ok v m) (hl : Lens m) :
  Calls Try.prog 15 #[v] w fun e w' => e = .returned (.int .i64 (chk m)) ∧ Below w.heap.size w w' := by
 have hmz := hm
 obtain ⟨vfr, vup, vts, rfl, hfr, hup, hts⟩ := hm
 obtain ⟨vsf, ⟨Af, cf, rfl, hcf, hrf⟩, hef⟩ := hfr
 obtain ⟨Au, cu, rfl, hcu, hru⟩ := hup
 obtain ⟨vst, ⟨At, ct, rfl, hct, hrt⟩, het⟩ := hts
 obtain ⟨l1, l2, l3, l4⟩ := hl
 have HRF := Lib.hid hrf; clear hrf
 have HEF := Lib.hid hef; clear hef
 have HRT := Lib.hid hrt; clear hrt
 have HET := Lib.hid het; clear het
 have HL4 := Lib.hid l4; clear l4
 clear hru hmz
 go_enter Try.func15, Try.ntmps15
 go_wp2
 have hCI := CI.new w #[.int .i64 m.w, .int .i64 m.h, .int .i64 m.l, .slice Af m.free.length cf, .slice Au m.up.length cu, .slice At m.tasks.length ct] #[.int .i64 m.w, .int .i64 m.h, .int .i64 m.l]
 go_loopw [17] (fun i wr => ∃ k : Nat, k ≤ 3 ∧ i = .int .i64 k ∧ Hid (([m.w, m.h, m.l].take k).any side = false) ∧ Hid (CI w wr #[.int .i64 m.w, .int .i64 m.h, .int .i64 m.l, .slice Af m.free.length cf, .slice Au m.up.length cu, .slice At m.tasks.length ct] #[.int .i64 m.w, .int .i64 m.h, .int .i64 m.l])) (fun i _ => 3 - (intOf i).toNat)
 case atStart => exact ⟨0, by omega, rfl, by simp [Hid], hCI⟩
 clear hCI
 case round =>
  obtain ⟨k, hk, rfl, hn, hI⟩ := hrel
  by_cases hlt : k < 3
  ·obtain ⟨x, hx⟩ : ∃ x, x = [m.w, m.h, m.l][k]'hlt := ⟨_, rfl⟩
   have hcell := three_cells hI.out.ints k hlt
   rw [← hx] at hcell
   have hsucc := Lib.hid (any_take_succ (l := [m.w, m.h, m.l]) side hlt)
   rw [← hx] at hsucc
   have HX := Lib.hid (show x ∈ [m.w, m.h, m.l] by rw [hx]; exact List.getElem_mem _)
   clear hx
   by_cases h1 : x < 1
   ·go_wp2
    go_ret
    refine ⟨ret_int ?_, hI.out.below⟩
    rw [chk_side]
    exact List.any_eq_true.2 ⟨x, HX.out, by simp [side, h1]⟩
   ·by_cases h2 : 300 < x
    ·go_wp2
     go_ret
     refine ⟨ret_int ?_, hI.out.below⟩
     rw [chk_side]
     exact List.any_eq_true.2 ⟨x, HX.out, by simp [side, h2]⟩
    ·have HS := Lib.hid (show side x = false by simp [side, h1, h2])
     go_wp2
     go_roundw
     case rel => exact ⟨k + 1, by omega, by go_num, by
      show _ = false
      rw [hsucc.out, hn.out, HS.out]; rfl, hI⟩
     case measure => simp [intOf]; omega
  ·obtain rfl : k = 3 := by omega
   have HN : Hid ([m.w, m.h, m.l].any side = false) := hn.out
   clear hn
   obtain ⟨m0, m1, m2, m3, m4, m5⟩ := cells6 hI.out.box
   obtain ⟨⟨p1, p2⟩, p3, p4⟩ := sides_mul HN.out
   have hret2 : 300 < m.n ∨ 6 < m.tasks.length → chk m = 2 := by
    intro h
    unfold chk
    rw [if_neg (by rw [HN.out]; simp), if_pos h]
   have HR2 := Lib.hid hret2; clear hret2
   go_wp2_with fail
   refine (rnodes_calls _ _ _ _ _ _ _ (by omega) (by omega)).mono ?_
   rintro e w' ⟨rfl, hb⟩
   have hI1 := Lib.hid (hI.out.call hb)
   clear hI m0 m1 m2 m3 m4 m5 hb
   have hal : ∀ o, _ := fun o => cells6 (hI1.out.box.alloc o)
   by_cases hn : 300 < m.w * m.h * m.l
   ·go_wp2
    go_ret
    exact ⟨ret_int (HR2.out (.inl hn)).symm, hI1.out.below.alloc (Nat.le_of_lt (lt_of_some hI1.out.box)) _⟩
   by_cases ht : 6 < m.tasks.length
   ·go_wp2
    go_ret
    exact ⟨ret_int (HR2.out (.inr ht)).symm, hI1.out.below.alloc (Nat.le_of_lt (lt_of_some hI1.out.box)) _⟩
   have hret1 : (m.free.length ≠ m.tasks.length ∨ (m.up.length : Int) ≠ m.n ∨ m.free.any (fun f => (f.length : Int) != m.n) = true) → chk m = 1 := by
    intro h
    unfold chk
    rw [if_neg (by rw [HN.out]; simp), if_neg (by unfold MZ.n; omega), if_pos h]
   have HR1 := Lib.hid hret1; clear hret1
   by_cases hf : m.free.length = m.tasks.length
   case neg =>
    go_wp2
    go_ret
    exact ⟨ret_int (HR1.out (.inl hf)).symm, hI1.out.below.alloc (Nat.le_of_lt (lt_of_some hI1.out.box)) _⟩
   by_cases hu : (m.up.length : Int) = m.w * m.h * m.l
   case neg =>
    go_wp2
    go_ret
    exact ⟨ret_int (HR1.out (.inr (.inl hu))).symm, hI1.out.below.alloc (Nat.le_of_lt (lt_of_some hI1.out.box)) _⟩
   have hI2 := Lib.hid (CJ.new hI1.out (m.w * m.h * m.l))
   have hgt : w.heap.size < w'.heap.size := lt_of_some hI1.out.box
   clear hI1
   have hBB : Boolss w ok (.slice Af m.tasks.length cf) m.free := by
    rw [← hf]
    exact ⟨vsf, ⟨Af, cf, rfl, hcf, HRF.out⟩, HEF.out⟩
   go_wp2_with fail
   refine (containsFuncB_calls (ok := ok) 51 _ (fun f => (f.length : Int) != m.w * m.h * m.l) _ (hBB.below hI2.out.below) l1 cf51 ?hp).mono ?_
   case hp => exact fun x hx u hu w1 hd => check1_calls w'.heap.size _ w1 (hu.keep (hd.same ok)) (hI2.out.call (hd.below _)).all
   rintro e w1 ⟨rfl, hd⟩
   have hI3 := Lib.hid (hI2.out.call (hd.below _))
   clear hI2 hd hal
   by_cases ha : m.free.any (fun f => (f.length : Int) != m.w * m.h * m.l) = true
   ·rw [ha]
    go_wp2
    go_ret
    exact ⟨ret_int (HR1.out (.inr (.inr ha))).symm, hI3.out.below⟩
   have ha' := Lib.hid (show m.free.any (fun f => (f.length : Int) != m.w * m.h * m.l) = false by simpa using ha)
   clear ha
   rw [ha'.out]
   obtain ⟨m0, m1, m2, m3, m4, m5⟩ := cells6 hI3.out.box
   have hTT : Tasks w ok (.slice At m.tasks.length ct) m.tasks := ⟨vst, ⟨At, ct, rfl, hct, HRT.out⟩, HET.out⟩
   go_wp2_with fail
   go_loopw [62] (fun i wr => ∃ k : Nat, k ≤ m.tasks.length ∧ i = .int .i64 k ∧ Hid ((m.tasks.take k).any (fun t => t.1.any (beyond m.n) || t.2.any (beyond m.n)) = false) ∧ Hid (CJ w wr #[.int .i64 m.w, .int .i64 m.h, .int .i64 m.l, .slice Af m.free.length cf, .slice Au m.up.length cu, .slice At m.tasks.length ct] w'.heap.size (m.w * m.h * m.l))) (fun i _ => m.tasks.length - (intOf i).toNat)
   case atStart => exact ⟨0, by omega, rfl, by simp [Hid], hI3⟩
   clear hI3 m0 m1 m2 m3 m4 m5 hBB
   case round =>
    obtain ⟨k, hk, rfl, hn, hI⟩ := hrel
    by_cases hlt : k < m.tasks.length
    ·obtain ⟨b, off, sn, u1, u2, rfl, _, hc0, hc1, hc2, hi1, hi2⟩ := tasksAt (hTT.below hI.out.below) hlt
     obtain ⟨A1, c1, rfl, hcc1, hr1⟩ := hi1.open
     obtain ⟨A2, c2, rfl, hcc2, hr2⟩ := hi2.open
     obtain ⟨hl1, hl2⟩ := HL4.out _ (List.getElem_mem hlt)
     clear hr1 hr2
     have HI1 := Lib.hid hi1; clear hi1
     have HI2 := Lib.hid hi2; clear hi2
     have HTT := Lib.hid hTT; clear hTT
     obtain ⟨t, ht⟩ : ∃ t, t = m.tasks[k] := ⟨_, rfl⟩
     rw [← ht] at HI1 HI2 hc1 hc2 hcc1 hcc2 hl1 hl2
     have hsucc := Lib.hid (any_take_succ (fun t => t.1.any (beyond m.n) || t.2.any (beyond m.n)) hlt)
     rw [← ht] at hsucc
     have HM := Lib.hid (show t ∈ m.tasks by rw [ht]; exact List.getElem_mem _)
     clear ht
     have hI3 := Lib.hid (hI.out.alloc (.cells #[.string sn, .slice A1 t.1.length c1, .slice A2 t.2.length c2] 75))
     have hB3 := Lib.hid (heap_alloc_new wr (.cells #[.string sn, .slice A1 t.1.length c1, .slice A2 t.2.length c2] 75))
     have hret : (t.1.any (beyond m.n) || t.2.any (beyond m.n)) = true → chk m = 50 := by
      intro h
      unfold chk
      rw [if_neg (by rw [HN.out]; simp), if_neg (by unfold MZ.n; omega), if_neg (by unfold MZ.n; rw [ha'.out]; simp; omega), if_pos (List.any_eq_true.2 ⟨t, HM.out, h⟩)]
     have HRET := Lib.hid hret; clear hret
     go_wp2_with fail
     refine (containsFuncI_calls (ok := ok) 52 _ (beyond (m.w * m.h * m.l)) _ (HI1.out.below ((Below.refl _ _).alloc (Nat.le_refl _) _)) (by omega) cf52 ?hp).mono ?_
     case hp => exact fun x hx w1 hd => check2_calls w'.heap.size _ x w1 (hI3.out.call (hd.below _)).all
     rintro e w4 ⟨rfl, hd⟩
     have hI4 := Lib.hid (hI3.out.call (hd.below _))
     have hB4 : Hid (Blk w4 wr.heap.size 75 _) := Blk.below hB3.out (hd.below _) (lt_of_some hB3.out)
     have hb4 : Hid (Below wr.heap.size wr w4) := ((Below.refl _ _).alloc (Nat.le_refl _) _).trans (hd.below _)
     clear hd hI3 hB3
     obtain ⟨q0, q1, q2⟩ := cells3 hB4.out
     by_cases ha1 : t.1.any (beyond (m.w * m.h * m.l)) = true
     ·rw [ha1]
      go_wp2
      go_ret
      exact ⟨ret_int (HRET.out (by show (t.1.any (beyond (m.w * m.h * m.l)) || _) = true; rw [ha1]; rfl)).symm, hI4.out.below⟩
     ·have ha1 : t.1.any (beyond (m.w * m.h * m.l)) = false := by simpa using ha1
      rw [ha1]
      have HA1 := Lib.hid ha1; clear ha1
      go_wp2_with fail
      refine (containsFuncI_calls (ok := ok) 52 _ (beyond (m.w * m.h * m.l)) _ (HI2.out.below hb4.out) (by omega) cf52 ?hp).mono ?_
      case hp => exact fun x hx w1 hd => check2_calls w'.heap.size _ x w1 (hI4.out.call (hd.below _)).all
      rintro e w5 ⟨rfl, hd⟩
      have hI5 := Lib.hid (hI4.out.call (hd.below _))
      clear hd hI4 hB4 q0 q1 q2
      by_cases ha2 : t.2.any (beyond (m.w * m.h * m.l)) = true
      ·rw [ha2]
       go_wp2
       go_ret
       exact ⟨ret_int (HRET.out (by show (_ || t.2.any (beyond (m.w * m.h * m.l))) = true; rw [ha2]; simp)).symm, hI5.out.below⟩
      ·have ha2 : t.2.any (beyond (m.w * m.h * m.l)) = false := by simpa using ha2
       rw [ha2]
       have HA2 := Lib.hid ha2; clear ha2
       go_wp2_with fail
       go_roundw
       case rel => exact ⟨k + 1, by omega, by go_num, by
        show _ = false
        rw [hsucc.out, hn.out]
        show (_ || (t.1.any (beyond (m.w * m.h * m.l)) || t.2.any (beyond (m.w * m.h * m.l)))) = false
        rw [HA1.out, HA2.out]; rfl, hI5⟩
       case measure => simp [intOf]; omega
    ·obtain rfl : k = m.tasks.length := by omega
     go_wp2
     go_ret
     refine ⟨ret_int ?_, hI.out.below⟩
     have hn := hn.out
     rw [List.take_length] at hn
     unfold chk
     rw [if_neg (by rw [HN.out]; simp), if_neg (by unfold MZ.n; omega), if_neg (by unfold MZ.n; rw [ha'.out]; simp; omega), if_neg (by rw [hn]; simp)]
end Go.Proofs.Ytgpjfpcjiebjiaa

namespace Go.Proofs.Ytgpjfpcjiebjiaa
open Go.RowKit
set_option linter.unusedVariables false
set_option linter.unusedSimpArgs false

theorem setCells_nil (w : World) (b off : Nat) : w.setCells b off [] = w := by
 unfold World.setCells
 rfl

/-- Append a list (of cells, of whatever source) onto a slice of the call's own: the run. -/
theorem run_append_row {ok : Nat → Prop} (w : World) (base : Nat) (t ty e : TypeId) (i : TypeInfo) (z : Value) (bytes : Nat) (ht : Try.prog.underlying t = some (.slice e)) (hi : Try.prog.info? e = some i) (hz : i.zero = some z)
  (hsize : i.size = 1) (hby : i.bytes = bytes) (hzs : z.cells.size = 1)
  (v : Value) (n : Nat) (xs : List Value) (hown : w.ownsRow base e 1 v n xs) (u : Value) (m : Nat) (news : List Value) (hu : Row w ok 1 u m news) (h1 : ∀ u ∈ news, u.oneCell' = true)
  (h63 : n + m ≤ maxLen) (hbytes : (n + m) * bytes ≤ 140737488355328) (hbase : base ≤ w.heap.size) :
  ∃ v' w', (Builtin.append_ #[t, t] ty #[v, u]).run Try.prog w = .ok v' w' ∧ w'.ownsRow base e 1 v' (n + m) (xs ++ news) ∧ w.grownBy w' v.ownBlock ∧ (v'.ownBlock = v.ownBlock ∨ v'.ownBlock = some w.heap.size) := by
 obtain ⟨A, c, rfl, hc, hl, hcells⟩ := hu
 rcases A with _ | a
 ·have hm : m = 0 := by
   rcases Nat.eq_zero_or_pos m with h | h
   ·exact h
   ·obtain ⟨b, off, e, _⟩ := hcells h
    cases e
  subst hm
  have hn : news = [] := List.eq_nil_of_length_eq_zero (by simpa using hl)
  subst hn
  refine ⟨v, w, ?_, by simpa using hown, ⟨rfl, rfl, rfl, Nat.le_refl _, fun _ _ _ => rfl⟩, .inl rfl⟩
  rcases hown.2 with ⟨rfl, rfl⟩ | ⟨g, cap, cur, rfl, hbg, hg, hnc, hcm, hcs, htake⟩
  ·simp [Builtin.append_, run_underlying ht, sizeOf, typeInfo, hi, hsize, Builtin.lenOf, Builtin.firstCells, loadCells, loadCellsFrom]
  ·have h := run_append_room_src (P := Try.prog) w t t ty e i ht hi g 0 n cap (.slice none 0 c) 0 [] (by rw [hsize]; exact Src.ofNil w ht c) (by omega) (by simp) (by simp)
   rw [setCells_nil] at h
   simpa using h
 ·rcases Nat.eq_zero_or_pos m with h0 | hpos
  ·subst h0
   have hn : news = [] := List.eq_nil_of_length_eq_zero (by simpa using hl)
   subst hn
   obtain ⟨v', w', h1, h2, h3, h4, h5⟩ := run_append_own_at (P := Try.prog) w base t ty e i z 1 bytes ht hi hz hsize hby hzs (by decide) v n xs hown a 0 c [] (by simp) (by simp) (by simp) h63 hbytes hbase
   exact ⟨v', w', h1, h2, h3, h5⟩
  ·obtain ⟨b, off, he, _, hc'⟩ := hcells hpos
   injection he with he
   subst he
   obtain ⟨v', w', h1, h2, h3, h4, h5⟩ := run_append_own_at (P := Try.prog) w base t ty e i z 1 bytes ht hi hz hsize hby hzs (by decide) v n xs hown ⟨b, off, none⟩ m c news (by simpa using hl) (fun j u hj => by rw [Addr.add_lit]; exact hc' j u hj) h1 h63 hbytes hbase
   exact ⟨v', w', h1, h2, h3, h5⟩

theorem wp_append_ints {ok : Nat → Prop} {o : Oper} {a : Act} {K : Act → World → Prop} {Q : Exit → Act → World → Prop} (W : World) (s x : Operand)
  (ho : o.op = .call { callee := .builtin .append, args := #[s, x], argTypes := #[24, 24] }) (base : Nat) (l l2 : List Int) (v u : Value) (hs : a.eval s = v) (hx : a.eval x = u)
  (hown : OwnI W base v l) (hu : Ints W ok u l2) (hbase : base ≤ W.heap.size) (hl : l.length + l2.length ≤ 1000000000000)
  (h : ∀ v' w', OwnI w' base v' (l ++ l2) → Hid (W.grownBy w' v.ownBlock) → Hid (v'.ownBlock = v.ownBlock ∨ v'.ownBlock = some W.heap.size) → K (a.put o.dst v') w') : Oper.wp Try.prog o a W K Q := by
 obtain ⟨i0, hi, hz0, hz1, hz2⟩ := info_parts Try.infoInt
 obtain ⟨v', w', hr, h2, h3, h5⟩ := run_append_row (ok := ok) W base 24 o.type 3 i0 (.int .i64 0) 8 Try.underlying24 hi hz0 hz1 hz2 rfl v _ _ hown u _ _ hu (by
  intro u hu
  obtain ⟨_, _, rfl⟩ := List.mem_map.1 hu
  rfl) (by unfold maxLen; omega) (by omega) hbase
 unfold Oper.wp execOp
 simp only [ho, resolve, invoke, builtin, Sem.run_bind, Sem.run_pure, Result.andThen_ok, List.map_toArray, List.map_cons, List.map_nil, hs, hx, hr]
 refine h v' w' ?_ h3 h5
 unfold OwnI
 rw [List.map_append, List.length_append]
 exact h2
theorem step_append_ints {ok : Nat → Prop} {ops : Array Oper} {o : Oper} {a : Act} {K : Act → World → Prop} {Q : Exit → Act → World → Prop} {E : Prop} (hgd : o.guard = none) (W : World) (s x : Operand)
  (ho : o.op = .call { callee := .builtin .append, args := #[s, x], argTypes := #[24, 24] }) (base : Nat) (l l2 : List Int) (v u : Value) (hs : a.eval s = v) (hx : a.eval x = u)
  (hown : OwnI W base v l) (hu : Ints W ok u l2) (hbase : base ≤ W.heap.size) (hl : l.length + l2.length ≤ 1000000000000)
  (h : ∀ v' w', OwnI w' base v' (l ++ l2) → Hid (W.grownBy w' v.ownBlock) → Hid (v'.ownBlock = v.ownBlock ∨ v'.ownBlock = some W.heap.size) → K (a.put o.dst v') w') :
  if Region.wanted o (yielded ops a.tmps) = true then Oper.wp Try.prog o a W K Q else E := by
 have hw : Region.wanted o (yielded ops a.tmps) = true := by simp [Region.wanted, hgd]
 rw [if_pos hw]
 exact wp_append_ints W s x ho base l l2 v u hs hx hown hu hbase hl h
theorem wpList_append_ints {ok : Nat → Prop} {ops : Array Oper} {rest : List Oper} {o : Oper} {a : Act} {Q : Exit → Act → World → Prop} (hgd : o.guard = none) (W : World) (s x : Operand)
  (ho : o.op = .call { callee := .builtin .append, args := #[s, x], argTypes := #[24, 24] }) (base : Nat) (l l2 : List Int) (v u : Value) (hs : a.eval s = v) (hx : a.eval x = u)
  (hown : OwnI W base v l) (hu : Ints W ok u l2) (hbase : base ≤ W.heap.size) (hl : l.length + l2.length ≤ 1000000000000)
  (h : ∀ v' w', OwnI w' base v' (l ++ l2) → Hid (W.grownBy w' v.ownBlock) → Hid (v'.ownBlock = v.ownBlock ∨ v'.ownBlock = some W.heap.size) → wpList Try.prog ops Q rest (a.put o.dst v') w') : wpList Try.prog ops Q (o :: rest) a W := by
 refine wpList_plain hgd fun K hK => ?_
 exact wp_append_ints W s x ho base l l2 v u hs hx hown hu hbase hl fun v' w' h1 h2 h3 => hK _ _ (h v' w' h1 h2 h3)

theorem own_base {W : World} {B k : Nat} {v : Value} {l : List Int} (h : OwnI W B v l) (hk : v.ownBlock = some k) : B ≤ k := by
 rcases h.2 with ⟨rfl, _⟩ | ⟨g, cap, cur, rfl, hg, _⟩
 ·cases hk
 ·have hk : some g = some k := hk
  injection hk with hk
  omega
theorem own_empty (W : World) (B : Nat) (hB : B ≤ W.heap.size) : OwnI (W.alloc (.cells #[] 3)) B (.slice (some ⟨W.heap.size, 0, none⟩) 0 0) [] :=
 ⟨rfl, .inr ⟨W.heap.size, 0, #[], rfl, hB, heap_alloc_new W _, Nat.le_refl _, by decide, rfl, rfl⟩⟩
theorem below_app {B : Nat} {a W w' : World} {v : Value} (h : Below B a W) (hg : Hid (W.grownBy w' v.ownBlock)) (hB : B ≤ W.heap.size) (hv : ∀ k, v.ownBlock = some k → B ≤ k) : Below B a w' := h.grown hg.out hB hv
end Go.Proofs.Ytgpjfpcjiebjiaa

namespace Go.Proofs.Ytgpjfpcjiebjiaa
open Go.RowKit
set_option linter.unusedVariables false
set_option linter.unusedSimpArgs false

/-- w' has all that w has, as it was. -/
def Ext (w w' : World) : Prop := Below w.heap.size w w'
theorem Ext.refl (w : World) : Ext w w := Below.refl _ _
theorem Ext.trans {a b c : World} (h : Ext a b) (h' : Ext b c) : Ext a c := below_tr h h' (Nat.le_refl _)
theorem Ext.alloc {a b : World} (h : Ext a b) (o : Obj) : Ext a (b.alloc o) := Below.alloc h h.size o
theorem Ext.drew {a b : World} (h : Ext a b) : Ext a b.drew := Below.drew h
theorem Ext.drewN {a b : World} (h : Ext a b) (n : Nat) : Ext a (b.drewN n) := below_drewN h n
theorem Ext.cell {w W : World} {p : Addr} {v : Value} (h : w.cell? p = some v) (hW : Ext w W) : W.cell? p = some v := (Below.cell hW (lt_of_cell h)).trans h
theorem Ext.rule {w : World} {p : Addr} {v : Value} (h : w.cell? p = some v) : ∀ W, Ext w W → W.cell? p = some v := fun _ hW => hW.cell h
theorem Ext.lt {w W : World} (h : Ext w W) {g : Nat} (hg : g < w.heap.size) : g < W.heap.size := Nat.lt_of_lt_of_le hg h.size
theorem ext_allocs (w : World) : ∀ W o, Ext w W → Ext w (W.alloc o) := fun _ o h => h.alloc o
theorem ext_drews (w : World) : ∀ W, Ext w W → Ext w W.drew := fun _ h => h.drew

/-- The list under construction: v holds l, in a block that came behind w1. -/
structure Mk (w1 w : World) (v : Value) (l : List Int) : Prop where
 own : OwnI w w1.heap.size v l
 ext : Ext w1 w
theorem Mk.nil (w1 : World) : Mk w1 w1 (.slice none 0 0) [] := ⟨World.ownsRow_nil _ _ _ _, Ext.refl _⟩
theorem Mk.nil' {w1 w : World} (h : Ext w1 w) : Mk w1 w (.slice none 0 0) [] := ⟨World.ownsRow_nil _ _ _ _, h⟩
theorem Mk.app {w1 w w' : World} {v v' : Value} {l l' : List Int} (h : Mk w1 w v l) (ho : OwnI w' w1.heap.size v' l') (hg : Hid (w.grownBy w' v.ownBlock)) : Mk w1 w' v' l' :=
 ⟨ho, below_app h.ext hg h.ext.size (fun k hk => own_base h.own hk)⟩
theorem Mk.more {w1 w w' : World} {v : Value} {l : List Int} (h : Mk w1 w v l) (hb : Ext w w') : Mk w1 w' v l :=
 ⟨h.own.kept (row := none) ⟨hb.os, hb.tape, hb.output, hb.size, fun i hi _ => hb.block i hi⟩ (by cases h : v.ownBlock <;> simp), h.ext.trans hb⟩
theorem Mk.alloc {w1 w : World} {v : Value} {l : List Int} (h : Mk w1 w v l) (o : Obj) : Mk w1 (w.alloc o) v l := h.more ((Ext.refl _).alloc o)
theorem Mk.drew {w1 w : World} {v : Value} {l : List Int} (h : Mk w1 w v l) : Mk w1 w.drew v l := ⟨h.own, h.ext.drew⟩
theorem Mk.drewN {w1 w : World} {v : Value} {l : List Int} (h : Mk w1 w v l) (n : Nat) : Mk w1 (w.drewN n) v l := ⟨h.own, h.ext.drewN n⟩
theorem Mk.cast {w1 w : World} {v : Value} {l l' : List Int} (h : Mk w1 w v l) (e : l' = l) : Mk w1 w v l' := e ▸ h
theorem Mk.ints {w1 w : World} {v : Value} {l : List Int} (h : Mk w1 w v l) : Ints w (fun b => w1.heap.size ≤ b) v l := Row.of_own h.own
theorem Mk.slice {w1 w : World} {v : Value} {l : List Int} (h : Mk w1 w v l) : ∃ A c, v = .slice A l.length c ∧ l.length ≤ c := by
 obtain ⟨A, c, e, hc, _⟩ := h.ints
 exact ⟨A, c, e, hc⟩
theorem Ext.mono_mk {w w1 w' : World} {v : Value} {l : List Int} (h : Ext w w1) (hm : Mk w1 w' v l) : Mk w w' v l := ⟨hm.own.mono h.size, h.trans hm.ext⟩
theorem held_ext {w1 wk a b : World} (h : Ext w1 a ∧ Ext wk a) (hb : Below a.heap.size a b) : Ext w1 b ∧ Ext wk b := ⟨h.1.trans hb, h.2.trans hb⟩
theorem held_drew {w1 wk : World} (h : Ext w1 wk) : Ext w1 wk.drew ∧ Ext wk wk.drew := ⟨h.drew, (Ext.refl wk).drew⟩
theorem own_slice {w : World} {B : Nat} {v : Value} {l : List Int} (h : OwnI w B v l) : ∃ A c, v = .slice A l.length c ∧ l.length ≤ c := by
 obtain ⟨A, c, e, hc, _⟩ := Row.of_own h
 exact ⟨A, c, e, hc⟩
theorem own_at {w : World} {B n c : Nat} {A : Option Addr} {l : List Int} (h : OwnI w B (.slice A n c) l) {k : Nat} (hk : k < l.length) : ∃ b, A = some ⟨b, 0, none⟩ ∧ B ≤ b ∧ w.cell? ⟨b, k, none⟩ = some (.int .i64 l[k]) := by
 obtain ⟨g, cap, hv, hg, hlt⟩ := World.ownsRow.form h (by omega)
 injection hv with h1 h2 h3
 subst h1 h2 h3
 refine ⟨g, rfl, hg, ?_⟩
 rw [World.ownsRow.cellAt h k (by omega)]
 simp [hk]
theorem cell_new (W : World) (v : Value) (t : TypeId) {g : Nat} (h : g = W.heap.size) : (W.alloc (.cells #[v] t)).cell? ⟨g, 0, none⟩ = some v := by
 subst h
 unfold World.cell?
 simp only [heap_alloc_new]
 rfl
end Go.Proofs.Ytgpjfpcjiebjiaa

namespace Go.Proofs.Ytgpjfpcjiebjiaa
open Go.RowKit
set_option linter.unusedVariables false
set_option linter.unusedSimpArgs false

theorem ap_t {c : Bool} (h : c = true) (x : Int) (l : List Int) : ap c x l = l ++ [x] := by rw [h]; rfl
theorem ap_f {c : Bool} (h : c = false) (x : Int) (l : List Int) : ap c x l = l := by rw [h]; rfl

set_option maxHeartbeats 4000000 in
set_option maxRecDepth 100000 in
theorem qnext_calls {ok : Nat → Prop} {v : Value} (m : MZ) (node : Int) (w : World) (hm : MazeV w ok v m) (d : Dim m) (h0 : 0 ≤ node) (h1 : node < m.w * m.h * m.l) :
  Calls Try.prog 56 #[v, .int .i64 node] w fun e w' => ∃ v', e = .returned v' ∧ Below w.heap.size w w' ∧ w'.ownsRow w.heap.size 3 1 v' (nextL m node).length ((nextL m node).map (Value.int .i64)) := by
 obtain ⟨f, u, t, rfl, _, hu, _⟩ := hm
 obtain ⟨A, c, rfl, hcc, hur⟩ := hu
 have hl := d.layer
 obtain ⟨hl1, hl2⟩ := hl
 obtain ⟨dw1, dw2, hh1, hh2, ll1, ll2, n1, hup⟩ := d
 obtain ⟨W, H, L, fr, up, ts⟩ := m
 simp only at *
 have HU := Lib.hid hur; clear hur
 have HUP := Lib.hid hup; clear hup
 go_enter Try.func56, Try.ntmps56
 have hq0 : 0 ≤ node / W := Int.ediv_nonneg h0 (by omega)
 have hq1 : node / W ≤ node := Int.ediv_le_self _ h0
 go_wp2_with fail
 go_quiet (fail)
 have hr0 : 0 ≤ node / W % H := Int.emod_nonneg _ (by omega)
 have hr1 : node / W % H < H := Int.emod_lt_of_pos _ (by omega)
 have hr2 : 0 ≤ node % W := Int.emod_nonneg _ (by omega)
 have hr3 : node % W < W := Int.emod_lt_of_pos _ (by omega)
 generalize hw1 : ((w.alloc (.cells #[.int .i64 W, .int .i64 H, .int .i64 L, f, .slice A up.length c, t] 31)).drewN nq) = w1
 have hb1 : Ext w w1 := by rw [← hw1]; exact ((Ext.refl w).alloc _).drewN _
 have hgm : Blk w1 w.heap.size 31 #[.int .i64 W, .int .i64 H, .int .i64 L, f, .slice A up.length c, t] := by rw [← hw1]; exact heap_alloc_new _ _
 have HU1 := Lib.hid (HU.out.keep (Same.of_below hb1) : RowA w1 ok 1 A up.length (up.map Value.bool))
 clear hw1 HU
 have HB1 := Lib.hid hb1; clear hb1
 obtain ⟨m0, m1, m2, m3, m4, m5⟩ := cells6 hgm
 have r0 := Ext.rule m0
 have r1 := Ext.rule m1
 have r2 := Ext.rule m2
 have r3 := Ext.rule m3
 have r4 := Ext.rule m4
 have r5 := Ext.rule m5
 clear m0 m1 m2 m3 m4 m5 hgm
 have ra := ext_allocs w1
 have hx : Ext w1 w1 := Ext.refl w1
 have HM := Lib.hid (Mk.nil w1)
 obtain ⟨c1, hc1⟩ : ∃ b, b = (decide (W * H ≤ node) && up.getD (node - W * H).toNat false) := ⟨_, rfl⟩
 obtain ⟨c2, hc2⟩ : ∃ b, b = (decide (node + W * H < W * H * L) && up.getD node.toNat false) := ⟨_, rfl⟩
 have HC1 := Lib.hid hc1; clear hc1
 have HC2 := Lib.hid hc2; clear hc2
 go_upto_region 5 with fail
 go_cut [36] (fun s wx => s = .bool c1 ∧ w1 = wx)
 case first =>
  by_cases hp : W * H ≤ node
  ·have hi1 : (node - W * H).toNat < up.length := by have := HUP.out; omega
   obtain ⟨b, off, rfl, _, hc1⟩ := boolsAt HU1.out hi1 hi1
   have hcv : up[(node - W * H).toNat] = c1 := (HC1.out.trans (by simp [hp, hi1])).symm
   rw [hcv] at hc1
   have rc := Ext.rule hc1
   clear hc1 hcv
   go_wp2_with fail
   go_meet
   case rel => exact ⟨rfl, rfl⟩
  ·have hcv : c1 = false := HC1.out.trans (by simp [hp])
   have HCV := Lib.hid hcv; clear hcv
   go_wp2_with fail
   go_meet
   case rel => exact ⟨by rw [HCV.out], rfl⟩
 case rest =>
 obtain ⟨rfl, rfl⟩ := hcut
 go_upto_if 36 with fail
 go_cut [5] (fun s wx => Hid (Mk w1 wx s (ap c1 (node - W * H) [])))
 case first =>
  obtain rfl | rfl : c1 = true ∨ c1 = false := by cases c1 <;> simp
  ·skip
   have hz : w1.heap.size ≤ w1.heap.size := hx.size
   go_wp2_with (at_builtin; refine wpAppAt rfl _ _ rfl _ [] (node - W * H) w1.heap.size w1.heap.size 1 _ rfl rfl (HM.out.own.alloc _) ?d1 ?d2 ?d3 ?_)
   (try case d1 => simp)
   case d2 => (first | (simp; done) | (simp; omega) | omega)
   case d3 => exact Nat.le_trans (show [].length ≤ 0 from Nat.le_refl _) (by omega)
   intro v' wb hob hgb _
   have hM' := Lib.hid ((HM.out.alloc _).app hob hgb)
   clear hob hgb
   go_wp2_with fail
   go_meet
   case rel => exact hM'.out.cast (ap_t (by rfl) _ _)
  ·skip
   go_wp2_with fail
   go_meet
   case rel => exact HM.out.cast (ap_f (by rfl) _ _)
 case rest =>
 have HM := hcut
 clear hcut
 have hx : Ext w1 wc := HM.out.ext
 have hl1 : (ap c1 (node - W * H) []).length ≤ 1 := Nat.le_trans (ap_len _ _ _) (Nat.succ_le_succ (Nat.zero_le _))
 obtain ⟨wp, rfl⟩ : ∃ wp : World, wp = wc := ⟨_, rfl⟩
 go_upto_if 44 with fail
 go_cut [5] (fun s wx => Hid (Mk w1 wx s (ap (decide (0 < node / W % H)) (node - W) (ap c1 (node - W * H) []))))
 case first =>
  by_cases hp : 0 < node / W % H
  ·have HP := Lib.hid hp
   have hz : w1.heap.size ≤ wp.heap.size := hx.size
   go_wp2_with (at_builtin; refine wpAppAt rfl _ _ rfl _ (ap c1 (node - W * H) []) (node - W) w1.heap.size wp.heap.size 1 _ rfl rfl (HM.out.own.alloc _) ?d1 ?d2 ?d3 ?_)
   (try case d1 => simp)
   case d2 => (first | (simp; done) | (simp; omega) | omega)
   case d3 => exact Nat.le_trans (show (ap c1 (node - W * H) []).length ≤ 1 from hl1) (by omega)
   intro v' wb hob hgb _
   have hM' := Lib.hid ((HM.out.alloc _).app hob hgb)
   clear hob hgb
   go_wp2_with fail
   go_meet
   case rel => exact hM'.out.cast (ap_t (by exact decide_eq_true HP.out) _ _)
  ·have HP := Lib.hid hp
   go_wp2_with fail
   go_meet
   case rel => exact HM.out.cast (ap_f (by exact decide_eq_false (by have := HP.out; omega)) _ _)
 case rest =>
 have HM := hcut
 clear hcut
 have hx : Ext w1 wc := HM.out.ext
 have hl2 : (ap (decide (0 < node / W % H)) (node - W) (ap c1 (node - W * H) [])).length ≤ 2 := Nat.le_trans (ap_len _ _ _) (Nat.succ_le_succ hl1)
 obtain ⟨wp, rfl⟩ : ∃ wp : World, wp = wc := ⟨_, rfl⟩
 go_upto_if 53 with fail
 go_cut [5] (fun s wx => Hid (Mk w1 wx s (ap (decide (0 < node % W)) (node - 1) (ap (decide (0 < node / W % H)) (node - W) (ap c1 (node - W * H) [])))))
 case first =>
  by_cases hp : 0 < node % W
  ·have HP := Lib.hid hp
   have hz : w1.heap.size ≤ wp.heap.size := hx.size
   go_wp2_with (at_builtin; refine wpAppAt rfl _ _ rfl _ (ap (decide (0 < node / W % H)) (node - W) (ap c1 (node - W * H) [])) (node - 1) w1.heap.size wp.heap.size 1 _ rfl rfl (HM.out.own.alloc _) ?d1 ?d2 ?d3 ?_)
   (try case d1 => simp)
   case d2 => (first | (simp; done) | (simp; omega) | omega)
   case d3 => exact Nat.le_trans (show (ap (decide (0 < node / W % H)) (node - W) (ap c1 (node - W * H) [])).length ≤ 2 from hl2) (by omega)
   intro v' wb hob hgb _
   have hM' := Lib.hid ((HM.out.alloc _).app hob hgb)
   clear hob hgb
   go_wp2_with fail
   go_meet
   case rel => exact hM'.out.cast (ap_t (by exact decide_eq_true HP.out) _ _)
  ·have HP := Lib.hid hp
   go_wp2_with fail
   go_meet
   case rel => exact HM.out.cast (ap_f (by exact decide_eq_false (by have := HP.out; omega)) _ _)
 case rest =>
 have HM := hcut
 clear hcut
 have hx : Ext w1 wc := HM.out.ext
 have hl3 : (ap (decide (0 < node % W)) (node - 1) (ap (decide (0 < node / W % H)) (node - W) (ap c1 (node - W * H) []))).length ≤ 3 := Nat.le_trans (ap_len _ _ _) (Nat.succ_le_succ hl2)
 obtain ⟨wp, rfl⟩ : ∃ wp : World, wp = wc := ⟨_, rfl⟩
 go_upto_if 63 with fail
 go_cut [5] (fun s wx => Hid (Mk w1 wx s (ap (decide (node % W + 1 < W)) (node + 1) (ap (decide (0 < node % W)) (node - 1) (ap (decide (0 < node / W % H)) (node - W) (ap c1 (node - W * H) []))))))
 case first =>
  by_cases hp : node % W + 1 < W
  ·have HP := Lib.hid hp
   have hz : w1.heap.size ≤ wp.heap.size := hx.size
   go_wp2_with (at_builtin; refine wpAppAt rfl _ _ rfl _ (ap (decide (0 < node % W)) (node - 1) (ap (decide (0 < node / W % H)) (node - W) (ap c1 (node - W * H) []))) (node + 1) w1.heap.size wp.heap.size 1 _ rfl rfl (HM.out.own.alloc _) ?d1 ?d2 ?d3 ?_)
   (try case d1 => simp)
   case d2 => (first | (simp; done) | (simp; omega) | omega)
   case d3 => exact Nat.le_trans (show (ap (decide (0 < node % W)) (node - 1) (ap (decide (0 < node / W % H)) (node - W) (ap c1 (node - W * H) []))).length ≤ 3 from hl3) (by omega)
   intro v' wb hob hgb _
   have hM' := Lib.hid ((HM.out.alloc _).app hob hgb)
   clear hob hgb
   go_wp2_with fail
   go_meet
   case rel => exact hM'.out.cast (ap_t (by exact decide_eq_true HP.out) _ _)
  ·have HP := Lib.hid hp
   go_wp2_with fail
   go_meet
   case rel => exact HM.out.cast (ap_f (by exact decide_eq_false (by have := HP.out; omega)) _ _)
 case rest =>
 have HM := hcut
 clear hcut
 have hx : Ext w1 wc := HM.out.ext
 have hl4 : (ap (decide (node % W + 1 < W)) (node + 1) (ap (decide (0 < node % W)) (node - 1) (ap (decide (0 < node / W % H)) (node - W) (ap c1 (node - W * H) [])))).length ≤ 4 := Nat.le_trans (ap_len _ _ _) (Nat.succ_le_succ hl3)
 obtain ⟨wp, rfl⟩ : ∃ wp : World, wp = wc := ⟨_, rfl⟩
 go_upto_if 73 with fail
 go_cut [5] (fun s wx => Hid (Mk w1 wx s (ap (decide (node / W % H + 1 < H)) (node + W) (ap (decide (node % W + 1 < W)) (node + 1) (ap (decide (0 < node % W)) (node - 1) (ap (decide (0 < node / W % H)) (node - W) (ap c1 (node - W * H) [])))))))
 case first =>
  by_cases hp : node / W % H + 1 < H
  ·have HP := Lib.hid hp
   have hz : w1.heap.size ≤ wp.heap.size := hx.size
   go_wp2_with (at_builtin; refine wpAppAt rfl _ _ rfl _ (ap (decide (node % W + 1 < W)) (node + 1) (ap (decide (0 < node % W)) (node - 1) (ap (decide (0 < node / W % H)) (node - W) (ap c1 (node - W * H) [])))) (node + W) w1.heap.size wp.heap.size 1 _ rfl rfl (HM.out.own.alloc _) ?d1 ?d2 ?d3 ?_)
   (try case d1 => simp)
   case d2 => (first | (simp; done) | (simp; omega) | omega)
   case d3 => exact Nat.le_trans (show (ap (decide (node % W + 1 < W)) (node + 1) (ap (decide (0 < node % W)) (node - 1) (ap (decide (0 < node / W % H)) (node - W) (ap c1 (node - W * H) [])))).length ≤ 4 from hl4) (by omega)
   intro v' wb hob hgb _
   have hM' := Lib.hid ((HM.out.alloc _).app hob hgb)
   clear hob hgb
   go_wp2_with fail
   go_meet
   case rel => exact hM'.out.cast (ap_t (by exact decide_eq_true HP.out) _ _)
  ·have HP := Lib.hid hp
   go_wp2_with fail
   go_meet
   case rel => exact HM.out.cast (ap_f (by exact decide_eq_false (by have := HP.out; omega)) _ _)
 case rest =>
 have HM := hcut
 clear hcut
 have hx : Ext w1 wc := HM.out.ext
 have hl5 : (ap (decide (node / W % H + 1 < H)) (node + W) (ap (decide (node % W + 1 < W)) (node + 1) (ap (decide (0 < node % W)) (node - 1) (ap (decide (0 < node / W % H)) (node - W) (ap c1 (node - W * H) []))))).length ≤ 5 := Nat.le_trans (ap_len _ _ _) (Nat.succ_le_succ hl4)
 obtain ⟨wp, rfl⟩ : ∃ wp : World, wp = wc := ⟨_, rfl⟩
 go_upto_region 15 with fail
 go_cut [93] (fun s wx => s = .bool c2 ∧ Hid (Ext wp wx))
 case first =>
  by_cases hp : node + W * H < W * H * L
  ·have hi1 : node.toNat < up.length := by have := HUP.out; omega
   obtain ⟨b, off, rfl, _, hc1⟩ := boolsAt HU1.out hi1 hi1
   have hcv : up[node.toNat] = c2 := (HC2.out.trans (by simp [hp, hi1])).symm
   rw [hcv] at hc1
   have rc := Ext.rule hc1
   clear hc1 hcv
   go_wp2_with fail
   refine (qnodes_calls W H L _ _ _ _ (by omega) (by omega)).mono ?_
   rintro e kn ⟨rfl, hbn⟩
   have hx9 : Ext w1 kn := hx.trans hbn
   go_wp2_with fail
   go_meet
   case rel => exact ⟨rfl, hbn⟩
  ·have hcv : c2 = false := HC2.out.trans (by simp [hp])
   have HCV := Lib.hid hcv; clear hcv
   go_wp2_with fail
   refine (qnodes_calls W H L _ _ _ _ (by omega) (by omega)).mono ?_
   rintro e kn ⟨rfl, hbn⟩
   have hx9 : Ext w1 kn := hx.trans hbn
   go_wp2_with fail
   go_meet
   case rel => exact ⟨by rw [HCV.out], hbn⟩
 case rest =>
 obtain ⟨rfl, hbn⟩ := hcut
 have HM := Lib.hid (HM.out.more hbn.out)
 have hx : Ext w1 wc := HM.out.ext
 obtain ⟨wp, rfl⟩ : ∃ wp : World, wp = wc := ⟨_, rfl⟩
 go_upto_if 93 with fail
 go_cut [5] (fun s wx => Hid (Mk w1 wx s (ap c2 (node + W * H) (ap (decide (node / W % H + 1 < H)) (node + W) (ap (decide (node % W + 1 < W)) (node + 1) (ap (decide (0 < node % W)) (node - 1) (ap (decide (0 < node / W % H)) (node - W) (ap c1 (node - W * H) []))))))))
 case first =>
  obtain rfl | rfl : c2 = true ∨ c2 = false := by cases c2 <;> simp
  ·skip
   have hz : w1.heap.size ≤ wp.heap.size := hx.size
   go_wp2_with (at_builtin; refine wpAppAt rfl _ _ rfl _ (ap (decide (node / W % H + 1 < H)) (node + W) (ap (decide (node % W + 1 < W)) (node + 1) (ap (decide (0 < node % W)) (node - 1) (ap (decide (0 < node / W % H)) (node - W) (ap c1 (node - W * H) []))))) (node + W * H) w1.heap.size wp.heap.size 1 _ rfl rfl (HM.out.own.alloc _) ?d1 ?d2 ?d3 ?_)
   (try case d1 => simp)
   case d2 => (first | (simp; done) | (simp; omega) | omega)
   case d3 => exact Nat.le_trans (show (ap (decide (node / W % H + 1 < H)) (node + W) (ap (decide (node % W + 1 < W)) (node + 1) (ap (decide (0 < node % W)) (node - 1) (ap (decide (0 < node / W % H)) (node - W) (ap c1 (node - W * H) []))))).length ≤ 5 from hl5) (by omega)
   intro v' wb hob hgb _
   have hM' := Lib.hid ((HM.out.alloc _).app hob hgb)
   clear hob hgb
   go_wp2_with fail
   go_meet
   case rel => exact hM'.out.cast (ap_t (by rfl) _ _)
  ·skip
   go_wp2_with fail
   go_meet
   case rel => exact HM.out.cast (ap_f (by rfl) _ _)
 case rest =>
 have HM := hcut
 clear hcut
 have hx : Ext w1 wc := HM.out.ext
 have hl6 : (ap c2 (node + W * H) (ap (decide (node / W % H + 1 < H)) (node + W) (ap (decide (node % W + 1 < W)) (node + 1) (ap (decide (0 < node % W)) (node - 1) (ap (decide (0 < node / W % H)) (node - W) (ap c1 (node - W * H) [])))))).length ≤ 6 := Nat.le_trans (ap_len _ _ _) (Nat.succ_le_succ hl5)
 obtain ⟨wp, rfl⟩ : ∃ wp : World, wp = wc := ⟨_, rfl⟩
 go_wp2_with fail
 go_ret
 refine ⟨_, rfl, below_tr HB1.out HM.out.ext (Nat.le_refl _), ?_⟩
 exact next_fin (HM.out.own.mono HB1.out.size) (next_eq ⟨W, H, L, fr, up, ts⟩ node c1 c2 HC1.out HC2.out)
end Go.Proofs.Ytgpjfpcjiebjiaa
