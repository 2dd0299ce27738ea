/- Walks: the check of a maze. -/
import Derived.Test.YtgpjfpcjiebjiaaRtE
namespace Go.Proofs.Ytgpjfpcjiebjiaa
open Go.RowKit
set_option linter.unusedVariables false
set_option linter.unusedSimpArgs false

/-- Beyond the nodes. -/
def beyond (n x : Int) : Bool := decide (x < 0) || decide (n ≤ x)
/-- A side out of 1..300. -/
def side (x : Int) : Bool := decide (x < 1) || decide (300 < x)
/-- The error of a maze. -/
def chk (m : MZ) : Int :=
  if [m.w, m.h, m.l].any side then 2
  else if 300 < m.n ∨ 6 < m.tasks.length then 2
  else if m.free.length ≠ m.tasks.length ∨ (m.up.length : Int) ≠ m.n ∨ m.free.any (fun f => (f.length : Int) != m.n) = true then 1
  else if m.tasks.any (fun t => t.1.any (beyond m.n) || t.2.any (beyond m.n)) then 50
  else 0

theorem cf51 (a : Array Value) (w : World) : (callFunc 51 a).run Try.prog w = .ok (.enter 51 a) w := callFunc_run Try.func51 (by kernel_rfl) (by kernel_rfl) a w
theorem cf52 (a : Array Value) (w : World) : (callFunc 52 a).run Try.prog w = .ok (.enter 52 a) w := callFunc_run Try.func52 (by kernel_rfl) (by kernel_rfl) a w

set_option maxRecDepth 100000 in
theorem check1_calls {ok : Nat → Prop} {u : Value} {f : List Bool} (g : Nat) (n : Int) (w : World) (hu : Bools w ok u f) (hc : w.cell? ⟨g, 0, none⟩ = some (.int .i64 n)) :
    Calls Try.prog 51 #[u, .pointer (some ⟨g, 0, none⟩)] w fun e w' => e = .returned (.bool ((f.length : Int) != n)) ∧ Drew w w' := by
  obtain ⟨A, c, rfl, hcc, hr⟩ := hu
  clear hr
  go_enter Try.func51, Try.ntmps51
  go_wp2
  go_ret
  exact ⟨rfl, Drew.refl _⟩

set_option maxRecDepth 100000 in
theorem check2_calls (g : Nat) (n x : Int) (w : World) (hc : w.cell? ⟨g, 0, none⟩ = some (.int .i64 n)) :
    Calls Try.prog 52 #[.int .i64 x, .pointer (some ⟨g, 0, none⟩)] w fun e w' => e = .returned (.bool (beyond n x)) ∧ Drew w w' := by
  by_cases hx : x < 0
  · go_enter Try.func52, Try.ntmps52
    go_wp2
    go_ret
    exact ⟨ret_bool (by simp [beyond, hx]), Drew.refl _⟩
  · go_enter Try.func52, Try.ntmps52
    go_wp2
    go_ret
    refine ⟨ret_bool ?_, Drew.refl _⟩
    simp [beyond]
    omega

/-- The lengths of a maze's lists. -/
structure Lens (m : MZ) : Prop where
  fr : m.free.length ≤ 20000000000000
  up : m.up.length ≤ 20000000000000
  ts : m.tasks.length ≤ 20000000000000
  tl : ∀ t ∈ m.tasks, t.1.length ≤ 400000000000 ∧ t.2.length ≤ 400000000000

theorem three_cells {w : World} {g : Nat} {t : TypeId} {a b c : Int} (h : Blk w g t #[.int .i64 a, .int .i64 b, .int .i64 c]) (k : Nat) (hk : k < 3) : w.cell? ⟨g, k, none⟩ = some (.int .i64 ([a, b, c][k])) := by
  unfold Blk at h
  unfold World.cell?
  simp only [h]
  match k, hk with
  | 0, _ => rfl
  | 1, _ => rfl
  | 2, _ => rfl

/-- A task of a slice of tasks. -/
theorem tasksAt {w : World} {ok : Nat → Prop} {A : Option Addr} {n c : Nat} {l : List (List Int × List Int)} (h : Tasks w ok (.slice A n c) l) {k : Nat} (hk : k < l.length) :
    ∃ b off s u1 u2, A = some ⟨b, off, none⟩ ∧ ok b ∧ w.cell? ⟨b, off + k * 3, none⟩ = some (.string s) ∧ w.cell? ⟨b, off + k * 3 + 1, none⟩ = some u1 ∧ w.cell? ⟨b, off + k * 3 + 2, none⟩ = some u2 ∧ Ints w ok u1 l[k].1 ∧ Ints w ok u2 l[k].2 := by
  obtain ⟨vs, ⟨A', c', hv, _, hl, hc⟩, he⟩ := h
  injection hv with e1 e2 e3
  subst e1
  obtain ⟨b, off, rfl, hb, hc⟩ := hc (by omega)
  obtain ⟨s, u1, u2, h0, h1, h2, i1, i2⟩ := he k _ (List.getElem?_eq_getElem hk)
  exact ⟨b, off, s, u1, u2, rfl, hb, hc _ _ h0, by rw [Nat.add_assoc]; exact hc _ _ h1, by rw [Nat.add_assoc]; exact hc _ _ h2, i1, i2⟩
/-- The memory while a maze is checked. -/
structure CI (w wr : World) (cells : Array Value) (ints : Array Value) : Prop where
  below : Below w.heap.size w wr
  box : Blk wr w.heap.size 31 cells
  ints : Blk wr (w.heap.size + 1) 3 ints
theorem CI.call {w wr w' : World} {c i : Array Value} (h : CI w wr c i) (hb : Below wr.heap.size wr w') : CI w w' c i :=
  ⟨below_tr h.below hb (Nat.le_refl _), h.box.below hb (lt_of_some h.box), h.ints.below hb (lt_of_some h.ints)⟩
theorem CI.new (w : World) (c i : Array Value) : CI w ((w.alloc (.cells c 31)).alloc (.cells i 3)) c i :=
  ⟨((Below.refl _ _).alloc (Nat.le_refl _) _).alloc (by simp) _, Blk.alloc (heap_alloc_new w _) _, by
    have := heap_alloc_new (w.alloc (.cells c 31)) (.cells i 3)
    simpa [Blk] using this⟩
theorem chk_side {m : MZ} (h : [m.w, m.h, m.l].any side = true) : chk m = 2 := by
  unfold chk
  rw [if_pos h]
/-- The same behind its own cell. -/
structure CJ (w wr : World) (cells : Array Value) (g : Nat) (n : Int) : Prop where
  below : Below w.heap.size w wr
  box : Blk wr w.heap.size 31 cells
  all : wr.cell? ⟨g, 0, none⟩ = some (.int .i64 n)
theorem CJ.call {w wr w' : World} {c : Array Value} {g : Nat} {n : Int} (h : CJ w wr c g n) (hb : Below wr.heap.size wr w') : CJ w w' c g n :=
  ⟨below_tr h.below hb (Nat.le_refl _), h.box.below hb (lt_of_some h.box), (cell_same (hb.block g (lt_of_cell h.all))).trans h.all⟩
theorem CJ.new {w w' : World} {c i : Array Value} (h : CI w w' c i) (n : Int) : CJ w (w'.alloc (.cells #[.int .i64 n] 3)) c w'.heap.size n :=
  ⟨h.below.alloc (Nat.le_of_lt (lt_of_some h.box)) _, h.box.alloc _, by
    have := heap_alloc_new w' (.cells #[.int .i64 n] 3)
    unfold World.cell?
    simp only [this]
    rfl⟩
theorem CJ.alloc {w wr : World} {c : Array Value} {g : Nat} {n : Int} (h : CJ w wr c g n) (o : Obj) : CJ w (wr.alloc o) c g n :=
  ⟨h.below.alloc (Nat.le_of_lt (lt_of_some h.box)) _, h.box.alloc _, (cell_same (Below.heap_alloc wr o g (lt_of_cell h.all))).trans h.all⟩
theorem cells3 {w : World} {g : Nat} {t : TypeId} {a0 a1 a2 : Value} (h : Blk w g t #[a0, a1, a2]) :
    w.cell? ⟨g, 0, none⟩ = some a0 ∧ w.cell? ⟨g, 1, none⟩ = some a1 ∧ w.cell? ⟨g, 2, none⟩ = some a2 := by
  unfold Blk at h
  unfold World.cell?
  simp only [h]
  exact ⟨rfl, rfl, rfl⟩
theorem sides {m : MZ} (h : [m.w, m.h, m.l].any side = false) : (1 ≤ m.w ∧ m.w ≤ 300) ∧ (1 ≤ m.h ∧ m.h ≤ 300) ∧ (1 ≤ m.l ∧ m.l ≤ 300) := by
  simp [side] at h
  omega
theorem sides_mul {m : MZ} (h : [m.w, m.h, m.l].any side = false) : (1 ≤ m.w * m.h ∧ m.w * m.h ≤ 90000) ∧ (1 ≤ m.w * m.h * m.l ∧ m.w * m.h * m.l ≤ 27000000) := by
  obtain ⟨⟨a1, a2⟩, ⟨b1, b2⟩, c1, c2⟩ := sides h
  have h1 : 1 ≤ m.w * m.h := by have := Int.mul_pos (a := m.w) (b := m.h) (by omega) (by omega); omega
  have h2 : m.w * m.h ≤ 300 * 300 := Int.mul_le_mul a2 b2 (by omega) (by omega)
  have h3 : 1 ≤ m.w * m.h * m.l := by have := Int.mul_pos (a := m.w * m.h) (b := m.l) (by omega) (by omega); omega
  have h4 : m.w * m.h * m.l ≤ 300 * 300 * 300 := Int.mul_le_mul h2 c2 (by omega) (by omega)
  omega

set_option maxHeartbeats 2000000 in
set_option maxRecDepth 100000 in
theorem check_calls {ok : Nat → Prop} {v : Value} {m : MZ} (w : World) (hm : MazeV w ok v m) (hl : Lens m) :
    Calls Try.prog 15 #[v] w fun e w' => e = .returned (.int .i64 (chk m)) ∧ Below w.heap.size w w' := by
  have hmz := hm
  obtain ⟨vfr, vup, vts, rfl, hfr, hup, hts⟩ := hm
  obtain ⟨vsf, ⟨Af, cf, rfl, hcf, hrf⟩, hef⟩ := hfr
  obtain ⟨Au, cu, rfl, hcu, hru⟩ := hup
  obtain ⟨vst, ⟨At, ct, rfl, hct, hrt⟩, het⟩ := hts
  obtain ⟨l1, l2, l3, l4⟩ := hl
  have HRF := Lib.hid hrf; clear hrf
  have HEF := Lib.hid hef; clear hef
  have HRT := Lib.hid hrt; clear hrt
  have HET := Lib.hid het; clear het
  have HL4 := Lib.hid l4; clear l4
  clear hru hmz
  go_enter Try.func15, Try.ntmps15
  go_wp2
  have hCI := CI.new w #[.int .i64 m.w, .int .i64 m.h, .int .i64 m.l, .slice Af m.free.length cf, .slice Au m.up.length cu, .slice At m.tasks.length ct] #[.int .i64 m.w, .int .i64 m.h, .int .i64 m.l]
  go_loopw [17] (fun i wr => ∃ k : Nat, k ≤ 3 ∧ i = .int .i64 k ∧ Hid (([m.w, m.h, m.l].take k).any side = false) ∧ Hid (CI w wr #[.int .i64 m.w, .int .i64 m.h, .int .i64 m.l, .slice Af m.free.length cf, .slice Au m.up.length cu, .slice At m.tasks.length ct] #[.int .i64 m.w, .int .i64 m.h, .int .i64 m.l])) (fun i _ => 3 - (intOf i).toNat)
  case atStart => exact ⟨0, by omega, rfl, by simp [Hid], hCI⟩
  clear hCI
  case round =>
    obtain ⟨k, hk, rfl, hn, hI⟩ := hrel
    by_cases hlt : k < 3
    · obtain ⟨x, hx⟩ : ∃ x, x = [m.w, m.h, m.l][k]'hlt := ⟨_, rfl⟩
      have hcell := three_cells hI.out.ints k hlt
      rw [← hx] at hcell
      have hsucc := Lib.hid (any_take_succ (l := [m.w, m.h, m.l]) side hlt)
      rw [← hx] at hsucc
      have HX := Lib.hid (show x ∈ [m.w, m.h, m.l] by rw [hx]; exact List.getElem_mem _)
      clear hx
      by_cases h1 : x < 1
      · go_wp2
        go_ret
        refine ⟨ret_int ?_, hI.out.below⟩
        rw [chk_side]
        exact List.any_eq_true.2 ⟨x, HX.out, by simp [side, h1]⟩
      · by_cases h2 : 300 < x
        · go_wp2
          go_ret
          refine ⟨ret_int ?_, hI.out.below⟩
          rw [chk_side]
          exact List.any_eq_true.2 ⟨x, HX.out, by simp [side, h2]⟩
        · have HS := Lib.hid (show side x = false by simp [side, h1, h2])
          go_wp2
          go_roundw
          case rel => exact ⟨k + 1, by omega, by go_num, by
            show _ = false
            rw [hsucc.out, hn.out, HS.out]; rfl, hI⟩
          case measure => simp [intOf]; omega
    · obtain rfl : k = 3 := by omega
      have HN : Hid ([m.w, m.h, m.l].any side = false) := hn.out
      clear hn
      obtain ⟨m0, m1, m2, m3, m4, m5⟩ := cells6 hI.out.box
      obtain ⟨⟨p1, p2⟩, p3, p4⟩ := sides_mul HN.out
      have hret2 : 300 < m.n ∨ 6 < m.tasks.length → chk m = 2 := by
        intro h
        unfold chk
        rw [if_neg (by rw [HN.out]; simp), if_pos h]
      have HR2 := Lib.hid hret2; clear hret2
      go_wp2_with fail
      refine (rnodes_calls _ _ _ _ _ _ _ (by omega) (by omega)).mono ?_
      rintro e w' ⟨rfl, hb⟩
      have hI1 := Lib.hid (hI.out.call hb)
      clear hI m0 m1 m2 m3 m4 m5 hb
      have hal : ∀ o, _ := fun o => cells6 (hI1.out.box.alloc o)
      by_cases hn : 300 < m.w * m.h * m.l
      · go_wp2
        go_ret
        exact ⟨ret_int (HR2.out (.inl hn)).symm, hI1.out.below.alloc (Nat.le_of_lt (lt_of_some hI1.out.box)) _⟩
      by_cases ht : 6 < m.tasks.length
      · go_wp2
        go_ret
        exact ⟨ret_int (HR2.out (.inr ht)).symm, hI1.out.below.alloc (Nat.le_of_lt (lt_of_some hI1.out.box)) _⟩
      have hret1 : (m.free.length ≠ m.tasks.length ∨ (m.up.length : Int) ≠ m.n ∨ m.free.any (fun f => (f.length : Int) != m.n) = true) → chk m = 1 := by
        intro h
        unfold chk
        rw [if_neg (by rw [HN.out]; simp), if_neg (by unfold MZ.n; omega), if_pos h]
      have HR1 := Lib.hid hret1; clear hret1
      by_cases hf : m.free.length = m.tasks.length
      case neg =>
        go_wp2
        go_ret
        exact ⟨ret_int (HR1.out (.inl hf)).symm, hI1.out.below.alloc (Nat.le_of_lt (lt_of_some hI1.out.box)) _⟩
      by_cases hu : (m.up.length : Int) = m.w * m.h * m.l
      case neg =>
        go_wp2
        go_ret
        exact ⟨ret_int (HR1.out (.inr (.inl hu))).symm, hI1.out.below.alloc (Nat.le_of_lt (lt_of_some hI1.out.box)) _⟩
      have hI2 := Lib.hid (CJ.new hI1.out (m.w * m.h * m.l))
      have hgt : w.heap.size < w'.heap.size := lt_of_some hI1.out.box
      clear hI1
      have hBB : Boolss w ok (.slice Af m.tasks.length cf) m.free := by
        rw [← hf]
        exact ⟨vsf, ⟨Af, cf, rfl, hcf, HRF.out⟩, HEF.out⟩
      go_wp2_with fail
      refine (containsFuncB_calls (ok := ok) 51 _ (fun f => (f.length : Int) != m.w * m.h * m.l) _ (hBB.below hI2.out.below) l1 cf51 ?hp).mono ?_
      case hp => exact fun x hx u hu w1 hd => check1_calls w'.heap.size _ w1 (hu.keep (hd.same ok)) (hI2.out.call (hd.below _)).all
      rintro e w1 ⟨rfl, hd⟩
      have hI3 := Lib.hid (hI2.out.call (hd.below _))
      clear hI2 hd hal
      by_cases ha : m.free.any (fun f => (f.length : Int) != m.w * m.h * m.l) = true
      · rw [ha]
        go_wp2
        go_ret
        exact ⟨ret_int (HR1.out (.inr (.inr ha))).symm, hI3.out.below⟩
      have ha' := Lib.hid (show m.free.any (fun f => (f.length : Int) != m.w * m.h * m.l) = false by simpa using ha)
      clear ha
      rw [ha'.out]
      obtain ⟨m0, m1, m2, m3, m4, m5⟩ := cells6 hI3.out.box
      have hTT : Tasks w ok (.slice At m.tasks.length ct) m.tasks := ⟨vst, ⟨At, ct, rfl, hct, HRT.out⟩, HET.out⟩
      go_wp2_with fail
      go_loopw [62] (fun i wr => ∃ k : Nat, k ≤ m.tasks.length ∧ i = .int .i64 k ∧ Hid ((m.tasks.take k).any (fun t => t.1.any (beyond m.n) || t.2.any (beyond m.n)) = false) ∧ Hid (CJ w wr #[.int .i64 m.w, .int .i64 m.h, .int .i64 m.l, .slice Af m.free.length cf, .slice Au m.up.length cu, .slice At m.tasks.length ct] w'.heap.size (m.w * m.h * m.l))) (fun i _ => m.tasks.length - (intOf i).toNat)
      case atStart => exact ⟨0, by omega, rfl, by simp [Hid], hI3⟩
      clear hI3 m0 m1 m2 m3 m4 m5 hBB
      case round =>
        obtain ⟨k, hk, rfl, hn, hI⟩ := hrel
        by_cases hlt : k < m.tasks.length
        · obtain ⟨b, off, sn, u1, u2, rfl, _, hc0, hc1, hc2, hi1, hi2⟩ := tasksAt (hTT.below hI.out.below) hlt
          obtain ⟨A1, c1, rfl, hcc1, hr1⟩ := hi1.open
          obtain ⟨A2, c2, rfl, hcc2, hr2⟩ := hi2.open
          obtain ⟨hl1, hl2⟩ := HL4.out _ (List.getElem_mem hlt)
          clear hr1 hr2
          have HI1 := Lib.hid hi1; clear hi1
          have HI2 := Lib.hid hi2; clear hi2
          have HTT := Lib.hid hTT; clear hTT
          obtain ⟨t, ht⟩ : ∃ t, t = m.tasks[k] := ⟨_, rfl⟩
          rw [← ht] at HI1 HI2 hc1 hc2 hcc1 hcc2 hl1 hl2
          have hsucc := Lib.hid (any_take_succ (fun t => t.1.any (beyond m.n) || t.2.any (beyond m.n)) hlt)
          rw [← ht] at hsucc
          have HM := Lib.hid (show t ∈ m.tasks by rw [ht]; exact List.getElem_mem _)
          clear ht
          have hI3 := Lib.hid (hI.out.alloc (.cells #[.string sn, .slice A1 t.1.length c1, .slice A2 t.2.length c2] 75))
          have hB3 := Lib.hid (heap_alloc_new wr (.cells #[.string sn, .slice A1 t.1.length c1, .slice A2 t.2.length c2] 75))
          have hret : (t.1.any (beyond m.n) || t.2.any (beyond m.n)) = true → chk m = 50 := by
            intro h
            unfold chk
            rw [if_neg (by rw [HN.out]; simp), if_neg (by unfold MZ.n; omega), if_neg (by unfold MZ.n; rw [ha'.out]; simp; omega), if_pos (List.any_eq_true.2 ⟨t, HM.out, h⟩)]
          have HRET := Lib.hid hret; clear hret
          go_wp2_with fail
          refine (containsFuncI_calls (ok := ok) 52 _ (beyond (m.w * m.h * m.l)) _ (HI1.out.below ((Below.refl _ _).alloc (Nat.le_refl _) _)) (by omega) cf52 ?hp).mono ?_
          case hp => exact fun x hx w1 hd => check2_calls w'.heap.size _ x w1 (hI3.out.call (hd.below _)).all
          rintro e w4 ⟨rfl, hd⟩
          have hI4 := Lib.hid (hI3.out.call (hd.below _))
          have hB4 : Hid (Blk w4 wr.heap.size 75 _) := Blk.below hB3.out (hd.below _) (lt_of_some hB3.out)
          have hb4 : Hid (Below wr.heap.size wr w4) := ((Below.refl _ _).alloc (Nat.le_refl _) _).trans (hd.below _)
          clear hd hI3 hB3
          obtain ⟨q0, q1, q2⟩ := cells3 hB4.out
          by_cases ha1 : t.1.any (beyond (m.w * m.h * m.l)) = true
          · rw [ha1]
            go_wp2
            go_ret
            exact ⟨ret_int (HRET.out (by show (t.1.any (beyond (m.w * m.h * m.l)) || _) = true; rw [ha1]; rfl)).symm, hI4.out.below⟩
          · have ha1 : t.1.any (beyond (m.w * m.h * m.l)) = false := by simpa using ha1
            rw [ha1]
            have HA1 := Lib.hid ha1; clear ha1
            go_wp2_with fail
            refine (containsFuncI_calls (ok := ok) 52 _ (beyond (m.w * m.h * m.l)) _ (HI2.out.below hb4.out) (by omega) cf52 ?hp).mono ?_
            case hp => exact fun x hx w1 hd => check2_calls w'.heap.size _ x w1 (hI4.out.call (hd.below _)).all
            rintro e w5 ⟨rfl, hd⟩
            have hI5 := Lib.hid (hI4.out.call (hd.below _))
            clear hd hI4 hB4 q0 q1 q2
            by_cases ha2 : t.2.any (beyond (m.w * m.h * m.l)) = true
            · rw [ha2]
              go_wp2
              go_ret
              exact ⟨ret_int (HRET.out (by show (_ || t.2.any (beyond (m.w * m.h * m.l))) = true; rw [ha2]; simp)).symm, hI5.out.below⟩
            · have ha2 : t.2.any (beyond (m.w * m.h * m.l)) = false := by simpa using ha2
              rw [ha2]
              have HA2 := Lib.hid ha2; clear ha2
              go_wp2_with fail
              go_roundw
              case rel => exact ⟨k + 1, by omega, by go_num, by
                show _ = false
                rw [hsucc.out, hn.out]
                show (_ || (t.1.any (beyond (m.w * m.h * m.l)) || t.2.any (beyond (m.w * m.h * m.l)))) = false
                rw [HA1.out, HA2.out]; rfl, hI5⟩
              case measure => simp [intOf]; omega
        · obtain rfl : k = m.tasks.length := by omega
          go_wp2
          go_ret
          refine ⟨ret_int ?_, hI.out.below⟩
          have hn := hn.out
          rw [List.take_length] at hn
          unfold chk
          rw [if_neg (by rw [HN.out]; simp), if_neg (by unfold MZ.n; omega), if_neg (by unfold MZ.n; rw [ha'.out]; simp; omega), if_neg (by rw [hn]; simp)]
end Go.Proofs.Ytgpjfpcjiebjiaa
