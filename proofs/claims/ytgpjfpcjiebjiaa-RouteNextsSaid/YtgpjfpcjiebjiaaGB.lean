/- Walks: a maze cut: some maze, with short lists. -/
import Derived.Test.YtgpjfpcjiebjiaaGq
import Derived.Test.YtgpjfpcjiebjiaaGw
import Derived.Deep.AppendLies
namespace Go.Proofs.Ytgpjfpcjiebjiaa
open Go.RowKit
set_option linter.unusedVariables false
set_option linter.unusedSimpArgs false
attribute [local go_sem ↓] Go.wp_at_zero Go.wp_at_succ

theorem slice_high (t e : TypeId) (ht : Try.prog.underlying t = some (.slice e)) (sz : Nat) (hz : (Try.prog.info? e).map (fun i => i.size) = some sz) (a : Option Addr) (len cap N : Nat) (hN : N ≤ cap) (w : World) :
    (Instr.slice t (.slice a len cap) none (some (.int .i64 (N : Int))) none).run Try.prog w = .ok (.slice a N cap) w := by
  have he : Try.prog.elem t = e := by simp [Program.elem, ht]
  have ht2 : Try.prog.underlying t = some (.slice (Try.prog.elem t)) := by rw [he]; exact ht
  obtain ⟨i, hi, hs⟩ := Option.map_eq_some_iff.1 hz
  rw [run_slice_h w t a len cap ht2 .i64 (N : Int) (by omega) (by omega)]
  rw [he]
  simp [sizeOf, typeInfo, hi, sliced, Addr.add]
def CutPost (w : World) (e : Ending) (w' : World) : Prop := ∃ v' m', e = .returned v' ∧ Ext w w' ∧ MazeV w' (fun _ => True) v' m' ∧ Lens m'
theorem bools_take {w : World} {ok : Nat → Prop} {A : Option Addr} {n c N : Nat} {l : List Bool} (h : Bools w ok (.slice A n c) l) (hN : N ≤ n) : Bools w ok (.slice A N c) (l.take N) := by
  obtain ⟨A', c', e, hc, hl, hr⟩ := h
  injection e with e1 e2 e3
  subst e1 e2 e3
  refine ⟨A, c, by rw [List.length_take, Nat.min_eq_left (by omega)], by rw [List.length_take]; omega, by simp, fun hp => ?_⟩
  rw [List.length_take] at hp
  obtain ⟨b, off, e, hb, hcell⟩ := hr (by omega)
  refine ⟨b, off, e, hb, fun j u hu => hcell j u ?_⟩
  rw [List.map_take, List.getElem?_take] at hu
  split at hu
  · exact hu
  · cases hu
theorem ints_take {w : World} {ok : Nat → Prop} {A : Option Addr} {n c N : Nat} {l : List Int} (h : Ints w ok (.slice A n c) l) (hN : N ≤ n) : Ints w ok (.slice A N c) (l.take N) := by
  obtain ⟨A', c', e, hc, hl, hr⟩ := h
  injection e with e1 e2 e3
  subst e1 e2 e3
  refine ⟨A, c, by rw [List.length_take, Nat.min_eq_left (by omega)], by rw [List.length_take]; omega, by simp, fun hp => ?_⟩
  rw [List.length_take] at hp
  obtain ⟨b, off, e, hb, hcell⟩ := hr (by omega)
  refine ⟨b, off, e, hb, fun j u hu => hcell j u ?_⟩
  rw [List.map_take, List.getElem?_take] at hu
  split at hu
  · exact hu
  · cases hu
theorem min12 (n : Nat) : ∃ N : Nat, min (n : Int) 12 = (N : Int) ∧ N ≤ n ∧ N ≤ 12 := ⟨min n 12, by omega, by omega, by omega⟩
theorem min6 (n : Nat) : ∃ N : Nat, min (n : Int) 6 = (N : Int) ∧ N ≤ n ∧ N ≤ 6 := ⟨min n 6, by omega, by omega, by omega⟩

set_option maxHeartbeats 4000000 in
set_option maxRecDepth 100000 in
theorem cut_calls {okm : Nat → Prop} {v : Value} {m : MZ} (w : World) (hm : MazeV w okm v m) (hw : -9223372036854775808 ≤ m.w ∧ m.w ≤ 9223372036854775808) (hh : -9223372036854775808 ≤ m.h ∧ m.h ≤ 9223372036854775808) (hl : -9223372036854775808 ≤ m.l ∧ m.l ≤ 9223372036854775808) :
    Calls Try.prog 14 #[v] w (CutPost w) := by
  have hmb := hm.bound
  obtain ⟨vfr, vup, vts, rfl, hfr, hup, hts⟩ := hmb
  clear hm
  have HFR := Lib.hid hfr
  have HTS := Lib.hid hts
  have HUP := Lib.hid hup
  obtain ⟨vsf, hrf, hef⟩ := hfr
  obtain ⟨vst, hrt, het⟩ := hts
  obtain ⟨Af, cf, rfl, hcf, hrf'⟩ := hrf
  obtain ⟨At, ct, rfl, hct, hrt'⟩ := hrt
  obtain ⟨Au, cu, rfl, hcu, hru'⟩ := hup
  have HRF := Lib.hid hrf'
  have HEF := Lib.hid hef
  have HRT := Lib.hid hrt'
  have HET := Lib.hid het
  have HRU := Lib.hid hru'
  have HDM : Hid ((-9223372036854775808 ≤ m.w ∧ m.w ≤ 9223372036854775808) ∧ (-9223372036854775808 ≤ m.h ∧ m.h ≤ 9223372036854775808) ∧ (-9223372036854775808 ≤ m.l ∧ m.l ≤ 9223372036854775808)) := ⟨hw, hh, hl⟩
  obtain ⟨NU, hNU, hNU1, hNU2⟩ := min12 m.up.length
  have hsU : ∀ W, (Instr.slice 28 (.slice Au m.up.length cu) none (some (.int .i64 (NU : Int))) none).run Try.prog W = .ok (.slice Au NU cu) W := slice_high 28 4 Try.underlying28 1 (by kernel_rfl) Au m.up.length cu NU (by omega)
  have hsU2 : ∀ W, (Instr.sliceAt 28 (.slice Au m.up.length cu) none (some (.int .i64 (NU : Int))) none).run Try.prog W = .ok (.slice Au NU cu) W := fun W => by
    rw [run_sliceAt_slice W _ _ _ _ _ Try.underlying28]; exact hsU W
  clear hrf' hef hrt' het hru' hw hh hl
  go_enter Try.func14, Try.ntmps14
  go_upto_region 1 with fail
  obtain ⟨wA, hwA⟩ : ∃ wA, wA = (w.alloc (.cells #[.int .i64 m.w, .int .i64 m.h, .int .i64 m.l, .slice Af m.free.length cf, .slice Au m.up.length cu, .slice At m.tasks.length ct] 31)).alloc (.cells #[.int .i64 0, .int .i64 0, .int .i64 0, .slice none 0 0, .slice none 0 0, .slice none 0 0] 31) := ⟨_, rfl⟩
  have hB1 : Blk wA w.heap.size 31 #[.int .i64 m.w, .int .i64 m.h, .int .i64 m.l, .slice Af m.free.length cf, .slice Au m.up.length cu, .slice At m.tasks.length ct] := by rw [hwA]; exact (Blk.new _ _ _ rfl).alloc _
  have hB2 : Blk wA (w.heap.size + 1) 31 #[.int .i64 0, .int .i64 0, .int .i64 0, .slice none 0 0, .slice none 0 0, .slice none 0 0] := by rw [hwA]; exact Blk.new _ _ _ (by simp)
  have hEA : Ext w wA := by rw [hwA]; exact ((Ext.refl w).alloc _).alloc _
  have hsA : wA.heap.size = w.heap.size + 2 := by rw [hwA]; simp
  rw [← hwA]
  clear hwA
  obtain ⟨b2, hb2⟩ : ∃ b2, b2 = w.heap.size + 1 := ⟨_, rfl⟩
  obtain ⟨b1, hb1⟩ : ∃ b1, b1 = w.heap.size := ⟨_, rfl⟩
  rw [← hb2, ← hb1]
  rw [← hb1] at hB1
  rw [← hb2] at hB2
  have HBS : Hid (wA.heap.size = b2 + 1 ∧ w.heap.size ≤ b2 ∧ w.heap.size + 1 = b2) := ⟨by omega, by omega, by omega⟩
  have HEA := Lib.hid hEA
  have HB2 := Lib.hid hB2
  obtain ⟨m0, m1, m2, m3, m4, m5⟩ := cells6 hB1
  have q0 := Ext.rule m0
  have q1 := Ext.rule m1
  have q2 := Ext.rule m2
  have q3 := Ext.rule m3
  have q4 := Ext.rule m4
  have q5 := Ext.rule m5
  clear m0 m1 m2 m3 m4 m5 hB1 hB2 hsA hb2 hb1 hEA
  have hrA := Ext.refl wA
  go_wp2_with fail
  refine wp_region_held_drew (S := fun W => Ext wA W) mixedA (Ext.refl wA).drew (fun hHeld => ?_)
  refine wpAnyH_take (i := 0) (v := ?v1) rfl (by kernel_rfl) (by kernel_rfl) (by kernel_rfl) (fun _ _ _ h => h) (Or.inl ⟨?w1, ?y1⟩) hHeld ?r1
  case w1 => rfl
  case y1 => (intro w hSw; go_simp; try with_reducible rfl)
  simp only [List.getElem_toArray, List.getElem_cons_zero, Act.put, List.setIfInBounds_toArray, List.set_cons_zero, List.set_cons_succ]
  refine wpAnyH_take (i := 1) (v := ?v2) rfl (by kernel_rfl) (by kernel_rfl) (by kernel_rfl) (fun _ _ _ h => h) (Or.inl ⟨?w2, ?y2⟩) hHeld ?r2
  case w2 => rfl
  case y2 => (intro w hSw; go_simp; try with_reducible rfl)
  simp only [List.getElem_toArray, List.getElem_cons_succ, List.getElem_cons_zero, Act.put, List.setIfInBounds_toArray, List.set_cons_zero, List.set_cons_succ]
  refine wpAnyH_take (i := 2) (v := ?v3) rfl (by kernel_rfl) (by kernel_rfl) (by kernel_rfl) (fun _ _ _ h => h) (Or.inl ⟨?w3, ?y3⟩) hHeld ?r3
  case w3 => rfl
  case y3 => (intro w hSw; go_simp; try with_reducible rfl)
  simp only [List.getElem_toArray, List.getElem_cons_succ, List.getElem_cons_zero, Act.put, List.setIfInBounds_toArray, List.set_cons_zero, List.set_cons_succ]
  refine wpAnyH_take (i := 3) (v := ?v4) rfl (by kernel_rfl) (by kernel_rfl) (by kernel_rfl) (fun _ _ _ h => h) (Or.inl ⟨?w4, ?y4⟩) hHeld ?r4
  case w4 => rfl
  case y4 => (intro w hSw; go_simp; try with_reducible rfl)
  simp only [List.getElem_toArray, List.getElem_cons_succ, List.getElem_cons_zero, Act.put, List.setIfInBounds_toArray, List.set_cons_zero, List.set_cons_succ]
  refine wpAnyH_take (i := 4) (v := ?v5) rfl (by kernel_rfl) (by kernel_rfl) (by kernel_rfl) (fun _ _ _ h => h) (Or.inl ⟨?w5, ?y5⟩) hHeld ?r5
  case w5 => rfl
  case y5 => (intro w hSw; go_simp; try with_reducible rfl)
  simp only [List.getElem_toArray, List.getElem_cons_succ, List.getElem_cons_zero, Act.put, List.setIfInBounds_toArray, List.set_cons_zero, List.set_cons_succ]
  refine wpAnyH_take (i := 5) (v := ?v6) rfl (by kernel_rfl) (by kernel_rfl) (by kernel_rfl) (fun _ _ _ h => h) (Or.inl ⟨?w6, ?y6⟩) hHeld ?r6
  case w6 => rfl
  case y6 => (intro w hSw; go_simp; try with_reducible rfl)
  simp only [List.getElem_toArray, List.getElem_cons_succ, List.getElem_cons_zero, Act.put, List.setIfInBounds_toArray, List.set_cons_zero, List.set_cons_succ]
  refine wpAnyH_take (i := 6) (v := ?v7) rfl (by kernel_rfl) (by kernel_rfl) (by kernel_rfl) (fun _ _ _ h => h) (Or.inl ⟨?w7, ?y7⟩) hHeld ?r7
  case w7 => rfl
  case y7 => (intro w hSw; go_simp; try with_reducible rfl)
  simp only [List.getElem_toArray, List.getElem_cons_succ, List.getElem_cons_zero, Act.put, List.setIfInBounds_toArray, List.set_cons_zero, List.set_cons_succ]
  refine wpAnyH_take (i := 7) (v := ?v8) rfl (by kernel_rfl) (by kernel_rfl) (by kernel_rfl) (fun _ _ _ h => h) (Or.inl ⟨?w8, ?y8⟩) hHeld ?r8
  case w8 => rfl
  case y8 => (intro w hSw; go_simp; try with_reducible rfl)
  simp only [List.getElem_toArray, List.getElem_cons_succ, List.getElem_cons_zero, Act.put, List.setIfInBounds_toArray, List.set_cons_zero, List.set_cons_succ]
  refine wpAnyH_take (i := 8) (v := ?v9) rfl (by kernel_rfl) (by kernel_rfl) (by kernel_rfl) (fun _ _ _ h => h) (Or.inl ⟨?w9, ?y9⟩) hHeld ?r9
  case w9 => rfl
  case y9 => (intro w hSw; go_simp; try with_reducible rfl)
  simp only [List.getElem_toArray, List.getElem_cons_succ, List.getElem_cons_zero, Act.put, List.setIfInBounds_toArray, List.set_cons_zero, List.set_cons_succ]
  refine wpAnyH_take (i := 9) (v := ?v10) rfl (by kernel_rfl) (by kernel_rfl) (by kernel_rfl) (fun _ _ _ h => h) (Or.inl ⟨?w10, ?y10⟩) hHeld ?r10
  case w10 => rfl
  case y10 => (intro w hSw; go_simp; try with_reducible rfl)
  simp only [List.getElem_toArray, List.getElem_cons_succ, List.getElem_cons_zero, Act.put, List.setIfInBounds_toArray, List.set_cons_zero, List.set_cons_succ]
  refine wpAnyH_take (i := 10) (v := ?v11) rfl (by kernel_rfl) (by kernel_rfl) (by kernel_rfl) (fun _ _ _ h => h) (Or.inl ⟨?w11, ?y11⟩) hHeld ?r11
  case w11 => rfl
  case y11 => (intro w hSw; go_simp; try with_reducible rfl)
  simp only [List.getElem_toArray, List.getElem_cons_succ, List.getElem_cons_zero, Act.put, List.setIfInBounds_toArray, List.set_cons_zero, List.set_cons_succ]
  refine wpAnyH_take (i := 11) (v := ?v12) rfl (by kernel_rfl) (by kernel_rfl) (by kernel_rfl) (fun _ _ _ h => h) (Or.inl ⟨?w12, ?y12⟩) hHeld ?r12
  case w12 => rfl
  case y12 => (intro w hSw; go_simp; try with_reducible rfl)
  simp only [List.getElem_toArray, List.getElem_cons_succ, List.getElem_cons_zero, Act.put, List.setIfInBounds_toArray, List.set_cons_zero, List.set_cons_succ]
  refine wpAnyH_take (i := 12) (v := ?v13) rfl (by kernel_rfl) (by kernel_rfl) (by kernel_rfl) (fun _ _ _ h => h) (Or.inl ⟨?w13, ?y13⟩) hHeld ?r13
  case w13 => rfl
  case y13 => (intro w hSw; go_simp; try with_reducible rfl)
  simp only [List.getElem_toArray, List.getElem_cons_succ, List.getElem_cons_zero, Act.put, List.setIfInBounds_toArray, List.set_cons_zero, List.set_cons_succ]
  refine wpAnyH_take (i := 13) (v := ?v14) rfl (by kernel_rfl) (by kernel_rfl) (by kernel_rfl) (fun _ _ _ h => h) (Or.inl ⟨?w14, ?y14⟩) hHeld ?r14
  case w14 => rfl
  case y14 => (intro w hSw; go_simp; try with_reducible rfl)
  simp only [List.getElem_toArray, List.getElem_cons_succ, List.getElem_cons_zero, Act.put, List.setIfInBounds_toArray, List.set_cons_zero, List.set_cons_succ]
  refine wpAnyH_ready (rs := [14]) (by kernel_rfl) (by simp) ?_
  refine AllReadyH.cons rfl (fun K hK => ?_) AllReadyH.nil
  go_simp
  refine hK.out _ _ (hHeld.alloc _) (fun hHeld => ?_)
  clear hK K
  try simp only [List.getElem_toArray, List.getElem_cons_succ, List.getElem_cons_zero, Act.put, List.setIfInBounds_toArray, List.set_cons_zero, List.set_cons_succ]
  refine wpAnyH_ready (rs := [15]) (by kernel_rfl) (by simp) ?_
  refine AllReadyH.cons rfl (fun K hK => ?_) AllReadyH.nil
  go_simp
  refine hK.out _ _ (((Ext.refl wA).alloc _).drew) (fun hHeld => ?_)
  clear hK K
  try simp only [List.getElem_toArray, List.getElem_cons_succ, List.getElem_cons_zero, Act.put, List.setIfInBounds_toArray, List.set_cons_zero, List.set_cons_succ]
  refine wpAnyH_done (by kernel_rfl) ?_ _
  obtain ⟨b3, hb3⟩ : ∃ b3, b3 = wA.heap.size := ⟨_, rfl⟩
  have H1 : Hid (OS wA (wA.alloc (.cells #[.int .i64 m.w, .int .i64 m.h, .int .i64 m.l, .slice none 0 0, .slice Au NU cu, .slice none 0 0] 31)).drew wA.heap.size b3 0 0 12 m.w m.h m.l (.slice none 0 0) (.slice Au NU cu) (.slice none 0 0) [] []) := by
    refine ⟨rfl, by omega, ((Ext.refl wA).alloc _).drew, Blk.new wA _ _ hb3, World.ownsRow_nil _ _ _ _, World.ownsRow_nil _ _ _ _, fun u hu => (by cases hu), fun j hj => by omega, ⟨m.up.take NU, by rw [List.length_take]; omega, .inl ?_⟩, by omega, by omega⟩
    exact ((bools_take HUP.out hNU1).weaken fun b hb => by have := hb.2; have := HBS.out; show b + 1 < wA.heap.size; omega).below (HEA.out.trans ((Ext.refl wA).alloc _).drew)
  rw [← hb3]
  generalize (wA.alloc (.cells #[.int .i64 m.w, .int .i64 m.h, .int .i64 m.l, .slice none 0 0, .slice Au NU cu, .slice none 0 0] 31)).drew = w1 at *
  have HB3 := Lib.hid hb3
  clear hHeld hrA hsU hsU2 hNU hb3
  go_wp2_with fail
  go_loopg [4] 3 (fun gk v wr => ∃ (k : Nat) (vF : Value) (fs : List Value), v = .int .i64 k ∧ k ≤ 3 ∧ gk = 3 - k ∧ Hid (OS wA wr wA.heap.size b3 k 0 12 m.w m.h m.l vF (.slice Au NU cu) (.slice none 0 0) fs []))
  case atStart => exact ⟨0, _, _, rfl, by omega, rfl, H1.out⟩
  clear H1
  case round =>
    obtain ⟨k, vF, fs, rfl, hk3, rfl, hQ⟩ := hrel
    obtain ⟨wq, rfl⟩ : ∃ wq : World, wq = wr := ⟨_, rfl⟩
    have hxq : Ext wA wq := hQ.out.ext
    by_cases hgo : k < m.free.length ∧ k < 3
    · obtain ⟨hk1, hk2⟩ := hgo
      have hd1 : decide ((k : Int) < (m.free.length : Int)) = true := decide_eq_true (by omega)
      have hd2 : decide (k < m.free.length) = true := decide_eq_true hk1
      have hd3 : decide ((k : Int) < 3) = true := decide_eq_true (by omega)
      have hd4 : decide (k < 3) = true := decide_eq_true hk2
      obtain ⟨bf, off, uk, rfl, hok, hcK, hbk⟩ := eachAt HRF.out HEF.out hk1 hk1
      obtain ⟨LK, hLK⟩ : ∃ LK, LK = m.free[k] := ⟨_, rfl⟩
      rw [← hLK] at hbk
      have hbk0 := hbk
      obtain ⟨Ak, ck, rfl, hck, -⟩ := hbk0
      obtain ⟨Nk, hNk, hNk1, hNk2⟩ := min12 LK.length
      have HBK : Hid (Bools wA (fun b => b + 1 < wA.heap.size) (.slice Ak Nk ck) (LK.take Nk)) := ((bools_take hbk hNk1).weaken fun b hb => by have := hb.2; have := HBS.out; show b + 1 < wA.heap.size; omega).below HEA.out
      have hsK : ∀ W, (Instr.slice 28 (.slice Ak LK.length ck) none (some (.int .i64 (Nk : Int))) none).run Try.prog W = .ok (.slice Ak Nk ck) W := slice_high 28 4 Try.underlying28 1 (by kernel_rfl) Ak LK.length ck Nk (by omega)
      have hsK2 : ∀ W, (Instr.sliceAt 28 (.slice Ak LK.length ck) none (some (.int .i64 (Nk : Int))) none).run Try.prog W = .ok (.slice Ak Nk ck) W := fun W => by
        rw [run_sliceAt_slice W _ _ _ _ _ Try.underlying28]; exact hsK W
      have qk : ∀ W, Ext wA W → W.cell? ⟨bf, off + k, none⟩ = some (.slice Ak LK.length ck) := fun W h => Ext.rule hcK W (HEA.out.trans h)
      have hkk0 : (0 : Int) ≤ (k : Int) ∧ (k : Int) < (m.free.length : Int) := by omega
      have HOQ : Hid (OS wA wq.drew wA.heap.size b3 k 0 12 m.w m.h m.l vF (.slice Au NU cu) (.slice none 0 0) fs []) := hQ.out.grow (Ext.refl wq).drew
      obtain ⟨AF2, cF2, rfl, -⟩ := Row.of_own hQ.out.F
      have c3 : wq.cell? ⟨b3, 3, none⟩ = some (.slice AF2 k cF2) := hQ.out.blk.cell (k := 3) rfl
      have hf3 : wq.frozen? ⟨b3, 3, none⟩ = false := hQ.out.blk.frozen 3
      clear hbk hLK hk1
      go_wp2_with fail
      refine wp_region_held_drew (S := fun W => Ext wA W) mixedA (hxq.drew) (fun hHeld => ?_)
      refine wpAnyH_take (i := 0) (v := ?v15) rfl (by kernel_rfl) (by kernel_rfl) (by kernel_rfl) (fun _ _ _ h => h) (Or.inl ⟨?w15, ?y15⟩) hHeld ?r15
      case w15 => rfl
      case y15 => (intro w hSw; go_simp; try with_reducible rfl)
      simp only [List.getElem_toArray, List.getElem_cons_zero, Act.put, List.setIfInBounds_toArray, List.set_cons_zero, List.set_cons_succ]
      refine wpAnyH_take (i := 2) (v := ?v16) rfl (by kernel_rfl) (by kernel_rfl) (by kernel_rfl) (fun _ _ _ h => h) (Or.inl ⟨?w16, ?y16⟩) hHeld ?r16
      case w16 => rfl
      case y16 => (intro w hSw; go_simp; try with_reducible rfl)
      simp only [List.getElem_toArray, List.getElem_cons_succ, List.getElem_cons_zero, Act.put, List.setIfInBounds_toArray, List.set_cons_zero, List.set_cons_succ]
      refine wpAnyH_take (i := 3) (v := ?v17) rfl (by kernel_rfl) (by kernel_rfl) (by kernel_rfl) (fun _ _ _ h => h) (Or.inl ⟨?w17, ?y17⟩) hHeld ?r17
      case w17 => rfl
      case y17 => (intro w hSw; go_simp; try with_reducible rfl)
      simp only [List.getElem_toArray, List.getElem_cons_succ, List.getElem_cons_zero, Act.put, List.setIfInBounds_toArray, List.set_cons_zero, List.set_cons_succ]
      refine wpAnyH_take (i := 4) (v := ?v18) rfl (by kernel_rfl) (by kernel_rfl) (by kernel_rfl) (fun _ _ _ h => h) (Or.inl ⟨?w18, ?y18⟩) hHeld ?r18
      case w18 => rfl
      case y18 => (intro w hSw; go_simp; try with_reducible rfl)
      simp only [List.getElem_toArray, List.getElem_cons_succ, List.getElem_cons_zero, Act.put, List.setIfInBounds_toArray, List.set_cons_zero, List.set_cons_succ]
      refine wpAnyH_take (i := 5) (v := ?v19) rfl (by kernel_rfl) (by kernel_rfl) (by kernel_rfl) (fun _ _ _ h => h) (Or.inl ⟨?w19, ?y19⟩) hHeld ?r19
      case w19 => rfl
      case y19 => (intro w hSw; go_simp; try with_reducible rfl)
      simp only [List.getElem_toArray, List.getElem_cons_succ, List.getElem_cons_zero, Act.put, List.setIfInBounds_toArray, List.set_cons_zero, List.set_cons_succ]
      refine wpAnyH_take (i := 6) (v := ?v20) rfl (by kernel_rfl) (by kernel_rfl) (by kernel_rfl) (fun _ _ _ h => h) (Or.inl ⟨?w20, ?y20⟩) hHeld ?r20
      case w20 => rfl
      case y20 => (intro w hSw; go_simp; try with_reducible rfl)
      simp only [List.getElem_toArray, List.getElem_cons_succ, List.getElem_cons_zero, Act.put, List.setIfInBounds_toArray, List.set_cons_zero, List.set_cons_succ]
      refine wpAnyH_take (i := 7) (v := ?v21) rfl (by kernel_rfl) (by kernel_rfl) (by kernel_rfl) (fun _ _ _ h => h) (Or.inl ⟨?w21, ?y21⟩) hHeld ?r21
      case w21 => rfl
      case y21 => (intro w hSw; go_simp; try with_reducible rfl)
      simp only [List.getElem_toArray, List.getElem_cons_succ, List.getElem_cons_zero, Act.put, List.setIfInBounds_toArray, List.set_cons_zero, List.set_cons_succ]
      refine wpAnyH_take (i := 8) (v := ?v22) rfl (by kernel_rfl) (by kernel_rfl) (by kernel_rfl) (fun _ _ _ h => h) (Or.inl ⟨?w22, ?y22⟩) hHeld ?r22
      case w22 => rfl
      case y22 => (intro w hSw; go_simp; try with_reducible rfl)
      simp only [List.getElem_toArray, List.getElem_cons_succ, List.getElem_cons_zero, Act.put, List.setIfInBounds_toArray, List.set_cons_zero, List.set_cons_succ]
      refine wpAnyH_take (i := 9) (v := ?v23) rfl (by kernel_rfl) (by kernel_rfl) (by kernel_rfl) (fun _ _ _ h => h) (Or.inl ⟨?w23, ?y23⟩) hHeld ?r23
      case w23 => rfl
      case y23 => (intro w hSw; go_simp; try with_reducible rfl)
      simp only [List.getElem_toArray, List.getElem_cons_succ, List.getElem_cons_zero, Act.put, List.setIfInBounds_toArray, List.set_cons_zero, List.set_cons_succ]
      refine wpAnyH_take (i := 10) (v := ?v24) rfl (by kernel_rfl) (by kernel_rfl) (by kernel_rfl) (fun _ _ _ h => h) (Or.inl ⟨?w24, ?y24⟩) hHeld ?r24
      case w24 => rfl
      case y24 => (intro w hSw; go_simp; try with_reducible rfl)
      simp only [List.getElem_toArray, List.getElem_cons_succ, List.getElem_cons_zero, Act.put, List.setIfInBounds_toArray, List.set_cons_zero, List.set_cons_succ]
      refine wpAnyH_take (i := 11) (v := ?v25) rfl (by kernel_rfl) (by kernel_rfl) (by kernel_rfl) (fun _ _ _ h => h) (Or.inl ⟨?w25, ?y25⟩) hHeld ?r25
      case w25 => rfl
      case y25 => (intro w hSw; go_simp; try with_reducible rfl)
      simp only [List.getElem_toArray, List.getElem_cons_succ, List.getElem_cons_zero, Act.put, List.setIfInBounds_toArray, List.set_cons_zero, List.set_cons_succ]
      refine wpAnyH_take (i := 12) (v := ?v26) rfl (by kernel_rfl) (by kernel_rfl) (by kernel_rfl) (fun _ _ _ h => h) (Or.inl ⟨?w26, ?y26⟩) hHeld ?r26
      case w26 => rfl
      case y26 => (intro w hSw; go_simp; try with_reducible rfl)
      simp only [List.getElem_toArray, List.getElem_cons_succ, List.getElem_cons_zero, Act.put, List.setIfInBounds_toArray, List.set_cons_zero, List.set_cons_succ]
      refine wpAnyH_take (i := 13) (v := ?v27) rfl (by kernel_rfl) (by kernel_rfl) (by kernel_rfl) (fun _ _ _ h => h) (Or.inl ⟨?w27, ?y27⟩) hHeld ?r27
      case w27 => rfl
      case y27 => (intro w hSw; go_simp; try with_reducible rfl)
      simp only [List.getElem_toArray, List.getElem_cons_succ, List.getElem_cons_zero, Act.put, List.setIfInBounds_toArray, List.set_cons_zero, List.set_cons_succ]
      refine wpAnyH_take (i := 14) (v := ?v28) rfl (by kernel_rfl) (by kernel_rfl) (by kernel_rfl) (fun _ _ _ h => h) (Or.inl ⟨?w28, ?y28⟩) hHeld ?r28
      case w28 => rfl
      case y28 => (intro w hSw; go_simp; try with_reducible rfl)
      simp only [List.getElem_toArray, List.getElem_cons_succ, List.getElem_cons_zero, Act.put, List.setIfInBounds_toArray, List.set_cons_zero, List.set_cons_succ]
      refine wpAnyH_ready (rs := [1, 15]) (by kernel_rfl) (by simp) ?_
      refine AllReadyH.cons rfl (fun K hK => ?_) ?_
      · have hcl : wq.cell? ⟨b3, 3, none⟩ = some (.slice AF2 k cF2) := c3
        go_simp
        clear hcl
        refine hK.out _ _ (hHeld) (fun hHeld => ?_)
        clear hK K
        try simp only [List.getElem_toArray, List.getElem_cons_succ, List.getElem_cons_zero, Act.put, List.setIfInBounds_toArray, List.set_cons_zero, List.set_cons_succ]
        refine wpAnyH_ready (rs := [15]) (by kernel_rfl) (by simp) ?_
        refine AllReadyH.cons rfl (fun K hK => ?_) AllReadyH.nil
        go_simp
        refine hK.out _ _ (hHeld.alloc _) (fun hHeld => ?_)
        clear hK K
        try simp only [List.getElem_toArray, List.getElem_cons_succ, List.getElem_cons_zero, Act.put, List.setIfInBounds_toArray, List.set_cons_zero, List.set_cons_succ]
        refine wpAnyH_ready (rs := [16]) (by kernel_rfl) (by simp) ?_
        refine AllReadyH.cons rfl (fun K hK => ?_) AllReadyH.nil
        refine step_append_row (ok := fun _ => True) rfl _ _ _ eBools rfl wA.heap.size k 1 fs [.slice Ak Nk ck] _ _ rfl rfl ((HOQ.out.F).alloc _) ⟨_, _, rfl, Nat.le_refl _, RowA.block (Blk.new _ _ _ rfl) trivial rfl⟩ (by simp [Value.oneCell']) (Nat.le_trans HOQ.out.ext.size (by simp)) (by unfold maxLen; omega) (by omega) ?_
        intro vF9 w9 hoF hgF hvF
        clear hvF
        have hO9 := HOQ.out.addF hoF hgF (by omega) (fun w2 hk hs u hu => by
          rw [List.mem_singleton] at hu
          subst hu
          exact FI.keep ⟨_, .inl (HBK.out.below (HOQ.out.ext))⟩ hk)
        have HO9 := Lib.hid hO9
        have hb3w : w9.heap[b3]? = wq.drew.heap[b3]? := (hgF.block b3 (by have := lt_of_some HOQ.out.blk; simp; exact Nat.lt_succ_of_lt this) (fun e => own_blk_ne HOQ.out.F HOQ.out.blk (by decide) e.symm)).trans (Below.heap_alloc _ _ _ (lt_of_some HOQ.out.blk))
        have c39 : w9.cell? ⟨b3, 3, none⟩ = some (.slice AF2 k cF2) := (World.cell?_of_block (a := ⟨b3, 3, none⟩) hb3w).trans c3
        have f39 : w9.frozen? ⟨b3, 3, none⟩ = false := (World.frozen?_of_block (a := ⟨b3, 3, none⟩) hb3w).trans hf3
        have hx9 : Ext wA w9 := (HOQ.out.ext.alloc _).grown hgF (Nat.le_trans HOQ.out.ext.size (by simp)) (fun k hk => (HOQ.out.F.lt k hk).1)
        obtain ⟨AF9, cF9, rfl, -⟩ := Row.of_own hoF
        have HSA := Lib.hid hx9
        clear hO9 hoF hgF hb3w hx9
        refine hK.out _ _ (HSA.out) (fun hHeld => ?_)
        clear hK K
        try simp only [List.getElem_toArray, List.getElem_cons_succ, List.getElem_cons_zero, Act.put, List.setIfInBounds_toArray, List.set_cons_zero, List.set_cons_succ]
        refine wpAnyH_take (i := 17) (v := ?v29) rfl (by kernel_rfl) (by kernel_rfl) (by kernel_rfl) (fun _ _ _ h => h) (Or.inl ⟨?w29, ?y29⟩) hHeld ?r29
        case w29 => rfl
        case y29 => (intro w hSw; go_simp; try with_reducible rfl)
        simp only [List.getElem_toArray, List.getElem_cons_succ, List.getElem_cons_zero, Act.put, List.setIfInBounds_toArray, List.set_cons_zero, List.set_cons_succ]
        refine wpAnyH_ready (rs := [18]) (by kernel_rfl) (by simp) ?_
        refine AllReadyH.cons rfl (fun K hK => ?_) AllReadyH.nil
        go_simp
        refine hK.out _ _ (HSA.out.setCell (p := ⟨b3, 3, none⟩) (show wA.heap.size ≤ b3 from HO9.out.h5) _) (fun hHeld => ?_)
        clear hK K
        try simp only [List.getElem_toArray, List.getElem_cons_succ, List.getElem_cons_zero, Act.put, List.setIfInBounds_toArray, List.set_cons_zero, List.set_cons_succ]
        refine wpAnyH_done (by kernel_rfl) ?_ _
        clear hHeld c39 f39 c3 hf3 hcK
        go_wp2_with fail
        go_roundg (3 - (k + 1))
        case measure => omega
        case rel => exact ⟨k + 1, _, _, by go_num, by omega, rfl, HO9.out⟩
      refine AllReadyH.cons rfl (fun K hK => ?_) ?_
      · go_simp
        refine hK.out _ _ (hHeld.alloc _) (fun hHeld => ?_)
        clear hK K
        try simp only [List.getElem_toArray, List.getElem_cons_succ, List.getElem_cons_zero, Act.put, List.setIfInBounds_toArray, List.set_cons_zero, List.set_cons_succ]
        refine wpAnyH_ready (rs := [1]) (by kernel_rfl) (by simp) ?_
        refine AllReadyH.cons rfl (fun K hK => ?_) AllReadyH.nil
        have hcl : (wq.alloc (.cells #[.slice Ak Nk ck] 28)).cell? ⟨b3, 3, none⟩ = some (.slice AF2 k cF2) := Ext.cell c3 ((Ext.refl wq).alloc _)
        go_simp
        clear hcl
        refine hK.out _ _ (hHeld) (fun hHeld => ?_)
        clear hK K
        try simp only [List.getElem_toArray, List.getElem_cons_succ, List.getElem_cons_zero, Act.put, List.setIfInBounds_toArray, List.set_cons_zero, List.set_cons_succ]
        refine wpAnyH_ready (rs := [16]) (by kernel_rfl) (by simp) ?_
        refine AllReadyH.cons rfl (fun K hK => ?_) AllReadyH.nil
        refine step_append_row (ok := fun _ => True) rfl _ _ _ eBools rfl wA.heap.size k 1 fs [.slice Ak Nk ck] _ _ rfl rfl ((HOQ.out.F).alloc _) ⟨_, _, rfl, Nat.le_refl _, RowA.block (Blk.new _ _ _ rfl) trivial rfl⟩ (by simp [Value.oneCell']) (Nat.le_trans HOQ.out.ext.size (by simp)) (by unfold maxLen; omega) (by omega) ?_
        intro vF9 w9 hoF hgF hvF
        clear hvF
        have hO9 := HOQ.out.addF hoF hgF (by omega) (fun w2 hk hs u hu => by
          rw [List.mem_singleton] at hu
          subst hu
          exact FI.keep ⟨_, .inl (HBK.out.below (HOQ.out.ext))⟩ hk)
        have HO9 := Lib.hid hO9
        have hb3w : w9.heap[b3]? = wq.drew.heap[b3]? := (hgF.block b3 (by have := lt_of_some HOQ.out.blk; simp; exact Nat.lt_succ_of_lt this) (fun e => own_blk_ne HOQ.out.F HOQ.out.blk (by decide) e.symm)).trans (Below.heap_alloc _ _ _ (lt_of_some HOQ.out.blk))
        have c39 : w9.cell? ⟨b3, 3, none⟩ = some (.slice AF2 k cF2) := (World.cell?_of_block (a := ⟨b3, 3, none⟩) hb3w).trans c3
        have f39 : w9.frozen? ⟨b3, 3, none⟩ = false := (World.frozen?_of_block (a := ⟨b3, 3, none⟩) hb3w).trans hf3
        have hx9 : Ext wA w9 := (HOQ.out.ext.alloc _).grown hgF (Nat.le_trans HOQ.out.ext.size (by simp)) (fun k hk => (HOQ.out.F.lt k hk).1)
        obtain ⟨AF9, cF9, rfl, -⟩ := Row.of_own hoF
        have HSA := Lib.hid hx9
        clear hO9 hoF hgF hb3w hx9
        refine hK.out _ _ (HSA.out) (fun hHeld => ?_)
        clear hK K
        try simp only [List.getElem_toArray, List.getElem_cons_succ, List.getElem_cons_zero, Act.put, List.setIfInBounds_toArray, List.set_cons_zero, List.set_cons_succ]
        refine wpAnyH_take (i := 17) (v := ?v30) rfl (by kernel_rfl) (by kernel_rfl) (by kernel_rfl) (fun _ _ _ h => h) (Or.inl ⟨?w30, ?y30⟩) hHeld ?r30
        case w30 => rfl
        case y30 => (intro w hSw; go_simp; try with_reducible rfl)
        simp only [List.getElem_toArray, List.getElem_cons_succ, List.getElem_cons_zero, Act.put, List.setIfInBounds_toArray, List.set_cons_zero, List.set_cons_succ]
        refine wpAnyH_ready (rs := [18]) (by kernel_rfl) (by simp) ?_
        refine AllReadyH.cons rfl (fun K hK => ?_) AllReadyH.nil
        go_simp
        refine hK.out _ _ (HSA.out.setCell (p := ⟨b3, 3, none⟩) (show wA.heap.size ≤ b3 from HO9.out.h5) _) (fun hHeld => ?_)
        clear hK K
        try simp only [List.getElem_toArray, List.getElem_cons_succ, List.getElem_cons_zero, Act.put, List.setIfInBounds_toArray, List.set_cons_zero, List.set_cons_succ]
        refine wpAnyH_done (by kernel_rfl) ?_ _
        clear hHeld c39 f39 c3 hf3 hcK
        go_wp2_with fail
        go_roundg (3 - (k + 1))
        case measure => omega
        case rel => exact ⟨k + 1, _, _, by go_num, by omega, rfl, HO9.out⟩
      exact AllReadyH.nil
    · have hno : decide (k < m.free.length) = false ∨ (decide (k < m.free.length) = true ∧ decide ((k : Int) < 3) = false) := by
        by_cases h1 : k < m.free.length
        · exact .inr ⟨decide_eq_true h1, decide_eq_false (by omega)⟩
        · exact .inl (decide_eq_false h1)
      have HO1 := Lib.hid (hQ.out)
      obtain ⟨nF9, hnF9⟩ : ∃ n, n = k := ⟨_, rfl⟩
      rw [← hnF9] at HO1
      clear hgo hQ hnF9
      rcases hno with h1 | ⟨h1, h2⟩
      · skip
        go_wp2_with fail
        go_loopg [5] 3 (fun gk v wr => ∃ (k : Nat) (vT : Value) (ts : List Value), v = .int .i64 k ∧ k ≤ 3 ∧ gk = 3 - k ∧ Hid (OS wA wr wA.heap.size b3 nF9 k 12 m.w m.h m.l vF (.slice Au NU cu) vT fs ts))
        case atStart => exact ⟨0, _, _, rfl, by omega, rfl, HO1.out⟩
        clear HO1
        case round =>
          obtain ⟨k, vT, ts, rfl, hk3, rfl, hQ⟩ := hrel
          obtain ⟨w0, rfl⟩ : ∃ w0 : World, w0 = wr := ⟨_, rfl⟩
          have hx0 : Ext wA w0 := hQ.out.ext
          by_cases hgo : k < m.tasks.length ∧ k < 3
          · obtain ⟨hk1, hk2⟩ := hgo
            have hd1 : decide ((k : Int) < (m.tasks.length : Int)) = true := decide_eq_true (by omega)
            have hd2 : decide (k < m.tasks.length) = true := decide_eq_true hk1
            have hd3 : decide ((k : Int) < 3) = true := decide_eq_true (by omega)
            have hd4 : decide (k < 3) = true := decide_eq_true hk2
            obtain ⟨bt, off, sn, u1, u2, rfl, -, t0, t1, t2, hi1, hi2⟩ := tasksAt HTS.out hk1
            obtain ⟨L1, hL1⟩ : ∃ L1, L1 = m.tasks[k].1 := ⟨_, rfl⟩
            obtain ⟨L2, hL2⟩ : ∃ L2, L2 = m.tasks[k].2 := ⟨_, rfl⟩
            rw [← hL1] at hi1
            rw [← hL2] at hi2
            have hi10 := hi1
            have hi20 := hi2
            obtain ⟨A1, c1, rfl, hc1, -⟩ := hi10
            obtain ⟨A2, c2, rfl, hc2, -⟩ := hi20
            obtain ⟨N1, hN1, hN11, hN12⟩ := min6 L1.length
            obtain ⟨N2, hN2, hN21, hN22⟩ := min6 L2.length
            have qt0 : ∀ W, Ext wA W → W.cell? ⟨bt, off + k * 3, none⟩ = some (.string sn) := fun W h => Ext.rule t0 W (HEA.out.trans h)
            have qt1 : ∀ W, Ext wA W → W.cell? ⟨bt, off + k * 3 + 1, none⟩ = some (.slice A1 L1.length c1) := fun W h => Ext.rule t1 W (HEA.out.trans h)
            have qt2 : ∀ W, Ext wA W → W.cell? ⟨bt, off + k * 3 + 2, none⟩ = some (.slice A2 L2.length c2) := fun W h => Ext.rule t2 W (HEA.out.trans h)
            have hkk0 : (0 : Int) ≤ (k : Int) ∧ (k : Int) < (m.tasks.length : Int) := by omega
            have HIA1 : Hid (Ints wA (fun b => b + 1 < wA.heap.size) (.slice A1 N1 c1) (L1.take N1)) := ((ints_take hi1 hN11).weaken fun b hb => by have := hb.2; have := HBS.out; show b + 1 < wA.heap.size; omega).below HEA.out
            have HIA2 : Hid (Ints wA (fun b => b + 1 < wA.heap.size) (.slice A2 N2 c2) (L2.take N2)) := ((ints_take hi2 hN21).weaken fun b hb => by have := hb.2; have := HBS.out; show b + 1 < wA.heap.size; omega).below HEA.out
            have HTL : Hid ((L1.take N1).length ≤ 12 ∧ (L2.take N2).length ≤ 12) := ⟨by rw [List.length_take]; omega, by rw [List.length_take]; omega⟩
            clear t0 t1 t2 hi1 hi2 hL1 hL2 hk1
            go_upto_region 10 with fail
            obtain ⟨b6, hb6⟩ : ∃ b6, b6 = w0.heap.size := ⟨_, rfl⟩
            rw [← hb6]
            have hb6B : Blk (w0.alloc (.cells #[.string sn, .slice A1 L1.length c1, .slice A2 L2.length c2] 75)) b6 75 #[.string sn, .slice A1 L1.length c1, .slice A2 L2.length c2] := Blk.new _ _ _ hb6
            have hOq0 := hQ.out.grow ((Ext.refl w0).alloc (.cells #[.string sn, .slice A1 L1.length c1, .slice A2 L2.length c2] 75))
            have HT6 : Hid (vT.ownBlock ≠ some b6) := fun e => by have := (hQ.out.T.lt b6 e).2; omega
            have hne63 : b6 ≠ b3 := by have := lt_of_some hQ.out.blk; omega
            generalize w0.alloc (.cells #[.string sn, .slice A1 L1.length c1, .slice A2 L2.length c2] 75) = wq at *
            have HB6 : Hid (Blk wq b6 75 #[.string sn, .slice A1 L1.length c1, .slice A2 L2.length c2]) := hb6B
            have HOQ : Hid (OS wA wq.drew wA.heap.size b3 nF9 k 12 m.w m.h m.l vF (.slice Au NU cu) vT fs ts) := hOq0.grow (Ext.refl wq).drew
            have hxq : Ext wA wq := hOq0.ext
            have HTK1 : Hid (TI wq.drew wA.heap.size 12 (.slice A1 N1 c1)) := ⟨_, HTL.out.1, .inl (HIA1.out.below hxq.drew)⟩
            have HTK2 : Hid (TI wq.drew wA.heap.size 12 (.slice A2 N2 c2)) := ⟨_, HTL.out.2, .inl (HIA2.out.below hxq.drew)⟩
            have hs1 : ∀ W, (Instr.slice 24 (.slice A1 L1.length c1) none (some (.int .i64 (N1 : Int))) none).run Try.prog W = .ok (.slice A1 N1 c1) W := slice_high 24 3 Try.underlying24 1 (by kernel_rfl) A1 L1.length c1 N1 (by omega)
            have hs12 : ∀ W, (Instr.sliceAt 24 (.slice A1 L1.length c1) none (some (.int .i64 (N1 : Int))) none).run Try.prog W = .ok (.slice A1 N1 c1) W := fun W => by
              rw [run_sliceAt_slice W _ _ _ _ _ Try.underlying24]; exact hs1 W
            have hs2 : ∀ W, (Instr.slice 24 (.slice A2 L2.length c2) none (some (.int .i64 (N2 : Int))) none).run Try.prog W = .ok (.slice A2 N2 c2) W := slice_high 24 3 Try.underlying24 1 (by kernel_rfl) A2 L2.length c2 N2 (by omega)
            have hs22 : ∀ W, (Instr.sliceAt 24 (.slice A2 L2.length c2) none (some (.int .i64 (N2 : Int))) none).run Try.prog W = .ok (.slice A2 N2 c2) W := fun W => by
              rw [run_sliceAt_slice W _ _ _ _ _ Try.underlying24]; exact hs2 W
            have hr61 : ∀ W, Blk W b6 75 #[.string sn, .slice A1 L1.length c1, .slice A2 L2.length c2] → W.cell? ⟨b6, 1, none⟩ = some (.slice A1 L1.length c1) := fun W h => h.cell (k := 1) rfl
            have hr62 : ∀ W, Blk W b6 75 #[.string sn, .slice A1 L1.length c1, .slice A2 L2.length c2] → W.cell? ⟨b6, 2, none⟩ = some (.slice A2 L2.length c2) := fun W h => h.cell (k := 2) rfl
            obtain ⟨AF2, cF2, hvT, -, -⟩ := Row.of_own hOq0.T
            have c3 : wq.cell? ⟨b3, 5, none⟩ = some vT := hOq0.blk.cell (k := 5) rfl
            subst hvT
            have hf3 : wq.frozen? ⟨b3, 5, none⟩ = false := hOq0.blk.frozen 5
            clear hb6B hOq0 hb6 qt0 qt1 qt2
            go_wp2_with fail
            refine wp_region_held_drew (S := fun W => Ext wA W ∧ Blk W b6 75 #[.string sn, .slice A1 L1.length c1, .slice A2 L2.length c2]) mixedA (⟨hxq.drew, HB6.out⟩) (fun hHeld => ?_)
            refine wpAnyH_take (i := 0) (v := ?v31) rfl (by kernel_rfl) (by kernel_rfl) (by kernel_rfl) (fun _ _ _ h => h) (Or.inl ⟨?w31, ?y31⟩) hHeld ?r31
            case w31 => rfl
            case y31 => (intro w hSw; go_simp; try with_reducible rfl)
            simp only [List.getElem_toArray, List.getElem_cons_zero, Act.put, List.setIfInBounds_toArray, List.set_cons_zero, List.set_cons_succ]
            refine wpAnyH_take (i := 2) (v := ?v32) rfl (by kernel_rfl) (by kernel_rfl) (by kernel_rfl) (fun _ _ _ h => h) (Or.inl ⟨?w32, ?y32⟩) hHeld ?r32
            case w32 => rfl
            case y32 => (intro w hSw; go_simp; try with_reducible rfl)
            simp only [List.getElem_toArray, List.getElem_cons_succ, List.getElem_cons_zero, Act.put, List.setIfInBounds_toArray, List.set_cons_zero, List.set_cons_succ]
            refine wpAnyH_take (i := 3) (v := ?v33) rfl (by kernel_rfl) (by kernel_rfl) (by kernel_rfl) (fun _ _ _ h => h) (Or.inl ⟨?w33, ?y33⟩) hHeld ?r33
            case w33 => rfl
            case y33 => (intro w hSw; go_simp; try with_reducible rfl)
            simp only [List.getElem_toArray, List.getElem_cons_succ, List.getElem_cons_zero, Act.put, List.setIfInBounds_toArray, List.set_cons_zero, List.set_cons_succ]
            refine wpAnyH_take (i := 4) (v := ?v34) rfl (by kernel_rfl) (by kernel_rfl) (by kernel_rfl) (fun _ _ _ h => h) (Or.inl ⟨?w34, ?y34⟩) hHeld ?r34
            case w34 => rfl
            case y34 => (intro w hSw; go_simp; try with_reducible rfl)
            simp only [List.getElem_toArray, List.getElem_cons_succ, List.getElem_cons_zero, Act.put, List.setIfInBounds_toArray, List.set_cons_zero, List.set_cons_succ]
            refine wpAnyH_take (i := 5) (v := ?v35) rfl (by kernel_rfl) (by kernel_rfl) (by kernel_rfl) (fun _ _ _ h => h) (Or.inl ⟨?w35, ?y35⟩) hHeld ?r35
            case w35 => rfl
            case y35 => (intro w hSw; go_simp; try with_reducible rfl)
            simp only [List.getElem_toArray, List.getElem_cons_succ, List.getElem_cons_zero, Act.put, List.setIfInBounds_toArray, List.set_cons_zero, List.set_cons_succ]
            refine wpAnyH_take (i := 6) (v := ?v36) rfl (by kernel_rfl) (by kernel_rfl) (by kernel_rfl) (fun _ _ _ h => h) (Or.inl ⟨?w36, ?y36⟩) hHeld ?r36
            case w36 => rfl
            case y36 => (intro w hSw; go_simp; try with_reducible rfl)
            simp only [List.getElem_toArray, List.getElem_cons_succ, List.getElem_cons_zero, Act.put, List.setIfInBounds_toArray, List.set_cons_zero, List.set_cons_succ]
            refine wpAnyH_take (i := 7) (v := ?v37) rfl (by kernel_rfl) (by kernel_rfl) (by kernel_rfl) (fun _ _ _ h => h) (Or.inl ⟨?w37, ?y37⟩) hHeld ?r37
            case w37 => rfl
            case y37 => (intro w hSw; go_simp; try with_reducible rfl)
            simp only [List.getElem_toArray, List.getElem_cons_succ, List.getElem_cons_zero, Act.put, List.setIfInBounds_toArray, List.set_cons_zero, List.set_cons_succ]
            refine wpAnyH_take (i := 8) (v := ?v38) rfl (by kernel_rfl) (by kernel_rfl) (by kernel_rfl) (fun _ _ _ h => h) (Or.inl ⟨?w38, ?y38⟩) hHeld ?r38
            case w38 => rfl
            case y38 => (intro w hSw; go_simp; try with_reducible rfl)
            simp only [List.getElem_toArray, List.getElem_cons_succ, List.getElem_cons_zero, Act.put, List.setIfInBounds_toArray, List.set_cons_zero, List.set_cons_succ]
            refine wpAnyH_take (i := 9) (v := ?v39) rfl (by kernel_rfl) (by kernel_rfl) (by kernel_rfl) (fun _ _ _ h => h) (Or.inl ⟨?w39, ?y39⟩) hHeld ?r39
            case w39 => rfl
            case y39 => (intro w hSw; go_simp; try with_reducible rfl)
            simp only [List.getElem_toArray, List.getElem_cons_succ, List.getElem_cons_zero, Act.put, List.setIfInBounds_toArray, List.set_cons_zero, List.set_cons_succ]
            refine wpAnyH_take (i := 10) (v := ?v40) rfl (by kernel_rfl) (by kernel_rfl) (by kernel_rfl) (fun _ _ _ h => h) (Or.inl ⟨?w40, ?y40⟩) hHeld ?r40
            case w40 => rfl
            case y40 => (intro w hSw; go_simp; try with_reducible rfl)
            simp only [List.getElem_toArray, List.getElem_cons_succ, List.getElem_cons_zero, Act.put, List.setIfInBounds_toArray, List.set_cons_zero, List.set_cons_succ]
            refine wpAnyH_take (i := 11) (v := ?v41) rfl (by kernel_rfl) (by kernel_rfl) (by kernel_rfl) (fun _ _ _ h => h) (Or.inl ⟨?w41, ?y41⟩) hHeld ?r41
            case w41 => rfl
            case y41 => (intro w hSw; go_simp; try with_reducible rfl)
            simp only [List.getElem_toArray, List.getElem_cons_succ, List.getElem_cons_zero, Act.put, List.setIfInBounds_toArray, List.set_cons_zero, List.set_cons_succ]
            refine wpAnyH_take (i := 12) (v := ?v42) rfl (by kernel_rfl) (by kernel_rfl) (by kernel_rfl) (fun _ _ _ h => h) (Or.inl ⟨?w42, ?y42⟩) hHeld ?r42
            case w42 => rfl
            case y42 => (intro w hSw; go_simp; try with_reducible rfl)
            simp only [List.getElem_toArray, List.getElem_cons_succ, List.getElem_cons_zero, Act.put, List.setIfInBounds_toArray, List.set_cons_zero, List.set_cons_succ]
            refine wpAnyH_take (i := 13) (v := ?v43) rfl (by kernel_rfl) (by kernel_rfl) (by kernel_rfl) (fun _ _ _ h => h) (Or.inl ⟨?w43, ?y43⟩) hHeld ?r43
            case w43 => rfl
            case y43 => (intro w hSw; go_simp; try with_reducible rfl)
            simp only [List.getElem_toArray, List.getElem_cons_succ, List.getElem_cons_zero, Act.put, List.setIfInBounds_toArray, List.set_cons_zero, List.set_cons_succ]
            refine wpAnyH_take (i := 14) (v := ?v44) rfl (by kernel_rfl) (by kernel_rfl) (by kernel_rfl) (fun _ _ _ h => h) (Or.inl ⟨?w44, ?y44⟩) hHeld ?r44
            case w44 => rfl
            case y44 => (intro w hSw; go_simp; try with_reducible rfl)
            simp only [List.getElem_toArray, List.getElem_cons_succ, List.getElem_cons_zero, Act.put, List.setIfInBounds_toArray, List.set_cons_zero, List.set_cons_succ]
            refine wpAnyH_take (i := 15) (v := ?v45) rfl (by kernel_rfl) (by kernel_rfl) (by kernel_rfl) (fun _ _ _ h => h) (Or.inl ⟨?w45, ?y45⟩) hHeld ?r45
            case w45 => rfl
            case y45 => (intro w hSw; go_simp; try with_reducible rfl)
            simp only [List.getElem_toArray, List.getElem_cons_succ, List.getElem_cons_zero, Act.put, List.setIfInBounds_toArray, List.set_cons_zero, List.set_cons_succ]
            refine wpAnyH_take (i := 16) (v := ?v46) rfl (by kernel_rfl) (by kernel_rfl) (by kernel_rfl) (fun _ _ _ h => h) (Or.inl ⟨?w46, ?y46⟩) hHeld ?r46
            case w46 => rfl
            case y46 => (intro w hSw; go_simp; try with_reducible rfl)
            simp only [List.getElem_toArray, List.getElem_cons_succ, List.getElem_cons_zero, Act.put, List.setIfInBounds_toArray, List.set_cons_zero, List.set_cons_succ]
            refine wpAnyH_ready (rs := [1, 17]) (by kernel_rfl) (by simp) ?_
            refine AllReadyH.cons rfl (fun K hK => ?_) ?_
            · have hcl : wq.cell? ⟨b3, 5, none⟩ = some (.slice AF2 k cF2) := c3
              go_simp
              clear hcl
              refine hK.out _ _ (hHeld) (fun hHeld => ?_)
              clear hK K
              try simp only [List.getElem_toArray, List.getElem_cons_succ, List.getElem_cons_zero, Act.put, List.setIfInBounds_toArray, List.set_cons_zero, List.set_cons_succ]
              refine wpAnyH_ready (rs := [17]) (by kernel_rfl) (by simp) ?_
              refine AllReadyH.cons rfl (fun K hK => ?_) AllReadyH.nil
              go_simp
              refine hK.out _ _ (⟨hHeld.1.alloc _, hHeld.2.alloc _⟩) (fun hHeld => ?_)
              clear hK K
              try simp only [List.getElem_toArray, List.getElem_cons_succ, List.getElem_cons_zero, Act.put, List.setIfInBounds_toArray, List.set_cons_zero, List.set_cons_succ]
              refine wpAnyH_ready (rs := [18]) (by kernel_rfl) (by simp) ?_
              refine AllReadyH.cons rfl (fun K hK => ?_) AllReadyH.nil
              refine step_append_row (ok := fun _ => True) rfl _ _ _ eTask rfl wA.heap.size k 1 ts [.string ⟨#[]⟩, .slice A1 N1 c1, .slice A2 N2 c2] _ _ rfl rfl ((HOQ.out.T).alloc _) (row3 wq.drew _ _ _ _) (by simp [Value.oneCell']) (Nat.le_trans HOQ.out.ext.size (by simp)) (by unfold maxLen; omega) (by omega) ?_
              intro vT9 w9 hoT hgT hvT
              clear hvT
              have hO9 := HOQ.out.addT hoT hgT (by omega) (fun w2 hk hs j hj => by
                have hlen : ts.length = k * 3 := HOQ.out.T.1
                rcases Nat.lt_or_ge j k with h1 | h1
                · obtain ⟨s, u1, u2, h2, h3, h4, h5, h6⟩ := HOQ.out.td.keep hk j h1
                  exact ⟨s, u1, u2, by rw [List.getElem?_append_left (by omega)]; exact h2, by rw [List.getElem?_append_left (by omega)]; exact h3, by rw [List.getElem?_append_left (by omega)]; exact h4, h5, h6⟩
                · obtain rfl : j = k := by omega
                  exact ⟨⟨#[]⟩, .slice A1 N1 c1, .slice A2 N2 c2, by rw [List.getElem?_append_right (by omega), show j * 3 - ts.length = 0 from by omega]; rfl, by rw [List.getElem?_append_right (by omega), show j * 3 + 1 - ts.length = 1 from by omega]; rfl, by rw [List.getElem?_append_right (by omega), show j * 3 + 2 - ts.length = 2 from by omega]; rfl, TI.keep HTK1.out hk, TI.keep HTK2.out hk⟩)
              have HO9 := Lib.hid hO9
              have hb3w : w9.heap[b3]? = wq.drew.heap[b3]? := (hgT.block b3 (by have := lt_of_some HOQ.out.blk; simp; exact Nat.lt_succ_of_lt this) (fun e => own_blk_ne HOQ.out.T HOQ.out.blk (by decide) e.symm)).trans (Below.heap_alloc _ _ _ (lt_of_some HOQ.out.blk))
              have hb6w : w9.heap[b6]? = wq.drew.heap[b6]? := (hgT.block b6 (by have := lt_of_some HB6.out; simp; exact Nat.lt_succ_of_lt this) (fun e => HT6.out e.symm)).trans (Below.heap_alloc _ _ _ (lt_of_some HB6.out))
              have c39 : w9.cell? ⟨b3, 5, none⟩ = some (.slice AF2 k cF2) := (World.cell?_of_block (a := ⟨b3, 5, none⟩) hb3w).trans c3
              have f39 : w9.frozen? ⟨b3, 5, none⟩ = false := (World.frozen?_of_block (a := ⟨b3, 5, none⟩) hb3w).trans hf3
              have hx9 : Ext wA w9 := (HOQ.out.ext.alloc _).grown hgT (Nat.le_trans HOQ.out.ext.size (by simp)) (fun k hk => (HOQ.out.T.lt k hk).1)
              have h69 : Blk w9 b6 75 #[.string sn, .slice A1 L1.length c1, .slice A2 L2.length c2] := hb6w.trans HB6.out
              obtain ⟨AF9, cF9, rfl, -⟩ := Row.of_own hoT
              have HSA : Hid (Ext wA w9 ∧ Blk w9 b6 75 #[.string sn, .slice A1 L1.length c1, .slice A2 L2.length c2]) := ⟨hx9, h69⟩
              clear hO9 hoT hgT hb3w hb6w hx9 h69
              refine hK.out _ _ (HSA.out) (fun hHeld => ?_)
              clear hK K
              try simp only [List.getElem_toArray, List.getElem_cons_succ, List.getElem_cons_zero, Act.put, List.setIfInBounds_toArray, List.set_cons_zero, List.set_cons_succ]
              refine wpAnyH_take (i := 19) (v := ?v47) rfl (by kernel_rfl) (by kernel_rfl) (by kernel_rfl) (fun _ _ _ h => h) (Or.inl ⟨?w47, ?y47⟩) hHeld ?r47
              case w47 => rfl
              case y47 => (intro w hSw; go_simp; try with_reducible rfl)
              simp only [List.getElem_toArray, List.getElem_cons_succ, List.getElem_cons_zero, Act.put, List.setIfInBounds_toArray, List.set_cons_zero, List.set_cons_succ]
              refine wpAnyH_ready (rs := [20]) (by kernel_rfl) (by simp) ?_
              refine AllReadyH.cons rfl (fun K hK => ?_) AllReadyH.nil
              go_simp
              refine hK.out _ _ (⟨HSA.out.1.setCell (p := ⟨b3, 5, none⟩) (show wA.heap.size ≤ b3 from HO9.out.h5) _, (Below.heap_setCell w9 ⟨b3, 5, none⟩ _ b6 hne63).trans HSA.out.2⟩) (fun hHeld => ?_)
              clear hK K
              try simp only [List.getElem_toArray, List.getElem_cons_succ, List.getElem_cons_zero, Act.put, List.setIfInBounds_toArray, List.set_cons_zero, List.set_cons_succ]
              refine wpAnyH_done (by kernel_rfl) ?_ _
              clear hHeld c39 f39 c3 hf3
              go_wp2_with fail
              go_roundg (3 - (k + 1))
              case measure => omega
              case rel => exact ⟨k + 1, _, _, by go_num, by omega, rfl, HO9.out⟩
            refine AllReadyH.cons rfl (fun K hK => ?_) ?_
            · go_simp
              refine hK.out _ _ (⟨hHeld.1.alloc _, hHeld.2.alloc _⟩) (fun hHeld => ?_)
              clear hK K
              try simp only [List.getElem_toArray, List.getElem_cons_succ, List.getElem_cons_zero, Act.put, List.setIfInBounds_toArray, List.set_cons_zero, List.set_cons_succ]
              refine wpAnyH_ready (rs := [1]) (by kernel_rfl) (by simp) ?_
              refine AllReadyH.cons rfl (fun K hK => ?_) AllReadyH.nil
              have hcl : (wq.alloc (.cells #[.string ⟨#[]⟩, .slice A1 N1 c1, .slice A2 N2 c2] 75)).cell? ⟨b3, 5, none⟩ = some (.slice AF2 k cF2) := Ext.cell c3 ((Ext.refl wq).alloc _)
              go_simp
              clear hcl
              refine hK.out _ _ (hHeld) (fun hHeld => ?_)
              clear hK K
              try simp only [List.getElem_toArray, List.getElem_cons_succ, List.getElem_cons_zero, Act.put, List.setIfInBounds_toArray, List.set_cons_zero, List.set_cons_succ]
              refine wpAnyH_ready (rs := [18]) (by kernel_rfl) (by simp) ?_
              refine AllReadyH.cons rfl (fun K hK => ?_) AllReadyH.nil
              refine step_append_row (ok := fun _ => True) rfl _ _ _ eTask rfl wA.heap.size k 1 ts [.string ⟨#[]⟩, .slice A1 N1 c1, .slice A2 N2 c2] _ _ rfl rfl ((HOQ.out.T).alloc _) (row3 wq.drew _ _ _ _) (by simp [Value.oneCell']) (Nat.le_trans HOQ.out.ext.size (by simp)) (by unfold maxLen; omega) (by omega) ?_
              intro vT9 w9 hoT hgT hvT
              clear hvT
              have hO9 := HOQ.out.addT hoT hgT (by omega) (fun w2 hk hs j hj => by
                have hlen : ts.length = k * 3 := HOQ.out.T.1
                rcases Nat.lt_or_ge j k with h1 | h1
                · obtain ⟨s, u1, u2, h2, h3, h4, h5, h6⟩ := HOQ.out.td.keep hk j h1
                  exact ⟨s, u1, u2, by rw [List.getElem?_append_left (by omega)]; exact h2, by rw [List.getElem?_append_left (by omega)]; exact h3, by rw [List.getElem?_append_left (by omega)]; exact h4, h5, h6⟩
                · obtain rfl : j = k := by omega
                  exact ⟨⟨#[]⟩, .slice A1 N1 c1, .slice A2 N2 c2, by rw [List.getElem?_append_right (by omega), show j * 3 - ts.length = 0 from by omega]; rfl, by rw [List.getElem?_append_right (by omega), show j * 3 + 1 - ts.length = 1 from by omega]; rfl, by rw [List.getElem?_append_right (by omega), show j * 3 + 2 - ts.length = 2 from by omega]; rfl, TI.keep HTK1.out hk, TI.keep HTK2.out hk⟩)
              have HO9 := Lib.hid hO9
              have hb3w : w9.heap[b3]? = wq.drew.heap[b3]? := (hgT.block b3 (by have := lt_of_some HOQ.out.blk; simp; exact Nat.lt_succ_of_lt this) (fun e => own_blk_ne HOQ.out.T HOQ.out.blk (by decide) e.symm)).trans (Below.heap_alloc _ _ _ (lt_of_some HOQ.out.blk))
              have hb6w : w9.heap[b6]? = wq.drew.heap[b6]? := (hgT.block b6 (by have := lt_of_some HB6.out; simp; exact Nat.lt_succ_of_lt this) (fun e => HT6.out e.symm)).trans (Below.heap_alloc _ _ _ (lt_of_some HB6.out))
              have c39 : w9.cell? ⟨b3, 5, none⟩ = some (.slice AF2 k cF2) := (World.cell?_of_block (a := ⟨b3, 5, none⟩) hb3w).trans c3
              have f39 : w9.frozen? ⟨b3, 5, none⟩ = false := (World.frozen?_of_block (a := ⟨b3, 5, none⟩) hb3w).trans hf3
              have hx9 : Ext wA w9 := (HOQ.out.ext.alloc _).grown hgT (Nat.le_trans HOQ.out.ext.size (by simp)) (fun k hk => (HOQ.out.T.lt k hk).1)
              have h69 : Blk w9 b6 75 #[.string sn, .slice A1 L1.length c1, .slice A2 L2.length c2] := hb6w.trans HB6.out
              obtain ⟨AF9, cF9, rfl, -⟩ := Row.of_own hoT
              have HSA : Hid (Ext wA w9 ∧ Blk w9 b6 75 #[.string sn, .slice A1 L1.length c1, .slice A2 L2.length c2]) := ⟨hx9, h69⟩
              clear hO9 hoT hgT hb3w hb6w hx9 h69
              refine hK.out _ _ (HSA.out) (fun hHeld => ?_)
              clear hK K
              try simp only [List.getElem_toArray, List.getElem_cons_succ, List.getElem_cons_zero, Act.put, List.setIfInBounds_toArray, List.set_cons_zero, List.set_cons_succ]
              refine wpAnyH_take (i := 19) (v := ?v48) rfl (by kernel_rfl) (by kernel_rfl) (by kernel_rfl) (fun _ _ _ h => h) (Or.inl ⟨?w48, ?y48⟩) hHeld ?r48
              case w48 => rfl
              case y48 => (intro w hSw; go_simp; try with_reducible rfl)
              simp only [List.getElem_toArray, List.getElem_cons_succ, List.getElem_cons_zero, Act.put, List.setIfInBounds_toArray, List.set_cons_zero, List.set_cons_succ]
              refine wpAnyH_ready (rs := [20]) (by kernel_rfl) (by simp) ?_
              refine AllReadyH.cons rfl (fun K hK => ?_) AllReadyH.nil
              go_simp
              refine hK.out _ _ (⟨HSA.out.1.setCell (p := ⟨b3, 5, none⟩) (show wA.heap.size ≤ b3 from HO9.out.h5) _, (Below.heap_setCell w9 ⟨b3, 5, none⟩ _ b6 hne63).trans HSA.out.2⟩) (fun hHeld => ?_)
              clear hK K
              try simp only [List.getElem_toArray, List.getElem_cons_succ, List.getElem_cons_zero, Act.put, List.setIfInBounds_toArray, List.set_cons_zero, List.set_cons_succ]
              refine wpAnyH_done (by kernel_rfl) ?_ _
              clear hHeld c39 f39 c3 hf3
              go_wp2_with fail
              go_roundg (3 - (k + 1))
              case measure => omega
              case rel => exact ⟨k + 1, _, _, by go_num, by omega, rfl, HO9.out⟩
            exact AllReadyH.nil
          · have hno2 : decide (k < m.tasks.length) = false ∨ (decide (k < m.tasks.length) = true ∧ decide ((k : Int) < 3) = false) := by
              by_cases h1 : k < m.tasks.length
              · exact .inr ⟨decide_eq_true h1, decide_eq_false (by omega)⟩
              · exact .inl (decide_eq_false h1)
            have hfin : OdS wA w0 b3 9223372036854775808 9223372036854775808 12 := hQ.out.fin HDM.out.1 HDM.out.2.1 HDM.out.2.2
            have HFN := Lib.hid hfin
            clear hgo hQ hfin
            rcases hno2 with g1 | ⟨g1, g2⟩
            all_goals
              go_upto_region 11 with fail
              generalize w0 = wc at *
              have hfin := HFN.out
              obtain ⟨m', vF', vU', vT', hbk, hmz, hob, hext⟩ := hfin
              have HMZ := Lib.hid hmz
              have HOB' := Lib.hid hob
              have HEX := Lib.hid hext
              obtain ⟨f', u', t', e', ⟨_, ⟨A1, c1, rfl, -⟩, -⟩, ⟨A2, c2, rfl, -⟩, ⟨_, ⟨A3, c3, rfl, -⟩, -⟩⟩ := hmz
              injection e' with e'
              injection e' with e'
              simp only [List.cons.injEq, and_true, true_and] at e'
              obtain ⟨rfl, rfl, rfl⟩ := e'
              have m0 : wc.cell? ⟨b3, 0, none⟩ = some (.int .i64 m'.w) := hbk.cell (k := 0) rfl
              have m1 : wc.cell? ⟨b3, 1, none⟩ = some (.int .i64 m'.h) := hbk.cell (k := 1) rfl
              have m2 : wc.cell? ⟨b3, 2, none⟩ = some (.int .i64 m'.l) := hbk.cell (k := 2) rfl
              have m3 : wc.cell? ⟨b3, 3, none⟩ = some (.slice A1 m'.free.length c1) := hbk.cell (k := 3) rfl
              have m4 : wc.cell? ⟨b3, 4, none⟩ = some (.slice A2 m'.up.length c2) := hbk.cell (k := 4) rfl
              have m5 : wc.cell? ⟨b3, 5, none⟩ = some (.slice A3 m'.tasks.length c3) := hbk.cell (k := 5) rfl
              have hBZ : Blk wc b2 31 #[.int .i64 0, .int .i64 0, .int .i64 0, .slice none 0 0, .slice none 0 0, .slice none 0 0] := HB2.out.ext hext
              have z0 : wc.cell? ⟨b2, 0, none⟩ = some (.int .i64 0) := hBZ.cell (k := 0) rfl
              have z1 : wc.cell? ⟨b2, 1, none⟩ = some (.int .i64 0) := hBZ.cell (k := 1) rfl
              have z2 : wc.cell? ⟨b2, 2, none⟩ = some (.int .i64 0) := hBZ.cell (k := 2) rfl
              have z3 : wc.cell? ⟨b2, 3, none⟩ = some (.slice none 0 0) := hBZ.cell (k := 3) rfl
              have z4 : wc.cell? ⟨b2, 4, none⟩ = some (.slice none 0 0) := hBZ.cell (k := 4) rfl
              have z5 : wc.cell? ⟨b2, 5, none⟩ = some (.slice none 0 0) := hBZ.cell (k := 5) rfl
              have hfz : ∀ j, wc.frozen? ⟨b2, j, none⟩ = false := fun j => hBZ.frozen j
              have HBZ := Lib.hid hBZ
              clear hbk hob hext hBZ
              go_wp2_with fail
              refine case_fin (P := fun W => bodyPost Try.prog Try.f14 (CutPost w) Exit.ret _ W) (g2 := b2) ?_ HBZ.out
              intro WZ hbz hEb hk
              have y0 : WZ.cell? ⟨b2, 0, none⟩ = some (.int .i64 m'.w) := hbz.cell (k := 0) rfl
              have y1 : WZ.cell? ⟨b2, 1, none⟩ = some (.int .i64 m'.h) := hbz.cell (k := 1) rfl
              have y2 : WZ.cell? ⟨b2, 2, none⟩ = some (.int .i64 m'.l) := hbz.cell (k := 2) rfl
              have y3 : WZ.cell? ⟨b2, 3, none⟩ = some (.slice A1 m'.free.length c1) := hbz.cell (k := 3) rfl
              have y4 : WZ.cell? ⟨b2, 4, none⟩ = some (.slice A2 m'.up.length c2) := hbz.cell (k := 4) rfl
              have y5 : WZ.cell? ⟨b2, 5, none⟩ = some (.slice A3 m'.tasks.length c3) := hbz.cell (k := 5) rfl
              exact bodyPost_ret (v := .agg #[.int .i64 m'.w, .int .i64 m'.h, .int .i64 m'.l, .slice A1 m'.free.length c1, .slice A2 m'.up.length c2, .slice A3 m'.tasks.length c3]) (by simp [results, Try.results14, go_sem, y0, y1, y2, y3, y4, y5]) rfl
                ⟨_, m', rfl, Below.trans (HEA.out.trans HEX.out) (hEb.mono HBS.out.2.1), (HMZ.out.keep (w' := WZ) (fun b hb hlt => hk b hlt (by have := HBS.out.1; omega))).weaken (fun _ _ => trivial), HOB'.out.lens (by omega)⟩
      · skip
        go_wp2_with fail
        go_loopg [5] 3 (fun gk v wr => ∃ (k : Nat) (vT : Value) (ts : List Value), v = .int .i64 k ∧ k ≤ 3 ∧ gk = 3 - k ∧ Hid (OS wA wr wA.heap.size b3 nF9 k 12 m.w m.h m.l vF (.slice Au NU cu) vT fs ts))
        case atStart => exact ⟨0, _, _, rfl, by omega, rfl, HO1.out⟩
        clear HO1
        case round =>
          obtain ⟨k, vT, ts, rfl, hk3, rfl, hQ⟩ := hrel
          obtain ⟨w0, rfl⟩ : ∃ w0 : World, w0 = wr := ⟨_, rfl⟩
          have hx0 : Ext wA w0 := hQ.out.ext
          by_cases hgo : k < m.tasks.length ∧ k < 3
          · obtain ⟨hk1, hk2⟩ := hgo
            have hd1 : decide ((k : Int) < (m.tasks.length : Int)) = true := decide_eq_true (by omega)
            have hd2 : decide (k < m.tasks.length) = true := decide_eq_true hk1
            have hd3 : decide ((k : Int) < 3) = true := decide_eq_true (by omega)
            have hd4 : decide (k < 3) = true := decide_eq_true hk2
            obtain ⟨bt, off, sn, u1, u2, rfl, -, t0, t1, t2, hi1, hi2⟩ := tasksAt HTS.out hk1
            obtain ⟨L1, hL1⟩ : ∃ L1, L1 = m.tasks[k].1 := ⟨_, rfl⟩
            obtain ⟨L2, hL2⟩ : ∃ L2, L2 = m.tasks[k].2 := ⟨_, rfl⟩
            rw [← hL1] at hi1
            rw [← hL2] at hi2
            have hi10 := hi1
            have hi20 := hi2
            obtain ⟨A1, c1, rfl, hc1, -⟩ := hi10
            obtain ⟨A2, c2, rfl, hc2, -⟩ := hi20
            obtain ⟨N1, hN1, hN11, hN12⟩ := min6 L1.length
            obtain ⟨N2, hN2, hN21, hN22⟩ := min6 L2.length
            have qt0 : ∀ W, Ext wA W → W.cell? ⟨bt, off + k * 3, none⟩ = some (.string sn) := fun W h => Ext.rule t0 W (HEA.out.trans h)
            have qt1 : ∀ W, Ext wA W → W.cell? ⟨bt, off + k * 3 + 1, none⟩ = some (.slice A1 L1.length c1) := fun W h => Ext.rule t1 W (HEA.out.trans h)
            have qt2 : ∀ W, Ext wA W → W.cell? ⟨bt, off + k * 3 + 2, none⟩ = some (.slice A2 L2.length c2) := fun W h => Ext.rule t2 W (HEA.out.trans h)
            have hkk0 : (0 : Int) ≤ (k : Int) ∧ (k : Int) < (m.tasks.length : Int) := by omega
            have HIA1 : Hid (Ints wA (fun b => b + 1 < wA.heap.size) (.slice A1 N1 c1) (L1.take N1)) := ((ints_take hi1 hN11).weaken fun b hb => by have := hb.2; have := HBS.out; show b + 1 < wA.heap.size; omega).below HEA.out
            have HIA2 : Hid (Ints wA (fun b => b + 1 < wA.heap.size) (.slice A2 N2 c2) (L2.take N2)) := ((ints_take hi2 hN21).weaken fun b hb => by have := hb.2; have := HBS.out; show b + 1 < wA.heap.size; omega).below HEA.out
            have HTL : Hid ((L1.take N1).length ≤ 12 ∧ (L2.take N2).length ≤ 12) := ⟨by rw [List.length_take]; omega, by rw [List.length_take]; omega⟩
            clear t0 t1 t2 hi1 hi2 hL1 hL2 hk1
            go_upto_region 10 with fail
            obtain ⟨b6, hb6⟩ : ∃ b6, b6 = w0.heap.size := ⟨_, rfl⟩
            rw [← hb6]
            have hb6B : Blk (w0.alloc (.cells #[.string sn, .slice A1 L1.length c1, .slice A2 L2.length c2] 75)) b6 75 #[.string sn, .slice A1 L1.length c1, .slice A2 L2.length c2] := Blk.new _ _ _ hb6
            have hOq0 := hQ.out.grow ((Ext.refl w0).alloc (.cells #[.string sn, .slice A1 L1.length c1, .slice A2 L2.length c2] 75))
            have HT6 : Hid (vT.ownBlock ≠ some b6) := fun e => by have := (hQ.out.T.lt b6 e).2; omega
            have hne63 : b6 ≠ b3 := by have := lt_of_some hQ.out.blk; omega
            generalize w0.alloc (.cells #[.string sn, .slice A1 L1.length c1, .slice A2 L2.length c2] 75) = wq at *
            have HB6 : Hid (Blk wq b6 75 #[.string sn, .slice A1 L1.length c1, .slice A2 L2.length c2]) := hb6B
            have HOQ : Hid (OS wA wq.drew wA.heap.size b3 nF9 k 12 m.w m.h m.l vF (.slice Au NU cu) vT fs ts) := hOq0.grow (Ext.refl wq).drew
            have hxq : Ext wA wq := hOq0.ext
            have HTK1 : Hid (TI wq.drew wA.heap.size 12 (.slice A1 N1 c1)) := ⟨_, HTL.out.1, .inl (HIA1.out.below hxq.drew)⟩
            have HTK2 : Hid (TI wq.drew wA.heap.size 12 (.slice A2 N2 c2)) := ⟨_, HTL.out.2, .inl (HIA2.out.below hxq.drew)⟩
            have hs1 : ∀ W, (Instr.slice 24 (.slice A1 L1.length c1) none (some (.int .i64 (N1 : Int))) none).run Try.prog W = .ok (.slice A1 N1 c1) W := slice_high 24 3 Try.underlying24 1 (by kernel_rfl) A1 L1.length c1 N1 (by omega)
            have hs12 : ∀ W, (Instr.sliceAt 24 (.slice A1 L1.length c1) none (some (.int .i64 (N1 : Int))) none).run Try.prog W = .ok (.slice A1 N1 c1) W := fun W => by
              rw [run_sliceAt_slice W _ _ _ _ _ Try.underlying24]; exact hs1 W
            have hs2 : ∀ W, (Instr.slice 24 (.slice A2 L2.length c2) none (some (.int .i64 (N2 : Int))) none).run Try.prog W = .ok (.slice A2 N2 c2) W := slice_high 24 3 Try.underlying24 1 (by kernel_rfl) A2 L2.length c2 N2 (by omega)
            have hs22 : ∀ W, (Instr.sliceAt 24 (.slice A2 L2.length c2) none (some (.int .i64 (N2 : Int))) none).run Try.prog W = .ok (.slice A2 N2 c2) W := fun W => by
              rw [run_sliceAt_slice W _ _ _ _ _ Try.underlying24]; exact hs2 W
            have hr61 : ∀ W, Blk W b6 75 #[.string sn, .slice A1 L1.length c1, .slice A2 L2.length c2] → W.cell? ⟨b6, 1, none⟩ = some (.slice A1 L1.length c1) := fun W h => h.cell (k := 1) rfl
            have hr62 : ∀ W, Blk W b6 75 #[.string sn, .slice A1 L1.length c1, .slice A2 L2.length c2] → W.cell? ⟨b6, 2, none⟩ = some (.slice A2 L2.length c2) := fun W h => h.cell (k := 2) rfl
            obtain ⟨AF2, cF2, hvT, -, -⟩ := Row.of_own hOq0.T
            have c3 : wq.cell? ⟨b3, 5, none⟩ = some vT := hOq0.blk.cell (k := 5) rfl
            subst hvT
            have hf3 : wq.frozen? ⟨b3, 5, none⟩ = false := hOq0.blk.frozen 5
            clear hb6B hOq0 hb6 qt0 qt1 qt2
            go_wp2_with fail
            refine wp_region_held_drew (S := fun W => Ext wA W ∧ Blk W b6 75 #[.string sn, .slice A1 L1.length c1, .slice A2 L2.length c2]) mixedA (⟨hxq.drew, HB6.out⟩) (fun hHeld => ?_)
            refine wpAnyH_take (i := 0) (v := ?v49) rfl (by kernel_rfl) (by kernel_rfl) (by kernel_rfl) (fun _ _ _ h => h) (Or.inl ⟨?w49, ?y49⟩) hHeld ?r49
            case w49 => rfl
            case y49 => (intro w hSw; go_simp; try with_reducible rfl)
            simp only [List.getElem_toArray, List.getElem_cons_zero, Act.put, List.setIfInBounds_toArray, List.set_cons_zero, List.set_cons_succ]
            refine wpAnyH_take (i := 2) (v := ?v50) rfl (by kernel_rfl) (by kernel_rfl) (by kernel_rfl) (fun _ _ _ h => h) (Or.inl ⟨?w50, ?y50⟩) hHeld ?r50
            case w50 => rfl
            case y50 => (intro w hSw; go_simp; try with_reducible rfl)
            simp only [List.getElem_toArray, List.getElem_cons_succ, List.getElem_cons_zero, Act.put, List.setIfInBounds_toArray, List.set_cons_zero, List.set_cons_succ]
            refine wpAnyH_take (i := 3) (v := ?v51) rfl (by kernel_rfl) (by kernel_rfl) (by kernel_rfl) (fun _ _ _ h => h) (Or.inl ⟨?w51, ?y51⟩) hHeld ?r51
            case w51 => rfl
            case y51 => (intro w hSw; go_simp; try with_reducible rfl)
            simp only [List.getElem_toArray, List.getElem_cons_succ, List.getElem_cons_zero, Act.put, List.setIfInBounds_toArray, List.set_cons_zero, List.set_cons_succ]
            refine wpAnyH_take (i := 4) (v := ?v52) rfl (by kernel_rfl) (by kernel_rfl) (by kernel_rfl) (fun _ _ _ h => h) (Or.inl ⟨?w52, ?y52⟩) hHeld ?r52
            case w52 => rfl
            case y52 => (intro w hSw; go_simp; try with_reducible rfl)
            simp only [List.getElem_toArray, List.getElem_cons_succ, List.getElem_cons_zero, Act.put, List.setIfInBounds_toArray, List.set_cons_zero, List.set_cons_succ]
            refine wpAnyH_take (i := 5) (v := ?v53) rfl (by kernel_rfl) (by kernel_rfl) (by kernel_rfl) (fun _ _ _ h => h) (Or.inl ⟨?w53, ?y53⟩) hHeld ?r53
            case w53 => rfl
            case y53 => (intro w hSw; go_simp; try with_reducible rfl)
            simp only [List.getElem_toArray, List.getElem_cons_succ, List.getElem_cons_zero, Act.put, List.setIfInBounds_toArray, List.set_cons_zero, List.set_cons_succ]
            refine wpAnyH_take (i := 6) (v := ?v54) rfl (by kernel_rfl) (by kernel_rfl) (by kernel_rfl) (fun _ _ _ h => h) (Or.inl ⟨?w54, ?y54⟩) hHeld ?r54
            case w54 => rfl
            case y54 => (intro w hSw; go_simp; try with_reducible rfl)
            simp only [List.getElem_toArray, List.getElem_cons_succ, List.getElem_cons_zero, Act.put, List.setIfInBounds_toArray, List.set_cons_zero, List.set_cons_succ]
            refine wpAnyH_take (i := 7) (v := ?v55) rfl (by kernel_rfl) (by kernel_rfl) (by kernel_rfl) (fun _ _ _ h => h) (Or.inl ⟨?w55, ?y55⟩) hHeld ?r55
            case w55 => rfl
            case y55 => (intro w hSw; go_simp; try with_reducible rfl)
            simp only [List.getElem_toArray, List.getElem_cons_succ, List.getElem_cons_zero, Act.put, List.setIfInBounds_toArray, List.set_cons_zero, List.set_cons_succ]
            refine wpAnyH_take (i := 8) (v := ?v56) rfl (by kernel_rfl) (by kernel_rfl) (by kernel_rfl) (fun _ _ _ h => h) (Or.inl ⟨?w56, ?y56⟩) hHeld ?r56
            case w56 => rfl
            case y56 => (intro w hSw; go_simp; try with_reducible rfl)
            simp only [List.getElem_toArray, List.getElem_cons_succ, List.getElem_cons_zero, Act.put, List.setIfInBounds_toArray, List.set_cons_zero, List.set_cons_succ]
            refine wpAnyH_take (i := 9) (v := ?v57) rfl (by kernel_rfl) (by kernel_rfl) (by kernel_rfl) (fun _ _ _ h => h) (Or.inl ⟨?w57, ?y57⟩) hHeld ?r57
            case w57 => rfl
            case y57 => (intro w hSw; go_simp; try with_reducible rfl)
            simp only [List.getElem_toArray, List.getElem_cons_succ, List.getElem_cons_zero, Act.put, List.setIfInBounds_toArray, List.set_cons_zero, List.set_cons_succ]
            refine wpAnyH_take (i := 10) (v := ?v58) rfl (by kernel_rfl) (by kernel_rfl) (by kernel_rfl) (fun _ _ _ h => h) (Or.inl ⟨?w58, ?y58⟩) hHeld ?r58
            case w58 => rfl
            case y58 => (intro w hSw; go_simp; try with_reducible rfl)
            simp only [List.getElem_toArray, List.getElem_cons_succ, List.getElem_cons_zero, Act.put, List.setIfInBounds_toArray, List.set_cons_zero, List.set_cons_succ]
            refine wpAnyH_take (i := 11) (v := ?v59) rfl (by kernel_rfl) (by kernel_rfl) (by kernel_rfl) (fun _ _ _ h => h) (Or.inl ⟨?w59, ?y59⟩) hHeld ?r59
            case w59 => rfl
            case y59 => (intro w hSw; go_simp; try with_reducible rfl)
            simp only [List.getElem_toArray, List.getElem_cons_succ, List.getElem_cons_zero, Act.put, List.setIfInBounds_toArray, List.set_cons_zero, List.set_cons_succ]
            refine wpAnyH_take (i := 12) (v := ?v60) rfl (by kernel_rfl) (by kernel_rfl) (by kernel_rfl) (fun _ _ _ h => h) (Or.inl ⟨?w60, ?y60⟩) hHeld ?r60
            case w60 => rfl
            case y60 => (intro w hSw; go_simp; try with_reducible rfl)
            simp only [List.getElem_toArray, List.getElem_cons_succ, List.getElem_cons_zero, Act.put, List.setIfInBounds_toArray, List.set_cons_zero, List.set_cons_succ]
            refine wpAnyH_take (i := 13) (v := ?v61) rfl (by kernel_rfl) (by kernel_rfl) (by kernel_rfl) (fun _ _ _ h => h) (Or.inl ⟨?w61, ?y61⟩) hHeld ?r61
            case w61 => rfl
            case y61 => (intro w hSw; go_simp; try with_reducible rfl)
            simp only [List.getElem_toArray, List.getElem_cons_succ, List.getElem_cons_zero, Act.put, List.setIfInBounds_toArray, List.set_cons_zero, List.set_cons_succ]
            refine wpAnyH_take (i := 14) (v := ?v62) rfl (by kernel_rfl) (by kernel_rfl) (by kernel_rfl) (fun _ _ _ h => h) (Or.inl ⟨?w62, ?y62⟩) hHeld ?r62
            case w62 => rfl
            case y62 => (intro w hSw; go_simp; try with_reducible rfl)
            simp only [List.getElem_toArray, List.getElem_cons_succ, List.getElem_cons_zero, Act.put, List.setIfInBounds_toArray, List.set_cons_zero, List.set_cons_succ]
            refine wpAnyH_take (i := 15) (v := ?v63) rfl (by kernel_rfl) (by kernel_rfl) (by kernel_rfl) (fun _ _ _ h => h) (Or.inl ⟨?w63, ?y63⟩) hHeld ?r63
            case w63 => rfl
            case y63 => (intro w hSw; go_simp; try with_reducible rfl)
            simp only [List.getElem_toArray, List.getElem_cons_succ, List.getElem_cons_zero, Act.put, List.setIfInBounds_toArray, List.set_cons_zero, List.set_cons_succ]
            refine wpAnyH_take (i := 16) (v := ?v64) rfl (by kernel_rfl) (by kernel_rfl) (by kernel_rfl) (fun _ _ _ h => h) (Or.inl ⟨?w64, ?y64⟩) hHeld ?r64
            case w64 => rfl
            case y64 => (intro w hSw; go_simp; try with_reducible rfl)
            simp only [List.getElem_toArray, List.getElem_cons_succ, List.getElem_cons_zero, Act.put, List.setIfInBounds_toArray, List.set_cons_zero, List.set_cons_succ]
            refine wpAnyH_ready (rs := [1, 17]) (by kernel_rfl) (by simp) ?_
            refine AllReadyH.cons rfl (fun K hK => ?_) ?_
            · have hcl : wq.cell? ⟨b3, 5, none⟩ = some (.slice AF2 k cF2) := c3
              go_simp
              clear hcl
              refine hK.out _ _ (hHeld) (fun hHeld => ?_)
              clear hK K
              try simp only [List.getElem_toArray, List.getElem_cons_succ, List.getElem_cons_zero, Act.put, List.setIfInBounds_toArray, List.set_cons_zero, List.set_cons_succ]
              refine wpAnyH_ready (rs := [17]) (by kernel_rfl) (by simp) ?_
              refine AllReadyH.cons rfl (fun K hK => ?_) AllReadyH.nil
              go_simp
              refine hK.out _ _ (⟨hHeld.1.alloc _, hHeld.2.alloc _⟩) (fun hHeld => ?_)
              clear hK K
              try simp only [List.getElem_toArray, List.getElem_cons_succ, List.getElem_cons_zero, Act.put, List.setIfInBounds_toArray, List.set_cons_zero, List.set_cons_succ]
              refine wpAnyH_ready (rs := [18]) (by kernel_rfl) (by simp) ?_
              refine AllReadyH.cons rfl (fun K hK => ?_) AllReadyH.nil
              refine step_append_row (ok := fun _ => True) rfl _ _ _ eTask rfl wA.heap.size k 1 ts [.string ⟨#[]⟩, .slice A1 N1 c1, .slice A2 N2 c2] _ _ rfl rfl ((HOQ.out.T).alloc _) (row3 wq.drew _ _ _ _) (by simp [Value.oneCell']) (Nat.le_trans HOQ.out.ext.size (by simp)) (by unfold maxLen; omega) (by omega) ?_
              intro vT9 w9 hoT hgT hvT
              clear hvT
              have hO9 := HOQ.out.addT hoT hgT (by omega) (fun w2 hk hs j hj => by
                have hlen : ts.length = k * 3 := HOQ.out.T.1
                rcases Nat.lt_or_ge j k with h1 | h1
                · obtain ⟨s, u1, u2, h2, h3, h4, h5, h6⟩ := HOQ.out.td.keep hk j h1
                  exact ⟨s, u1, u2, by rw [List.getElem?_append_left (by omega)]; exact h2, by rw [List.getElem?_append_left (by omega)]; exact h3, by rw [List.getElem?_append_left (by omega)]; exact h4, h5, h6⟩
                · obtain rfl : j = k := by omega
                  exact ⟨⟨#[]⟩, .slice A1 N1 c1, .slice A2 N2 c2, by rw [List.getElem?_append_right (by omega), show j * 3 - ts.length = 0 from by omega]; rfl, by rw [List.getElem?_append_right (by omega), show j * 3 + 1 - ts.length = 1 from by omega]; rfl, by rw [List.getElem?_append_right (by omega), show j * 3 + 2 - ts.length = 2 from by omega]; rfl, TI.keep HTK1.out hk, TI.keep HTK2.out hk⟩)
              have HO9 := Lib.hid hO9
              have hb3w : w9.heap[b3]? = wq.drew.heap[b3]? := (hgT.block b3 (by have := lt_of_some HOQ.out.blk; simp; exact Nat.lt_succ_of_lt this) (fun e => own_blk_ne HOQ.out.T HOQ.out.blk (by decide) e.symm)).trans (Below.heap_alloc _ _ _ (lt_of_some HOQ.out.blk))
              have hb6w : w9.heap[b6]? = wq.drew.heap[b6]? := (hgT.block b6 (by have := lt_of_some HB6.out; simp; exact Nat.lt_succ_of_lt this) (fun e => HT6.out e.symm)).trans (Below.heap_alloc _ _ _ (lt_of_some HB6.out))
              have c39 : w9.cell? ⟨b3, 5, none⟩ = some (.slice AF2 k cF2) := (World.cell?_of_block (a := ⟨b3, 5, none⟩) hb3w).trans c3
              have f39 : w9.frozen? ⟨b3, 5, none⟩ = false := (World.frozen?_of_block (a := ⟨b3, 5, none⟩) hb3w).trans hf3
              have hx9 : Ext wA w9 := (HOQ.out.ext.alloc _).grown hgT (Nat.le_trans HOQ.out.ext.size (by simp)) (fun k hk => (HOQ.out.T.lt k hk).1)
              have h69 : Blk w9 b6 75 #[.string sn, .slice A1 L1.length c1, .slice A2 L2.length c2] := hb6w.trans HB6.out
              obtain ⟨AF9, cF9, rfl, -⟩ := Row.of_own hoT
              have HSA : Hid (Ext wA w9 ∧ Blk w9 b6 75 #[.string sn, .slice A1 L1.length c1, .slice A2 L2.length c2]) := ⟨hx9, h69⟩
              clear hO9 hoT hgT hb3w hb6w hx9 h69
              refine hK.out _ _ (HSA.out) (fun hHeld => ?_)
              clear hK K
              try simp only [List.getElem_toArray, List.getElem_cons_succ, List.getElem_cons_zero, Act.put, List.setIfInBounds_toArray, List.set_cons_zero, List.set_cons_succ]
              refine wpAnyH_take (i := 19) (v := ?v65) rfl (by kernel_rfl) (by kernel_rfl) (by kernel_rfl) (fun _ _ _ h => h) (Or.inl ⟨?w65, ?y65⟩) hHeld ?r65
              case w65 => rfl
              case y65 => (intro w hSw; go_simp; try with_reducible rfl)
              simp only [List.getElem_toArray, List.getElem_cons_succ, List.getElem_cons_zero, Act.put, List.setIfInBounds_toArray, List.set_cons_zero, List.set_cons_succ]
              refine wpAnyH_ready (rs := [20]) (by kernel_rfl) (by simp) ?_
              refine AllReadyH.cons rfl (fun K hK => ?_) AllReadyH.nil
              go_simp
              refine hK.out _ _ (⟨HSA.out.1.setCell (p := ⟨b3, 5, none⟩) (show wA.heap.size ≤ b3 from HO9.out.h5) _, (Below.heap_setCell w9 ⟨b3, 5, none⟩ _ b6 hne63).trans HSA.out.2⟩) (fun hHeld => ?_)
              clear hK K
              try simp only [List.getElem_toArray, List.getElem_cons_succ, List.getElem_cons_zero, Act.put, List.setIfInBounds_toArray, List.set_cons_zero, List.set_cons_succ]
              refine wpAnyH_done (by kernel_rfl) ?_ _
              clear hHeld c39 f39 c3 hf3
              go_wp2_with fail
              go_roundg (3 - (k + 1))
              case measure => omega
              case rel => exact ⟨k + 1, _, _, by go_num, by omega, rfl, HO9.out⟩
            refine AllReadyH.cons rfl (fun K hK => ?_) ?_
            · go_simp
              refine hK.out _ _ (⟨hHeld.1.alloc _, hHeld.2.alloc _⟩) (fun hHeld => ?_)
              clear hK K
              try simp only [List.getElem_toArray, List.getElem_cons_succ, List.getElem_cons_zero, Act.put, List.setIfInBounds_toArray, List.set_cons_zero, List.set_cons_succ]
              refine wpAnyH_ready (rs := [1]) (by kernel_rfl) (by simp) ?_
              refine AllReadyH.cons rfl (fun K hK => ?_) AllReadyH.nil
              have hcl : (wq.alloc (.cells #[.string ⟨#[]⟩, .slice A1 N1 c1, .slice A2 N2 c2] 75)).cell? ⟨b3, 5, none⟩ = some (.slice AF2 k cF2) := Ext.cell c3 ((Ext.refl wq).alloc _)
              go_simp
              clear hcl
              refine hK.out _ _ (hHeld) (fun hHeld => ?_)
              clear hK K
              try simp only [List.getElem_toArray, List.getElem_cons_succ, List.getElem_cons_zero, Act.put, List.setIfInBounds_toArray, List.set_cons_zero, List.set_cons_succ]
              refine wpAnyH_ready (rs := [18]) (by kernel_rfl) (by simp) ?_
              refine AllReadyH.cons rfl (fun K hK => ?_) AllReadyH.nil
              refine step_append_row (ok := fun _ => True) rfl _ _ _ eTask rfl wA.heap.size k 1 ts [.string ⟨#[]⟩, .slice A1 N1 c1, .slice A2 N2 c2] _ _ rfl rfl ((HOQ.out.T).alloc _) (row3 wq.drew _ _ _ _) (by simp [Value.oneCell']) (Nat.le_trans HOQ.out.ext.size (by simp)) (by unfold maxLen; omega) (by omega) ?_
              intro vT9 w9 hoT hgT hvT
              clear hvT
              have hO9 := HOQ.out.addT hoT hgT (by omega) (fun w2 hk hs j hj => by
                have hlen : ts.length = k * 3 := HOQ.out.T.1
                rcases Nat.lt_or_ge j k with h1 | h1
                · obtain ⟨s, u1, u2, h2, h3, h4, h5, h6⟩ := HOQ.out.td.keep hk j h1
                  exact ⟨s, u1, u2, by rw [List.getElem?_append_left (by omega)]; exact h2, by rw [List.getElem?_append_left (by omega)]; exact h3, by rw [List.getElem?_append_left (by omega)]; exact h4, h5, h6⟩
                · obtain rfl : j = k := by omega
                  exact ⟨⟨#[]⟩, .slice A1 N1 c1, .slice A2 N2 c2, by rw [List.getElem?_append_right (by omega), show j * 3 - ts.length = 0 from by omega]; rfl, by rw [List.getElem?_append_right (by omega), show j * 3 + 1 - ts.length = 1 from by omega]; rfl, by rw [List.getElem?_append_right (by omega), show j * 3 + 2 - ts.length = 2 from by omega]; rfl, TI.keep HTK1.out hk, TI.keep HTK2.out hk⟩)
              have HO9 := Lib.hid hO9
              have hb3w : w9.heap[b3]? = wq.drew.heap[b3]? := (hgT.block b3 (by have := lt_of_some HOQ.out.blk; simp; exact Nat.lt_succ_of_lt this) (fun e => own_blk_ne HOQ.out.T HOQ.out.blk (by decide) e.symm)).trans (Below.heap_alloc _ _ _ (lt_of_some HOQ.out.blk))
              have hb6w : w9.heap[b6]? = wq.drew.heap[b6]? := (hgT.block b6 (by have := lt_of_some HB6.out; simp; exact Nat.lt_succ_of_lt this) (fun e => HT6.out e.symm)).trans (Below.heap_alloc _ _ _ (lt_of_some HB6.out))
              have c39 : w9.cell? ⟨b3, 5, none⟩ = some (.slice AF2 k cF2) := (World.cell?_of_block (a := ⟨b3, 5, none⟩) hb3w).trans c3
              have f39 : w9.frozen? ⟨b3, 5, none⟩ = false := (World.frozen?_of_block (a := ⟨b3, 5, none⟩) hb3w).trans hf3
              have hx9 : Ext wA w9 := (HOQ.out.ext.alloc _).grown hgT (Nat.le_trans HOQ.out.ext.size (by simp)) (fun k hk => (HOQ.out.T.lt k hk).1)
              have h69 : Blk w9 b6 75 #[.string sn, .slice A1 L1.length c1, .slice A2 L2.length c2] := hb6w.trans HB6.out
              obtain ⟨AF9, cF9, rfl, -⟩ := Row.of_own hoT
              have HSA : Hid (Ext wA w9 ∧ Blk w9 b6 75 #[.string sn, .slice A1 L1.length c1, .slice A2 L2.length c2]) := ⟨hx9, h69⟩
              clear hO9 hoT hgT hb3w hb6w hx9 h69
              refine hK.out _ _ (HSA.out) (fun hHeld => ?_)
              clear hK K
              try simp only [List.getElem_toArray, List.getElem_cons_succ, List.getElem_cons_zero, Act.put, List.setIfInBounds_toArray, List.set_cons_zero, List.set_cons_succ]
              refine wpAnyH_take (i := 19) (v := ?v66) rfl (by kernel_rfl) (by kernel_rfl) (by kernel_rfl) (fun _ _ _ h => h) (Or.inl ⟨?w66, ?y66⟩) hHeld ?r66
              case w66 => rfl
              case y66 => (intro w hSw; go_simp; try with_reducible rfl)
              simp only [List.getElem_toArray, List.getElem_cons_succ, List.getElem_cons_zero, Act.put, List.setIfInBounds_toArray, List.set_cons_zero, List.set_cons_succ]
              refine wpAnyH_ready (rs := [20]) (by kernel_rfl) (by simp) ?_
              refine AllReadyH.cons rfl (fun K hK => ?_) AllReadyH.nil
              go_simp
              refine hK.out _ _ (⟨HSA.out.1.setCell (p := ⟨b3, 5, none⟩) (show wA.heap.size ≤ b3 from HO9.out.h5) _, (Below.heap_setCell w9 ⟨b3, 5, none⟩ _ b6 hne63).trans HSA.out.2⟩) (fun hHeld => ?_)
              clear hK K
              try simp only [List.getElem_toArray, List.getElem_cons_succ, List.getElem_cons_zero, Act.put, List.setIfInBounds_toArray, List.set_cons_zero, List.set_cons_succ]
              refine wpAnyH_done (by kernel_rfl) ?_ _
              clear hHeld c39 f39 c3 hf3
              go_wp2_with fail
              go_roundg (3 - (k + 1))
              case measure => omega
              case rel => exact ⟨k + 1, _, _, by go_num, by omega, rfl, HO9.out⟩
            exact AllReadyH.nil
          · have hno2 : decide (k < m.tasks.length) = false ∨ (decide (k < m.tasks.length) = true ∧ decide ((k : Int) < 3) = false) := by
              by_cases h1 : k < m.tasks.length
              · exact .inr ⟨decide_eq_true h1, decide_eq_false (by omega)⟩
              · exact .inl (decide_eq_false h1)
            have hfin : OdS wA w0 b3 9223372036854775808 9223372036854775808 12 := hQ.out.fin HDM.out.1 HDM.out.2.1 HDM.out.2.2
            have HFN := Lib.hid hfin
            clear hgo hQ hfin
            rcases hno2 with g1 | ⟨g1, g2⟩
            all_goals
              go_upto_region 11 with fail
              generalize w0 = wc at *
              have hfin := HFN.out
              obtain ⟨m', vF', vU', vT', hbk, hmz, hob, hext⟩ := hfin
              have HMZ := Lib.hid hmz
              have HOB' := Lib.hid hob
              have HEX := Lib.hid hext
              obtain ⟨f', u', t', e', ⟨_, ⟨A1, c1, rfl, -⟩, -⟩, ⟨A2, c2, rfl, -⟩, ⟨_, ⟨A3, c3, rfl, -⟩, -⟩⟩ := hmz
              injection e' with e'
              injection e' with e'
              simp only [List.cons.injEq, and_true, true_and] at e'
              obtain ⟨rfl, rfl, rfl⟩ := e'
              have m0 : wc.cell? ⟨b3, 0, none⟩ = some (.int .i64 m'.w) := hbk.cell (k := 0) rfl
              have m1 : wc.cell? ⟨b3, 1, none⟩ = some (.int .i64 m'.h) := hbk.cell (k := 1) rfl
              have m2 : wc.cell? ⟨b3, 2, none⟩ = some (.int .i64 m'.l) := hbk.cell (k := 2) rfl
              have m3 : wc.cell? ⟨b3, 3, none⟩ = some (.slice A1 m'.free.length c1) := hbk.cell (k := 3) rfl
              have m4 : wc.cell? ⟨b3, 4, none⟩ = some (.slice A2 m'.up.length c2) := hbk.cell (k := 4) rfl
              have m5 : wc.cell? ⟨b3, 5, none⟩ = some (.slice A3 m'.tasks.length c3) := hbk.cell (k := 5) rfl
              have hBZ : Blk wc b2 31 #[.int .i64 0, .int .i64 0, .int .i64 0, .slice none 0 0, .slice none 0 0, .slice none 0 0] := HB2.out.ext hext
              have z0 : wc.cell? ⟨b2, 0, none⟩ = some (.int .i64 0) := hBZ.cell (k := 0) rfl
              have z1 : wc.cell? ⟨b2, 1, none⟩ = some (.int .i64 0) := hBZ.cell (k := 1) rfl
              have z2 : wc.cell? ⟨b2, 2, none⟩ = some (.int .i64 0) := hBZ.cell (k := 2) rfl
              have z3 : wc.cell? ⟨b2, 3, none⟩ = some (.slice none 0 0) := hBZ.cell (k := 3) rfl
              have z4 : wc.cell? ⟨b2, 4, none⟩ = some (.slice none 0 0) := hBZ.cell (k := 4) rfl
              have z5 : wc.cell? ⟨b2, 5, none⟩ = some (.slice none 0 0) := hBZ.cell (k := 5) rfl
              have hfz : ∀ j, wc.frozen? ⟨b2, j, none⟩ = false := fun j => hBZ.frozen j
              have HBZ := Lib.hid hBZ
              clear hbk hob hext hBZ
              go_wp2_with fail
              refine case_fin (P := fun W => bodyPost Try.prog Try.f14 (CutPost w) Exit.ret _ W) (g2 := b2) ?_ HBZ.out
              intro WZ hbz hEb hk
              have y0 : WZ.cell? ⟨b2, 0, none⟩ = some (.int .i64 m'.w) := hbz.cell (k := 0) rfl
              have y1 : WZ.cell? ⟨b2, 1, none⟩ = some (.int .i64 m'.h) := hbz.cell (k := 1) rfl
              have y2 : WZ.cell? ⟨b2, 2, none⟩ = some (.int .i64 m'.l) := hbz.cell (k := 2) rfl
              have y3 : WZ.cell? ⟨b2, 3, none⟩ = some (.slice A1 m'.free.length c1) := hbz.cell (k := 3) rfl
              have y4 : WZ.cell? ⟨b2, 4, none⟩ = some (.slice A2 m'.up.length c2) := hbz.cell (k := 4) rfl
              have y5 : WZ.cell? ⟨b2, 5, none⟩ = some (.slice A3 m'.tasks.length c3) := hbz.cell (k := 5) rfl
              exact bodyPost_ret (v := .agg #[.int .i64 m'.w, .int .i64 m'.h, .int .i64 m'.l, .slice A1 m'.free.length c1, .slice A2 m'.up.length c2, .slice A3 m'.tasks.length c3]) (by simp [results, Try.results14, go_sem, y0, y1, y2, y3, y4, y5]) rfl
                ⟨_, m', rfl, Below.trans (HEA.out.trans HEX.out) (hEb.mono HBS.out.2.1), (HMZ.out.keep (w' := WZ) (fun b hb hlt => hk b hlt (by have := HBS.out.1; omega))).weaken (fun _ _ => trivial), HOB'.out.lens (by omega)⟩
end Go.Proofs.Ytgpjfpcjiebjiaa
