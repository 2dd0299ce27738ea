/- Walks: the reference's neighbours of a node. -/
import Derived.Test.YtgpjfpcjiebjiaaRtK
import Derived.Deep.DeepCutAuto
namespace Go.Proofs.Ytgpjfpcjiebjiaa
open Go.RowKit
set_option linter.unusedVariables false
set_option linter.unusedSimpArgs false

theorem ap_t {c : Bool} (h : c = true) (x : Int) (l : List Int) : ap c x l = l ++ [x] := by rw [h]; rfl
theorem ap_f {c : Bool} (h : c = false) (x : Int) (l : List Int) : ap c x l = l := by rw [h]; rfl

set_option maxHeartbeats 4000000 in
set_option maxRecDepth 100000 in
theorem qnext_calls {ok : Nat → Prop} {v : Value} (m : MZ) (node : Int) (w : World) (hm : MazeV w ok v m) (d : Dim m) (h0 : 0 ≤ node) (h1 : node < m.w * m.h * m.l) :
    Calls Try.prog 56 #[v, .int .i64 node] w fun e w' => ∃ v', e = .returned v' ∧ Below w.heap.size w w' ∧ w'.ownsRow w.heap.size 3 1 v' (nextL m node).length ((nextL m node).map (Value.int .i64)) := by
  obtain ⟨f, u, t, rfl, _, hu, _⟩ := hm
  obtain ⟨A, c, rfl, hcc, hur⟩ := hu
  have hl := d.layer
  obtain ⟨hl1, hl2⟩ := hl
  obtain ⟨dw1, dw2, hh1, hh2, ll1, ll2, n1, hup⟩ := d
  obtain ⟨W, H, L, fr, up, ts⟩ := m
  simp only at *
  have HU := Lib.hid hur; clear hur
  have HUP := Lib.hid hup; clear hup
  go_enter Try.func56, Try.ntmps56
  have hq0 : 0 ≤ node / W := Int.ediv_nonneg h0 (by omega)
  have hq1 : node / W ≤ node := Int.ediv_le_self _ h0
  go_wp2_with fail
  go_quiet (fail)
  have hr0 : 0 ≤ node / W % H := Int.emod_nonneg _ (by omega)
  have hr1 : node / W % H < H := Int.emod_lt_of_pos _ (by omega)
  have hr2 : 0 ≤ node % W := Int.emod_nonneg _ (by omega)
  have hr3 : node % W < W := Int.emod_lt_of_pos _ (by omega)
  generalize hw1 : ((w.alloc (.cells #[.int .i64 W, .int .i64 H, .int .i64 L, f, .slice A up.length c, t] 31)).drewN nq) = w1
  have hb1 : Ext w w1 := by rw [← hw1]; exact ((Ext.refl w).alloc _).drewN _
  have hgm : Blk w1 w.heap.size 31 #[.int .i64 W, .int .i64 H, .int .i64 L, f, .slice A up.length c, t] := by rw [← hw1]; exact heap_alloc_new _ _
  have HU1 := Lib.hid (HU.out.keep (Same.of_below hb1) : RowA w1 ok 1 A up.length (up.map Value.bool))
  clear hw1 HU
  have HB1 := Lib.hid hb1; clear hb1
  obtain ⟨m0, m1, m2, m3, m4, m5⟩ := cells6 hgm
  have r0 := Ext.rule m0
  have r1 := Ext.rule m1
  have r2 := Ext.rule m2
  have r3 := Ext.rule m3
  have r4 := Ext.rule m4
  have r5 := Ext.rule m5
  clear m0 m1 m2 m3 m4 m5 hgm
  have ra := ext_allocs w1
  have hx : Ext w1 w1 := Ext.refl w1
  have HM := Lib.hid (Mk.nil w1)
  obtain ⟨c1, hc1⟩ : ∃ b, b = (decide (W * H ≤ node) && up.getD (node - W * H).toNat false) := ⟨_, rfl⟩
  obtain ⟨c2, hc2⟩ : ∃ b, b = (decide (node + W * H < W * H * L) && up.getD node.toNat false) := ⟨_, rfl⟩
  have HC1 := Lib.hid hc1; clear hc1
  have HC2 := Lib.hid hc2; clear hc2
  go_upto_region 5 with fail
  go_cut [36] (fun s wx => s = .bool c1 ∧ w1 = wx)
  case first =>
    by_cases hp : W * H ≤ node
    · have hi1 : (node - W * H).toNat < up.length := by have := HUP.out; omega
      obtain ⟨b, off, rfl, _, hc1⟩ := boolsAt HU1.out hi1 hi1
      have hcv : up[(node - W * H).toNat] = c1 := (HC1.out.trans (by simp [hp, hi1])).symm
      rw [hcv] at hc1
      have rc := Ext.rule hc1
      clear hc1 hcv
      go_wp2_with fail
      go_meet
      case rel => exact ⟨rfl, rfl⟩
    · have hcv : c1 = false := HC1.out.trans (by simp [hp])
      have HCV := Lib.hid hcv; clear hcv
      go_wp2_with fail
      go_meet
      case rel => exact ⟨by rw [HCV.out], rfl⟩
  case rest =>
  obtain ⟨rfl, rfl⟩ := hcut
  go_upto_if 36 with fail
  go_cut [5] (fun s wx => Hid (Mk w1 wx s (ap c1 (node - W * H) [])))
  case first =>
    obtain rfl | rfl : c1 = true ∨ c1 = false := by cases c1 <;> simp
    · skip
      have hz : w1.heap.size ≤ w1.heap.size := hx.size
      go_wp2_with (at_builtin; refine wpAppAt rfl _ _ rfl _ [] (node - W * H) w1.heap.size w1.heap.size 1 _ rfl rfl (HM.out.own.alloc _) ?d1 ?d2 ?d3 ?_)
      (try case d1 => simp)
      case d2 => (first | (simp; done) | (simp; omega) | omega)
      case d3 => exact Nat.le_trans (show [].length ≤ 0 from Nat.le_refl _) (by omega)
      intro v' wb hob hgb _
      have hM' := Lib.hid ((HM.out.alloc _).app hob hgb)
      clear hob hgb
      go_wp2_with fail
      go_meet
      case rel => exact hM'.out.cast (ap_t (by rfl) _ _)
    · skip
      go_wp2_with fail
      go_meet
      case rel => exact HM.out.cast (ap_f (by rfl) _ _)
  case rest =>
  have HM := hcut
  clear hcut
  have hx : Ext w1 wc := HM.out.ext
  have hl1 : (ap c1 (node - W * H) []).length ≤ 1 := Nat.le_trans (ap_len _ _ _) (Nat.succ_le_succ (Nat.zero_le _))
  obtain ⟨wp, rfl⟩ : ∃ wp : World, wp = wc := ⟨_, rfl⟩
  go_upto_if 44 with fail
  go_cut [5] (fun s wx => Hid (Mk w1 wx s (ap (decide (0 < node / W % H)) (node - W) (ap c1 (node - W * H) []))))
  case first =>
    by_cases hp : 0 < node / W % H
    · have HP := Lib.hid hp
      have hz : w1.heap.size ≤ wp.heap.size := hx.size
      go_wp2_with (at_builtin; refine wpAppAt rfl _ _ rfl _ (ap c1 (node - W * H) []) (node - W) w1.heap.size wp.heap.size 1 _ rfl rfl (HM.out.own.alloc _) ?d1 ?d2 ?d3 ?_)
      (try case d1 => simp)
      case d2 => (first | (simp; done) | (simp; omega) | omega)
      case d3 => exact Nat.le_trans (show (ap c1 (node - W * H) []).length ≤ 1 from hl1) (by omega)
      intro v' wb hob hgb _
      have hM' := Lib.hid ((HM.out.alloc _).app hob hgb)
      clear hob hgb
      go_wp2_with fail
      go_meet
      case rel => exact hM'.out.cast (ap_t (by exact decide_eq_true HP.out) _ _)
    · have HP := Lib.hid hp
      go_wp2_with fail
      go_meet
      case rel => exact HM.out.cast (ap_f (by exact decide_eq_false (by have := HP.out; omega)) _ _)
  case rest =>
  have HM := hcut
  clear hcut
  have hx : Ext w1 wc := HM.out.ext
  have hl2 : (ap (decide (0 < node / W % H)) (node - W) (ap c1 (node - W * H) [])).length ≤ 2 := Nat.le_trans (ap_len _ _ _) (Nat.succ_le_succ hl1)
  obtain ⟨wp, rfl⟩ : ∃ wp : World, wp = wc := ⟨_, rfl⟩
  go_upto_if 53 with fail
  go_cut [5] (fun s wx => Hid (Mk w1 wx s (ap (decide (0 < node % W)) (node - 1) (ap (decide (0 < node / W % H)) (node - W) (ap c1 (node - W * H) [])))))
  case first =>
    by_cases hp : 0 < node % W
    · have HP := Lib.hid hp
      have hz : w1.heap.size ≤ wp.heap.size := hx.size
      go_wp2_with (at_builtin; refine wpAppAt rfl _ _ rfl _ (ap (decide (0 < node / W % H)) (node - W) (ap c1 (node - W * H) [])) (node - 1) w1.heap.size wp.heap.size 1 _ rfl rfl (HM.out.own.alloc _) ?d1 ?d2 ?d3 ?_)
      (try case d1 => simp)
      case d2 => (first | (simp; done) | (simp; omega) | omega)
      case d3 => exact Nat.le_trans (show (ap (decide (0 < node / W % H)) (node - W) (ap c1 (node - W * H) [])).length ≤ 2 from hl2) (by omega)
      intro v' wb hob hgb _
      have hM' := Lib.hid ((HM.out.alloc _).app hob hgb)
      clear hob hgb
      go_wp2_with fail
      go_meet
      case rel => exact hM'.out.cast (ap_t (by exact decide_eq_true HP.out) _ _)
    · have HP := Lib.hid hp
      go_wp2_with fail
      go_meet
      case rel => exact HM.out.cast (ap_f (by exact decide_eq_false (by have := HP.out; omega)) _ _)
  case rest =>
  have HM := hcut
  clear hcut
  have hx : Ext w1 wc := HM.out.ext
  have hl3 : (ap (decide (0 < node % W)) (node - 1) (ap (decide (0 < node / W % H)) (node - W) (ap c1 (node - W * H) []))).length ≤ 3 := Nat.le_trans (ap_len _ _ _) (Nat.succ_le_succ hl2)
  obtain ⟨wp, rfl⟩ : ∃ wp : World, wp = wc := ⟨_, rfl⟩
  go_upto_if 63 with fail
  go_cut [5] (fun s wx => Hid (Mk w1 wx s (ap (decide (node % W + 1 < W)) (node + 1) (ap (decide (0 < node % W)) (node - 1) (ap (decide (0 < node / W % H)) (node - W) (ap c1 (node - W * H) []))))))
  case first =>
    by_cases hp : node % W + 1 < W
    · have HP := Lib.hid hp
      have hz : w1.heap.size ≤ wp.heap.size := hx.size
      go_wp2_with (at_builtin; refine wpAppAt rfl _ _ rfl _ (ap (decide (0 < node % W)) (node - 1) (ap (decide (0 < node / W % H)) (node - W) (ap c1 (node - W * H) []))) (node + 1) w1.heap.size wp.heap.size 1 _ rfl rfl (HM.out.own.alloc _) ?d1 ?d2 ?d3 ?_)
      (try case d1 => simp)
      case d2 => (first | (simp; done) | (simp; omega) | omega)
      case d3 => exact Nat.le_trans (show (ap (decide (0 < node % W)) (node - 1) (ap (decide (0 < node / W % H)) (node - W) (ap c1 (node - W * H) []))).length ≤ 3 from hl3) (by omega)
      intro v' wb hob hgb _
      have hM' := Lib.hid ((HM.out.alloc _).app hob hgb)
      clear hob hgb
      go_wp2_with fail
      go_meet
      case rel => exact hM'.out.cast (ap_t (by exact decide_eq_true HP.out) _ _)
    · have HP := Lib.hid hp
      go_wp2_with fail
      go_meet
      case rel => exact HM.out.cast (ap_f (by exact decide_eq_false (by have := HP.out; omega)) _ _)
  case rest =>
  have HM := hcut
  clear hcut
  have hx : Ext w1 wc := HM.out.ext
  have hl4 : (ap (decide (node % W + 1 < W)) (node + 1) (ap (decide (0 < node % W)) (node - 1) (ap (decide (0 < node / W % H)) (node - W) (ap c1 (node - W * H) [])))).length ≤ 4 := Nat.le_trans (ap_len _ _ _) (Nat.succ_le_succ hl3)
  obtain ⟨wp, rfl⟩ : ∃ wp : World, wp = wc := ⟨_, rfl⟩
  go_upto_if 73 with fail
  go_cut [5] (fun s wx => Hid (Mk w1 wx s (ap (decide (node / W % H + 1 < H)) (node + W) (ap (decide (node % W + 1 < W)) (node + 1) (ap (decide (0 < node % W)) (node - 1) (ap (decide (0 < node / W % H)) (node - W) (ap c1 (node - W * H) [])))))))
  case first =>
    by_cases hp : node / W % H + 1 < H
    · have HP := Lib.hid hp
      have hz : w1.heap.size ≤ wp.heap.size := hx.size
      go_wp2_with (at_builtin; refine wpAppAt rfl _ _ rfl _ (ap (decide (node % W + 1 < W)) (node + 1) (ap (decide (0 < node % W)) (node - 1) (ap (decide (0 < node / W % H)) (node - W) (ap c1 (node - W * H) [])))) (node + W) w1.heap.size wp.heap.size 1 _ rfl rfl (HM.out.own.alloc _) ?d1 ?d2 ?d3 ?_)
      (try case d1 => simp)
      case d2 => (first | (simp; done) | (simp; omega) | omega)
      case d3 => exact Nat.le_trans (show (ap (decide (node % W + 1 < W)) (node + 1) (ap (decide (0 < node % W)) (node - 1) (ap (decide (0 < node / W % H)) (node - W) (ap c1 (node - W * H) [])))).length ≤ 4 from hl4) (by omega)
      intro v' wb hob hgb _
      have hM' := Lib.hid ((HM.out.alloc _).app hob hgb)
      clear hob hgb
      go_wp2_with fail
      go_meet
      case rel => exact hM'.out.cast (ap_t (by exact decide_eq_true HP.out) _ _)
    · have HP := Lib.hid hp
      go_wp2_with fail
      go_meet
      case rel => exact HM.out.cast (ap_f (by exact decide_eq_false (by have := HP.out; omega)) _ _)
  case rest =>
  have HM := hcut
  clear hcut
  have hx : Ext w1 wc := HM.out.ext
  have hl5 : (ap (decide (node / W % H + 1 < H)) (node + W) (ap (decide (node % W + 1 < W)) (node + 1) (ap (decide (0 < node % W)) (node - 1) (ap (decide (0 < node / W % H)) (node - W) (ap c1 (node - W * H) []))))).length ≤ 5 := Nat.le_trans (ap_len _ _ _) (Nat.succ_le_succ hl4)
  obtain ⟨wp, rfl⟩ : ∃ wp : World, wp = wc := ⟨_, rfl⟩
  go_upto_region 15 with fail
  go_cut [93] (fun s wx => s = .bool c2 ∧ Hid (Ext wp wx))
  case first =>
    by_cases hp : node + W * H < W * H * L
    · have hi1 : node.toNat < up.length := by have := HUP.out; omega
      obtain ⟨b, off, rfl, _, hc1⟩ := boolsAt HU1.out hi1 hi1
      have hcv : up[node.toNat] = c2 := (HC2.out.trans (by simp [hp, hi1])).symm
      rw [hcv] at hc1
      have rc := Ext.rule hc1
      clear hc1 hcv
      go_wp2_with fail
      refine (qnodes_calls W H L _ _ _ _ (by omega) (by omega)).mono ?_
      rintro e kn ⟨rfl, hbn⟩
      have hx9 : Ext w1 kn := hx.trans hbn
      go_wp2_with fail
      go_meet
      case rel => exact ⟨rfl, hbn⟩
    · have hcv : c2 = false := HC2.out.trans (by simp [hp])
      have HCV := Lib.hid hcv; clear hcv
      go_wp2_with fail
      refine (qnodes_calls W H L _ _ _ _ (by omega) (by omega)).mono ?_
      rintro e kn ⟨rfl, hbn⟩
      have hx9 : Ext w1 kn := hx.trans hbn
      go_wp2_with fail
      go_meet
      case rel => exact ⟨by rw [HCV.out], hbn⟩
  case rest =>
  obtain ⟨rfl, hbn⟩ := hcut
  have HM := Lib.hid (HM.out.more hbn.out)
  have hx : Ext w1 wc := HM.out.ext
  obtain ⟨wp, rfl⟩ : ∃ wp : World, wp = wc := ⟨_, rfl⟩
  go_upto_if 93 with fail
  go_cut [5] (fun s wx => Hid (Mk w1 wx s (ap c2 (node + W * H) (ap (decide (node / W % H + 1 < H)) (node + W) (ap (decide (node % W + 1 < W)) (node + 1) (ap (decide (0 < node % W)) (node - 1) (ap (decide (0 < node / W % H)) (node - W) (ap c1 (node - W * H) []))))))))
  case first =>
    obtain rfl | rfl : c2 = true ∨ c2 = false := by cases c2 <;> simp
    · skip
      have hz : w1.heap.size ≤ wp.heap.size := hx.size
      go_wp2_with (at_builtin; refine wpAppAt rfl _ _ rfl _ (ap (decide (node / W % H + 1 < H)) (node + W) (ap (decide (node % W + 1 < W)) (node + 1) (ap (decide (0 < node % W)) (node - 1) (ap (decide (0 < node / W % H)) (node - W) (ap c1 (node - W * H) []))))) (node + W * H) w1.heap.size wp.heap.size 1 _ rfl rfl (HM.out.own.alloc _) ?d1 ?d2 ?d3 ?_)
      (try case d1 => simp)
      case d2 => (first | (simp; done) | (simp; omega) | omega)
      case d3 => exact Nat.le_trans (show (ap (decide (node / W % H + 1 < H)) (node + W) (ap (decide (node % W + 1 < W)) (node + 1) (ap (decide (0 < node % W)) (node - 1) (ap (decide (0 < node / W % H)) (node - W) (ap c1 (node - W * H) []))))).length ≤ 5 from hl5) (by omega)
      intro v' wb hob hgb _
      have hM' := Lib.hid ((HM.out.alloc _).app hob hgb)
      clear hob hgb
      go_wp2_with fail
      go_meet
      case rel => exact hM'.out.cast (ap_t (by rfl) _ _)
    · skip
      go_wp2_with fail
      go_meet
      case rel => exact HM.out.cast (ap_f (by rfl) _ _)
  case rest =>
  have HM := hcut
  clear hcut
  have hx : Ext w1 wc := HM.out.ext
  have hl6 : (ap c2 (node + W * H) (ap (decide (node / W % H + 1 < H)) (node + W) (ap (decide (node % W + 1 < W)) (node + 1) (ap (decide (0 < node % W)) (node - 1) (ap (decide (0 < node / W % H)) (node - W) (ap c1 (node - W * H) [])))))).length ≤ 6 := Nat.le_trans (ap_len _ _ _) (Nat.succ_le_succ hl5)
  obtain ⟨wp, rfl⟩ : ∃ wp : World, wp = wc := ⟨_, rfl⟩
  go_wp2_with fail
  go_ret
  refine ⟨_, rfl, below_tr HB1.out HM.out.ext (Nat.le_refl _), ?_⟩
  exact next_fin (HM.out.own.mono HB1.out.size) (next_eq ⟨W, H, L, fr, up, ts⟩ node c1 c2 HC1.out HC2.out)
end Go.Proofs.Ytgpjfpcjiebjiaa
