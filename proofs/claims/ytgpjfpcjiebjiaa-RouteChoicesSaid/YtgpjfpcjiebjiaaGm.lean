/- Walks: a step of the router. Walks: some steps of the router; what it has found. Walks: numbers drawn out of a list. -/
import Derived.Test.YtgpjfpcjiebjiaaGl
import Derived.Deep.LoopGhost
import Derived.StillTailTactics
import Derived.Test.YtgpjfpcjiebjiaaGg
import Derived.Deep.DeepCutAuto
namespace Go.Proofs.Ytgpjfpcjiebjiaa
open Go.RowKit
set_option linter.unusedVariables false
set_option linter.unusedSimpArgs false
attribute [local go_sem ↓] Go.wp_at_zero Go.wp_at_succ

theorem Try.infoPst : (Try.prog.info? 88).map (fun i => (i.zero, i.size, i.bytes)) = some (some (.pointer none), 1, 8) := by kernel_rfl

/-- The router while it searches: k nodes of the choices are left. -/
structure SR (w wr : World) (X Y : Nat → Prop) (g gr cap : Nat) (m : MZ) (s : RS) (pt : List Nat) (k : Nat) (b : Int) : Prop where
 rt : RtAt wr X Y g gr cap m ⟨s.ch.take k, s.done, s.steps + 1⟩ pt
 chg : Chg X w wr
 se : srch m s.ch k b = stepC m s.ch
/-- What a step leaves. -/
def StepPost (w : World) (X Y : Nat → Prop) (g : Nat) (m : MZ) (s : RS) (e : Ending) (w' : World) : Prop :=
 e = .returned (.tuple #[]) ∧ ∃ gr' cap' ptrs', RtAt w' X Y g gr' cap' m (s.one m) ptrs' ∧ Chg X w w'

theorem no_step {m : MZ} {ch l : List Int} {b : Int} {i : Nat} (h : ∀ n ∈ l.take i, ¬ (b < n ∧ openC m (ch ++ [n]) = true)) (hi : i < l.length) (h1 : ¬ (b < l[i] ∧ openC m (ch ++ [l[i]]) = true)) : ∀ n ∈ l.take (i + 1), ¬ (b < n ∧ openC m (ch ++ [n]) = true) := by
 intro n hn
 rcases (mem_take_succ hi n).1 hn with h2 | rfl
 ·exact h n h2
 ·exact h1
theorem aft_of {m : MZ} {ch l : List Int} {b n : Int} {i : Nat} (hl : l = cand m ch) (hi : i < l.length) (hn : n = l[i]) (h : ∀ n ∈ l.take i, ¬ (b < n ∧ openC m (ch ++ [n]) = true)) (h1 : b < n) (h2 : openC m (ch ++ [n]) = true) : aft m ch b = some n := by
 subst hl hn
 exact aft_at hi h h1 h2
theorem push_ok {w w3 w4 : World} {X Y : Nat → Prop} {g gr cap q : Nat} {m : MZ} {s : RS} {pt : List Nat} {c : List Int} (hq : StC w4 (fun b => (okR X Y g gr b ∧ b < w3.heap.size) ∨ w3.heap.size ≤ b) q m c) (hx : Ext w w3) (hr : RtAt w X Y g gr cap m s pt) (hXn : ∀ b, w.heap.size ≤ b → X b) : StC w4 (okR X Y g gr) q m c :=
 hq.weaken fun b hb => by
  rcases hb with hb | hb
  ·exact hb.1
  ·have h1 : g < w.heap.size := lt_of_some hr.blk
   have h2 : gr < w.heap.size := (hr.row.1.lt gr rfl).2
   have h3 := hx.size
   exact .inl ⟨hXn b (by omega), by omega, by omega⟩

set_option maxHeartbeats 4000000 in
set_option maxRecDepth 100000 in
theorem stepX_calls {X Y : Nat → Prop} {g gr cap : Nat} {m : MZ} {s : RS} {ptrs : List Nat} (w : World) (h : RtAt w X Y g gr cap m s ptrs) (gd : Good m) (hl : Lens m) (hc : IsCh m s.ch) (hs0 : 0 ≤ s.steps) (hs1 : s.steps ≤ 4000000000000000000)
  (hXn : ∀ b, w.heap.size ≤ b → X b) (hYb : ∀ b, Y b → b < w.heap.size) :
  Calls Try.prog 60 #[.pointer (some ⟨g, 0, none⟩)] w (StepPost w X Y g m s) := by
 obtain ⟨ch, dn, st⟩ := s
 dsimp only at hs0 hs1 hc
 have H := Lib.hid h
 have hc2 : w.cell? ⟨g, 2, none⟩ = some (.int .i64 st) := h.blk.cell (k := 2) rfl
 have hf := fun k => h.blk.frozen k
 have GD := Lib.hid gd
 have HL := Lib.hid hl
 have HC := Lib.hid hc
 have HXN := Lib.hid hXn
 have HYB := Lib.hid hYb
 have hlen := hc.len300 gd
 clear h gd hl hc hXn hYb
 have HS0 : Hid (SR w (w.setCell ⟨g, 2, none⟩ (.int .i64 (st + 1))) X Y g gr cap m ⟨ch, dn, st⟩ ptrs ch.length (-1)) := by
  refine ⟨?_, chg_setg w H.out.xg 2 _, srch_top m ch⟩
  have h1 := H.out.stepsTo (st + 1)
  dsimp only at h1 ⊢
  rw [List.take_length]
  exact h1
 obtain ⟨i0, hi, hz0, hz1, hz2⟩ := info_parts Try.infoPst
 have IF := Lib.hid hi
 have IZ0 := Lib.hid hz0
 have IZ1 := Lib.hid hz1
 have IZ2 := Lib.hid hz2
 clear hi hz0 hz1 hz2
 go_enter Try.func60, Try.ntmps60
 go_wp2_with fail
 go_step3
 go_wp2_with fail
 go_step3
 go_wp2_with fail
 clear hc2 hf
 go_loopg [2] ch.length (fun gk v wr => ∃ b pt, v = .int .i64 b ∧ gk ≤ ch.length ∧ Hid (SR w wr X Y g gr cap m ⟨ch, dn, st⟩ pt gk b))
 case atStart => exact ⟨-1, ptrs, rfl, Nat.le_refl _, HS0⟩
 clear HS0
 case round =>
  obtain ⟨b, pt, rfl, hk, hS⟩ := hrel
  obtain ⟨wo, rfl⟩ : ∃ wo : World, wo = wr := ⟨_, rfl⟩
  have hrt := hS.out.rt
  obtain ⟨p, hp, hst, hcp⟩ := hrt.row.last
  have hkl : (ch.take gk).length = gk := by rw [List.length_take]; omega
  have HLAST := Lib.hid (last_c (w' := wo) hrt hp (by dsimp only; rw [hkl]; omega))
  have HST := Lib.hid hst
  dsimp only at HST
  clear hrt hp hst hcp
  go_wp2_with fail
  refine HLAST.out.mono ?_
  rintro e w1 ⟨rfl, hd1⟩
  have hx1 : Ext wo w1 := hd1.below _
  clear hd1
  go_wp2_with fail
  refine (candidates_c _ (HST.out.ext hx1) GD.out HL.out (HC.out.take gk)).mono ?_
  rintro e w2 ⟨v2, rfl, hM2⟩
  obtain ⟨A2, c2, rfl, hc2⟩ := hM2.slice
  have hx2 : Ext wo w2 := hx1.trans hM2.ext
  have hlc : (cand m (ch.take gk)).length ≤ 400000000000 := cand_len HL.out _
  have HM2 := Lib.hid hM2; clear hM2 hx1
  obtain ⟨l, hll⟩ : ∃ l, l = cand m (ch.take gk) := ⟨_, rfl⟩
  rw [← hll] at HM2 hc2 hlc ⊢
  have HLL := Lib.hid hll; clear hll
  go_wp2_with fail
  go_loopg [19] l.length (fun gi v wz => ∃ i : Nat, v = .int .i64 i ∧ i ≤ l.length ∧ gi = l.length - i ∧ Hid (Ext w2 wz ∧ ∀ n ∈ l.take i, ¬ (b < n ∧ openC m (ch.take gk ++ [n]) = true)))
  case atStart => exact ⟨0, rfl, Nat.zero_le _, rfl, Ext.refl _, by simp⟩
  case round =>
   obtain ⟨i, rfl, hi, rfl, hZ⟩ := hrel
   have hz := hZ.out.1
   have hxz : Ext wo wr := hx2.trans hz
   rcases Nat.lt_or_ge i l.length with hlt | hge
   ·obtain ⟨bl, rfl, _, hcell⟩ := own_at HM2.out.own hlt
    obtain ⟨n, hn⟩ : ∃ n, n = l[i] := ⟨_, rfl⟩
    rw [← hn] at hcell
    have q0 := Ext.rule hcell
    have hnc : Hid (n ∈ cand m (ch.take gk)) := by
     show n ∈ _
     rw [← HLL.out, hn]; exact List.getElem_mem _
    have HN := Lib.hid hn
    clear hcell hn
    by_cases hnb : n ≤ b
    ·have hd : decide (n ≤ b) = true := decide_eq_true hnb
     have HNB := Lib.hid hnb; clear hnb
     go_wp2_with fail
     go_roundg (l.length - (i + 1))
     case measure => omega
     case rel => exact ⟨i + 1, by go_num, hlt, rfl, hZ.out.1, no_step hZ.out.2 hlt (fun h => by have := HNB.out; rw [← HN.out] at h; omega)⟩
    ·have hd : decide (n ≤ b) = false := decide_eq_false hnb
     have HNB := Lib.hid hnb; clear hnb
     go_wp2_with fail
     refine (with_c _ (HST.out.ext hxz) GD.out HL.out (HC.out.take gk) hnc.out).mono ?_
     rintro e w3 ⟨q, rfl, hx3, hq⟩
     have HQ := Lib.hid hq; clear hq
     go_wp2_with fail
     refine (open_c w3 HQ.out GD.out HL.out (.snoc (HC.out.take gk) hnc.out)).mono ?_
     rintro e w4 ⟨rfl, hx4⟩
     obtain ⟨ob, hob⟩ : ∃ ob, ob = openC m (ch.take gk ++ [n]) := ⟨_, rfl⟩
     rw [← hob]
     have HOB := Lib.hid hob; clear hob
     cases ob with
     | false =>
      have hz4 : Ext w2 w4 := hz.trans (hx3.trans hx4)
      clear hx3 hx4
      go_wp2_with fail
      go_roundg (l.length - (i + 1))
      case measure => omega
      case rel => exact ⟨i + 1, by go_num, hlt, rfl, hz4, no_step hZ.out.2 hlt (fun h => by rw [← HN.out, ← HOB.out] at h; exact absurd h.2 (by simp))⟩
     | true =>
      have hx4' : Ext wo w4 := hxz.trans (hx3.trans hx4)
      have HQ4 := Lib.hid (push_ok (HQ.out.ext hx4) hxz hS.out.rt (fun b hb => HXN.out b (Nat.le_trans hS.out.chg.size hb)))
      have hrt := hS.out.rt.ext hx4'
      have hc0 : w4.cell? ⟨g, 0, none⟩ = some (.slice (some ⟨gr, 0, none⟩) pt.length cap) := hrt.blk.cell (k := 0) rfl
      have hf := fun k => hrt.blk.frozen k
      have HRT := Lib.hid hrt; clear hrt
      have hptl : pt.length = gk + 1 := by have := HRT.out.row.2.1; dsimp only at this; omega
      have HPL := Lib.hid hptl
      have hmax : pt.length + 1 ≤ 1000 := by omega
      clear hx3 hx4 hz hxz hptl
      go_wp2_with (at_builtin; refine wpList_append_own_at _ rfl _ _ 85 rfl 0 88 i0 (.pointer none) 1 8 Try.underlying85 IF.out IZ0.out IZ1.out IZ2.out rfl (by decide) (.slice (some ⟨gr, 0, none⟩) pt.length cap) pt.length _ rfl (HRT.out.row.1.alloc _) ⟨w4.heap.size, 0, none⟩ 1 1 [ptrV q] rfl rfl (cell_one_new _ _ _) (by simp [ptrV, Value.oneCell']) (by unfold maxLen; omega) (by omega) (Nat.zero_le _) ?_)
      intro v' w5 hown hg _ hv'
      have hX4 : ∀ b, w4.heap.size ≤ b → X b := fun b hb => HXN.out b (Nat.le_trans hS.out.chg.size (Nat.le_trans hx4'.size hb))
      have hY4 : ∀ b, Y b → b < w4.heap.size := fun b hb => Nat.lt_of_lt_of_le (HYB.out b hb) (Nat.le_trans hS.out.chg.size hx4'.size)
      obtain ⟨gr', cap', rfl, hrt5, hch5⟩ := HRT.out.push HQ4.out hX4 hY4 hown hg hv'
      have hblk5 : w5.heap[g]? = w4.heap[g]? := (hg.block g (by have := lt_of_some HRT.out.blk; simp; omega) (fun e => HRT.out.ne (by injection e))).trans (Below.heap_alloc _ _ _ (lt_of_some HRT.out.blk))
      have hc5 : w5.cell? ⟨g, 0, none⟩ = some (.slice (some ⟨gr, 0, none⟩) pt.length cap) := (World.cell?_of_block hblk5).trans hc0
      have hf5 : w5.frozen? ⟨g, 0, none⟩ = false := (World.frozen?_of_block (a := ⟨g, 0, none⟩) hblk5).trans (hf 0)
      have HCH := Lib.hid ((hS.out.chg.ext_r hx4').tr hch5)
      have HRT5 := Lib.hid hrt5
      clear hown hg hv' hrt5 hch5 hc0 hf hblk5 hX4 hY4
      go_wp2_with fail
      clear hc5 hf5
      generalize w5.setCell ⟨g, 0, none⟩ (.slice (some ⟨gr', 0, none⟩) (pt.length + 1) cap') = w6 at *
      have hl5 : (ch.take gk ++ [n]).length = pt.length := by have := HPL.out; simp; omega
      have hq5 : (pt ++ [q])[(ch.take gk ++ [n]).length]? = some q := by rw [hl5]; simp
      have hst5 : StC w6 (okR X Y g gr') q m (ch.take gk ++ [n]) := by
       have := HRT5.out.row.2.2 _ q hq5
       rwa [List.take_length] at this
      refine (last_c (w' := w6) HRT5.out hq5 (by show (ch.take gk ++ [n]).length ≤ 1000; omega)).mono ?_
      rintro e w7 ⟨rfl, hd7⟩
      have hx7 : Ext w6 w7 := hd7.below _
      clear hd7 hl5 hq5
      go_wp2_with fail
      refine (complete_c w7 (hst5.ext hx7) GD.out HL.out (.snoc (HC.out.take gk) hnc.out)).mono ?_
      rintro e w8 ⟨rfl, hd8⟩
      have hx8 : Ext w6 w8 := hx7.trans (hd8.below _)
      clear hd8 hx7 hst5
      have hrt8 := HRT5.out.ext hx8
      have hc8 : w8.cell? ⟨g, 1, none⟩ = some (.bool dn) := hrt8.blk.cell (k := 1) rfl
      have hf8 : w8.frozen? ⟨g, 1, none⟩ = false := hrt8.blk.frozen 1
      have hfin : StepPost w X Y g m ⟨ch, dn, st⟩ (.returned (.tuple #[])) (w8.setCell ⟨g, 1, none⟩ (.bool (cmpC m (ch.take gk ++ [n])))) := by
       refine ⟨rfl, gr', cap', pt ++ [q], ?_, (HCH.out.ext_r hx8).tr (chg_setg _ HRT5.out.xg 1 _)⟩
       have h1 := hrt8.done (cmpC m (ch.take gk ++ [n]))
       have h2 : stepC m ch = some (ch.take gk ++ [n]) := by
        have h3 := hS.out.se
        dsimp only at h3
        rw [← h3]
        unfold srch
        rw [aft_of HLL.out hlt HN.out hZ.out.2 (by have := HNB.out; omega) HOB.out.symm]
       show RtAt _ X Y g gr' cap' m (RS.one m ⟨ch, dn, st⟩) _
       unfold RS.one
       dsimp only
       rw [h2]
       exact h1
      have HFIN := Lib.hid hfin
      clear hfin hrt8
      go_wp2_with fail
      try rw [Exit.noGoto_ret]
      refine bodyPost_ret (results_none rfl _ _ _) rfl ?_
      exact HFIN.out
   ·have hil : i = l.length := by omega
    subst hil
    have HAN : Hid (aft m (ch.take gk) b = none) := aft_none HLL.out (by have := hZ.out.2; rwa [List.take_length] at this)
    have hrt := hS.out.rt.ext hxz
    have hc0 : wr.cell? ⟨g, 0, none⟩ = some (.slice (some ⟨gr, 0, none⟩) pt.length cap) := hrt.blk.cell (k := 0) rfl
    have hc1 : wr.cell? ⟨g, 1, none⟩ = some (.bool dn) := hrt.blk.cell (k := 1) rfl
    have hf := fun k => hrt.blk.frozen k
    have hptl : pt.length = gk + 1 := by have := hrt.row.2.1; dsimp only at this; omega
    have hcap := own_cap hrt.row.1
    have HRT := Lib.hid hrt; clear hrt
    have HPL := Lib.hid hptl
    have HCG := Lib.hid (hS.out.chg.ext_r hxz)
    clear hZ hz
    cases gk with
    | zero =>
     have hd1 : ((pt.length : Int) == 1) = true := by rw [beq_iff_eq]; omega
     have hfin : StepPost w X Y g m ⟨ch, dn, st⟩ (.returned (.tuple #[])) (wr.setCell ⟨g, 1, none⟩ (.bool true)) := by
      refine ⟨rfl, gr, cap, pt, ?_, HCG.out.tr (chg_setg _ HRT.out.xg 1 _)⟩
      have h1 := HRT.out.done true
      have h2 : stepC m ch = none := by
       have h3 := hS.out.se
       dsimp only at h3
       rw [← h3]
       exact srch_zero HAN.out
      show RtAt _ X Y g gr cap m (RS.one m ⟨ch, dn, st⟩) _
      unfold RS.one
      dsimp only
      rw [h2]
      exact h1
     have HFIN := Lib.hid hfin
     clear hfin hptl
     go_wp2_with fail
     try rw [Exit.noGoto_ret]
     refine bodyPost_ret (results_none rfl _ _ _) rfl ?_
     exact HFIN.out
    | succ j =>
     have hd1 : ((pt.length : Int) == 1) = false := by rw [beq_eq_false_iff_ne]; omega
     have hst := HST.out.ext hxz
     obtain ⟨us, f, u, t, vc, vp, gu, _, h2⟩ := hst
     obtain ⟨_, _, _, _, _, _, r6, _, _⟩ := h2.rules
     have hchs := h2.ch
     clear h2
     obtain ⟨Ac, cc, rfl, hcc, hrc⟩ := hchs
     obtain ⟨bc, oc, rfl, _, hcj⟩ := intsAt hrc (k := j) (by omega) (by omega)
     rw [List.getElem_take] at hcj
     obtain ⟨N, hN⟩ : ∃ N, N = (ch.take (j + 1)).length := ⟨_, rfl⟩
     rw [← hN] at hcc r6
     rw [hkl] at hN
     obtain ⟨cj, hcjj⟩ : ∃ cj, cj = ch[j] := ⟨_, rfl⟩
     rw [← hcjj] at hcj
     have HCJ := Lib.hid hcjj
     have rj := Ext.rule hcj
     have hj0 : (0 : Int) ≤ (j : Int) := by omega
     have hj1 : (j : Int) < (N : Int) := by omega
     have hjw : IntKind.i64.wrap ((N : Int) - 1) = (j : Int) := by rw [IntKind.wrap_i64]; omega
     have hPw : IntKind.i64.wrap ((pt.length : Int) - 1) = (N : Int) := by rw [IntKind.wrap_i64]; omega
     have hPw2 : wrap64 ((pt.length : Int) - 1) = (N : Int) := by rw [IntWalk.wrap64_in _ (by omega)]; omega
     have hN0 : (0 : Int) ≤ (N : Int) := by omega
     have hN1 : (N : Int) ≤ (pt.length : Int) := by omega
     have hN2 : (N : Int) ≤ (cap : Int) := by omega
     have hxr := Ext.refl wr
     have HNN := Lib.hid hN
     clear hcj hrc hcjj hptl hN
     go_wp2_with fail
     go_quiet (fail)
     generalize hw7 : wr.drewN nq = w7
     have hx7 : Ext wr w7 := by rw [← hw7]; exact (Ext.refl wr).drewN _
     have hc7 : w7.cell? ⟨g, 0, none⟩ = some (.slice (some ⟨gr, 0, none⟩) pt.length cap) := hx7.cell hc0
     have hf7 : w7.frozen? ⟨g, 0, none⟩ = false := (Below.frozen hx7 (p := ⟨g, 0, none⟩) (lt_of_cell hc0)).trans (hf 0)
     clear hw7 hc0 hf hc1
     go_wp2_with fail
     go_still_tail 14, (by kernel_rfl)
     change wpList _ _ _ _ _ w7.drew
     have hx8 : Ext wr w7.drew := hx7.drew
     have hc8 : w7.drew.cell? ⟨g, 0, none⟩ = some (.slice (some ⟨gr, 0, none⟩) pt.length cap) := hc7
     have hf8 : w7.drew.frozen? ⟨g, 0, none⟩ = false := hf7
     generalize w7.drew = w8 at *
     clear hc7 hf7 hx7
     go_wp2_with fail
     go_roundg j
     case measure => omega
     case rel =>
      refine ⟨cj, pt.take (j + 1), rfl, by omega, ?_, ?_, ?_⟩
      ·have h1 := (HRT.out.ext hx8).pop (k := j) (by show j ≤ (ch.take (j + 1)).length; omega)
       dsimp only at h1
       rw [List.take_take, Nat.min_eq_left (by omega), ← HNN.out] at h1
       rw [← HNN.out]
       exact h1
      ·exact (HCG.out.ext_r hx8).tr (chg_setg _ HRT.out.xg 0 _)
      ·have h3 := hS.out.se
       dsimp only at h3 ⊢
       rw [← h3, srch_back HAN.out, HCJ.out, List.getD_eq_getElem?_getD, List.getElem?_eq_getElem (by omega), Option.getD_some]
end Go.Proofs.Ytgpjfpcjiebjiaa

namespace Go.Proofs.Ytgpjfpcjiebjiaa
open Go.RowKit
set_option linter.unusedVariables false
set_option linter.unusedSimpArgs false
attribute [local go_sem ↓] Go.wp_at_zero Go.wp_at_succ

theorem one_isCh {m : MZ} {s : RS} (h : IsCh m s.ch) : IsCh m (s.one m).ch ∧ (s.one m).steps = s.steps + 1 := by
 unfold RS.one
 split
 ·rename_i c hc; exact ⟨(stepC_some h hc).1, rfl⟩
 ·exact ⟨.nil, rfl⟩
theorem run_isCh {m : MZ} : ∀ (n : Nat) {s : RS}, IsCh m s.ch → IsCh m (RS.run m n s).ch
 | 0, s, h => h
 | n + 1, s, h => by
  unfold RS.run
  split
  ·exact h
  ·exact run_isCh n (one_isCh h).1
theorem run_steps {m : MZ} : ∀ (n : Nat) {s : RS}, IsCh m s.ch → s.steps ≤ (RS.run m n s).steps ∧ (RS.run m n s).steps ≤ s.steps + n
 | 0, s, h => ⟨Int.le_refl _, by simp [RS.run]⟩
 | n + 1, s, h => by
  unfold RS.run
  split
  ·exact ⟨Int.le_refl _, by omega⟩
  ·have h1 := one_isCh h
   have h2 := run_steps n h1.1
   omega
/-- The router in the middle of a run. -/
structure RunR (w wr : World) (X Y : Nat → Prop) (g gr cap : Nat) (m : MZ) (s0 : RS) (n : Nat) (s : RS) (pt : List Nat) (k : Nat) : Prop where
 rt : RtAt wr X Y g gr cap m s pt
 chg : Chg X w wr
 run : RS.run m k s = RS.run m n s0
 ch : IsCh m s.ch
 st : 0 ≤ s.steps ∧ s.steps + k ≤ 4000000000000000000
def RunPost (w : World) (X Y : Nat → Prop) (g : Nat) (m : MZ) (s : RS) (e : Ending) (w' : World) : Prop :=
 e = .returned (.bool s.done) ∧ ∃ gr' cap' ptrs', RtAt w' X Y g gr' cap' m s ptrs' ∧ Chg X w w'

set_option maxHeartbeats 4000000 in
set_option maxRecDepth 100000 in
theorem stepN_calls {X Y : Nat → Prop} {g gr cap : Nat} {m : MZ} {s : RS} {ptrs : List Nat} (n : Nat) (w : World) (h : RtAt w X Y g gr cap m s ptrs) (gd : Good m) (hl : Lens m) (hc : IsCh m s.ch) (hn : n ≤ 1000000) (hs0 : 0 ≤ s.steps) (hs1 : s.steps ≤ 3000000000000000000)
  (hXn : ∀ b, w.heap.size ≤ b → X b) (hYb : ∀ b, Y b → b < w.heap.size) :
  Calls Try.prog 24 #[.pointer (some ⟨g, 0, none⟩), .int .i64 n] w (RunPost w X Y g m (RS.run m n s)) := by
 have H0 : Hid (RunR w w X Y g gr cap m s n s ptrs n) := ⟨h, Chg.refl _ _, rfl, hc, hs0, by omega⟩
 have GD := Lib.hid gd
 have HL := Lib.hid hl
 have HXN := Lib.hid hXn
 have HYB := Lib.hid hYb
 have hc0 : w.cell? ⟨g, 0, none⟩ = some (.slice (some ⟨gr, 0, none⟩) ptrs.length cap) := h.blk.cell (k := 0) rfl
 have hpl : ptrs.length = s.ch.length + 1 := h.row.2.1
 have hP1 : ((ptrs.length : Int) == 0) = false := by rw [beq_eq_false_iff_ne]; omega
 obtain ⟨R, hR⟩ : ∃ R, R = RS.run m n s := ⟨_, rfl⟩
 rw [← hR]
 have HR := Lib.hid hR
 clear h gd hl hc hXn hYb hs0 hs1 hpl hR
 go_enter Try.func24, Try.ntmps24
 go_wp2_with fail
 clear hc0 hP1
 go_loopg [1] n (fun gk v wr => ∃ gr cap s' pt, v = .int .i64 gk ∧ gk ≤ n ∧ Hid (RunR w wr X Y g gr cap m s n s' pt gk))
 case atStart => exact ⟨gr, cap, s, ptrs, rfl, Nat.le_refl _, H0⟩
 clear H0
 case round =>
  obtain ⟨gr, cap, s', pt, rfl, hkn, hR⟩ := hrel
  have hrt := hR.out.rt
  have hc1 : wr.cell? ⟨g, 1, none⟩ = some (.bool s'.done) := hrt.blk.cell (k := 1) rfl
  have HRT := Lib.hid hrt; clear hrt
  obtain ⟨d, hd⟩ : ∃ d, d = s'.done := ⟨_, rfl⟩
  rw [← hd] at hc1
  have HD := Lib.hid hd; clear hd
  cases gk with
  | zero =>
   have hlt : decide ((0 : Int) < ((0 : Nat) : Int)) = false := by simp
   have hfin : RunPost w X Y g m R (.returned (.bool d)) wr := by
    have h1 := hR.out.run
    rw [← HR.out] at h1
    rw [← h1, HD.out]
    exact ⟨rfl, gr, cap, pt, HRT.out, hR.out.chg⟩
   have HFIN := Lib.hid hfin; clear hfin
   go_wp2_with fail
   go_ret
   exact HFIN.out
  | succ k =>
   have hlt : decide ((0 : Int) < ((k + 1 : Nat) : Int)) = true := decide_eq_true (by omega)
   have hlt2 : (0 : Int) < ((k + 1 : Nat) : Int) := by omega
   cases d with
   | true =>
    have hfin : RunPost w X Y g m R (.returned (.bool true)) wr := by
     have h1 := hR.out.run
     rw [RS.run_done HD.out.symm, ← HR.out] at h1
     rw [← h1]
     exact ⟨by rw [← HD.out], gr, cap, pt, HRT.out, hR.out.chg⟩
    have HFIN := Lib.hid hfin; clear hfin
    go_wp2_with fail
    go_ret
    exact HFIN.out
   | false =>
    go_wp2_with fail
    refine (stepX_calls wr HRT.out GD.out HL.out hR.out.ch hR.out.st.1 (by have := hR.out.st.2; omega) (fun b hb => HXN.out b (Nat.le_trans hR.out.chg.size hb)) (fun b hb => Nat.lt_of_lt_of_le (HYB.out b hb) hR.out.chg.size)).mono ?_
    rintro e w5 ⟨rfl, gr', cap', pt', hrt5, hch5⟩
    have HN : Hid (RunR w w5 X Y g gr' cap' m s n (s'.one m) pt' k) := by
     have h1 := one_isCh hR.out.ch
     have h2 := hR.out.st
     have h3 := hR.out.run
     unfold RS.run at h3
     rw [← HD.out, if_neg (by simp)] at h3
     exact ⟨hrt5, hR.out.chg.tr hch5, h3.trans (by cases n <;> rfl), h1.1, by omega⟩
    clear hrt5 hch5 hc1
    go_wp2_with fail
    go_roundg k
    case measure => omega
    case rel => exact ⟨gr', cap', _, pt', by go_num, by omega, HN⟩


/-- The clones of paths, as far as they are made. -/
structure FL (w wr : World) (v : Value) (vs : List Value) (l : List (List Int)) : Prop where
 ext : Ext w wr
 own : OwnL wr w.heap.size v vs
 len : vs.length = l.length
 each : ∀ (j : Nat) x, l[j]? = some x → ∃ u, vs[j]? = some u ∧ OwnI wr w.heap.size u x
theorem FL.nil (w wr : World) (h : Ext w wr) : FL w wr (.slice none 0 0) [] [] := ⟨h, World.ownsRow_nil _ _ _ _, rfl, fun j x h => by simp at h⟩
theorem FL.more {w wr w' : World} {v : Value} {vs : List Value} {l : List (List Int)} (h : FL w wr v vs l) (hE : Ext wr w') : FL w w' v vs l := by
 have hg : wr.grownBy w' none := ⟨hE.os, hE.tape, hE.output, hE.size, fun i hi _ => hE.block i hi⟩
 refine ⟨h.ext.trans hE, h.own.kept hg (by cases h : v.ownBlock <;> simp), h.len, fun j x hj => ?_⟩
 obtain ⟨u, hu, ho⟩ := h.each j x hj
 exact ⟨u, hu, ho.kept hg (by cases h : u.ownBlock <;> simp)⟩
theorem own_neT {w : World} {B B' : Nat} {e e' : TypeId} {sz sz' n n' : Nat} {v v' : Value} {xs xs' : List Value} (h : w.ownsRow B e sz v n xs) (h' : w.ownsRow B' e' sz' v' n' xs') (hne : e ≠ e') : v.ownBlock = none ∨ v.ownBlock ≠ v'.ownBlock := by
 rcases h.2 with ⟨rfl, _⟩ | ⟨g, cap, cur, rfl, _, hh, _⟩
 ·left; rfl
 ·right
  rcases h'.2 with ⟨rfl, _⟩ | ⟨g', cap', cur', rfl, _, hh', _⟩
  ·simp [Value.ownBlock]
  ·intro he
   have he2 : g = g' := by simpa [Value.ownBlock] using he
   subst he2
   rw [hh] at hh'
   injection hh' with hh'
   injection hh' with _ ht
   exact hne ht
/-- One clone more. -/
theorem FL.app {w wr w' : World} {v v' u : Value} {vs : List Value} {l : List (List Int)} {x : List Int} {o : Obj} (h : FL w wr v vs l) (hu : OwnI wr w.heap.size u x) (ho : w'.ownsRow w.heap.size 24 1 v' (vs.length + 1) (vs ++ [u])) (hg : (wr.alloc o).grownBy w' v.ownBlock) : FL w w' v' (vs ++ [u]) (l ++ [x]) := by
 have hE : Ext wr (wr.alloc o) := (Ext.refl _).alloc _
 have h1 := h.more hE
 have hk : ∀ {u' : Value} {x' : List Int}, OwnI wr w.heap.size u' x' → OwnI w' w.heap.size u' x' := fun hu' => (World.ownsRow.alloc hu' o).kept hg (own_neT hu' h.own (by decide))
 refine ⟨below_app h1.ext hg h1.ext.size (fun k hk => (h1.own.lt k hk).1), ?_, by simp [h.len], fun j y hj => ?_⟩
 ·show w'.ownsRow _ _ _ _ (vs ++ [u]).length _
  rw [List.length_append, List.length_singleton]
  exact ho
 ·rcases Nat.lt_or_ge j l.length with hjl | hjl
  ·rw [List.getElem?_append_left hjl] at hj
   obtain ⟨u', hu', ho'⟩ := h.each j y hj
   exact ⟨u', by rw [List.getElem?_append_left (by rw [h.len]; exact hjl)]; exact hu', hk ho'⟩
  ·have hj2 : j = l.length := by
    rcases Nat.lt_or_ge j (l ++ [x]).length with h1 | h1
    ·simp at h1; omega
    ·rw [List.getElem?_eq_none h1] at hj; cases hj
   subst hj2
   rw [List.getElem?_append_right (Nat.le_refl _)] at hj
   have hy : x = y := by simpa using hj
   subst hy
   exact ⟨u, by rw [← h.len, List.getElem?_append_right (Nat.le_refl _)]; simp, hk hu⟩
theorem FL.intss {w wr : World} {v : Value} {vs : List Value} {l : List (List Int)} (h : FL w wr v vs l) : Intss wr (fun b => w.heap.size ≤ b) v l :=
 ⟨vs, by rw [← h.len]; exact Row.of_own h.own, fun j x hj => by
  obtain ⟨u, hu, ho⟩ := h.each j x hj
  exact ⟨u, hu, Row.of_own ho⟩⟩

/-- What Found returns. -/
def foundL (m : MZ) (ch : List Int) : List (List Int) := if cmpC m ch = true then psOf m ch else []
def FoundPost (w : World) (m : MZ) (ch : List Int) (e : Ending) (w' : World) : Prop :=
 ∃ v, e = .returned (.tuple #[v, .bool (cmpC m ch)]) ∧ Ext w w' ∧ Intss w' (fun b => w.heap.size ≤ b) v (foundL m ch)

set_option maxHeartbeats 4000000 in
set_option maxRecDepth 100000 in
theorem found_c {X Y : Nat → Prop} {g gr cap : Nat} {m : MZ} {s : RS} {ptrs : List Nat} (w : World) (h : RtAt w X Y g gr cap m s ptrs) (gd : Good m) (hl : Lens m) (hc : IsCh m s.ch) :
  Calls Try.prog 26 #[.pointer (some ⟨g, 0, none⟩)] w (FoundPost w m s.ch) := by
 obtain ⟨p, hp, hst, hc1⟩ := h.row.last
 have hn := hc.len300 gd
 have HL1 := Lib.hid (last_c (w' := w) h hp (by omega))
 have HLX : Hid (∀ w2, Ext w w2 → Calls Try.prog 62 #[.pointer (some ⟨g, 0, none⟩)] w2 fun e w' => e = .returned (.pointer (some ⟨p, 0, none⟩)) ∧ Drew w2 w') := fun w2 hE => last_c (w' := w2) (h.ext hE) hp (by omega)
 have hc0 : w.cell? ⟨g, 0, none⟩ = some (.slice (some ⟨gr, 0, none⟩) ptrs.length cap) := h.blk.cell (k := 0) rfl
 have hpl : ptrs.length = s.ch.length + 1 := h.row.2.1
 have hP1 : ((ptrs.length : Int) == 0) = false := by rw [beq_eq_false_iff_ne]; omega
 have HST := Lib.hid hst
 have GD := Lib.hid gd
 have HL := Lib.hid hl
 have HC := Lib.hid hc
 obtain ⟨i0, hi, hz0, hz1, hz2⟩ := info_parts Try.infoInts
 have IF := Lib.hid hi
 have IZ0 := Lib.hid hz0
 have IZ1 := Lib.hid hz1
 have IZ2 := Lib.hid hz2
 clear hi hz0 hz1 hz2
 clear h gd hl hc hpl hp hc1 hst hn
 obtain ⟨cb, hcb⟩ : ∃ cb, cb = cmpC m s.ch := ⟨_, rfl⟩
 have HCB := Lib.hid hcb; clear hcb
 go_enter Try.func26, Try.ntmps26
 go_wp2_with fail
 refine HL1.out.mono ?_
 rintro e w1 ⟨rfl, hd1⟩
 have hx1 : Ext w w1 := hd1.below _
 clear hd1
 go_wp2_with fail
 refine (complete_c w1 (HST.out.ext hx1) GD.out HL.out HC.out).mono ?_
 rintro e w2 ⟨rfl, hd2⟩
 have hx2 : Ext w w2 := hx1.trans (hd2.below _)
 rw [← HCB.out]
 clear hd2 hx1 hP1
 cases cb with
 | false =>
  have hfin : FoundPost w m s.ch (.returned (.tuple #[.slice none 0 0, .bool false])) w2 := ⟨_, by rw [HCB.out], hx2, by unfold foundL; rw [← HCB.out]; exact Intss.nil _ _⟩
  have HFIN := Lib.hid hfin; clear hfin
  go_wp2_with fail
  go_ret2
  exact HFIN.out
 | true =>
  go_wp2_with fail
  refine (HLX.out w2 hx2).mono ?_
  rintro e w3 ⟨rfl, hd3⟩
  have hx3 : Ext w w3 := hx2.trans (hd3.below _)
  clear hd3 hx2
  obtain ⟨us, f, u, t, vc, vp, gu, _, hst2⟩ := HST.out
  obtain ⟨_, _, _, _, _, _, _, r7, _⟩ := hst2.rules
  have hps := hst2.ps
  clear hst2
  have hpp : Hid (∀ p ∈ psOf m s.ch, p.length ≤ 1000) := (HC.out.sok GD.out HL.out).pp
  have hpl : (psOf m s.ch).length ≤ 6 := by have := (HC.out.sok GD.out HL.out).pl; have := GD.out.tk; omega
  obtain ⟨ps, hpsn⟩ : ∃ ps, ps = psOf m s.ch := ⟨_, rfl⟩
  rw [← hpsn] at hps hpp hpl
  have HPS := Lib.hid hpsn; clear hpsn
  have HP := Lib.hid hps
  obtain ⟨vs, ⟨Ap, cp, rfl, hcp, hrp⟩, hep⟩ := hps
  have HRP := Lib.hid hrp
  have HEP := Lib.hid hep
  clear hrp hep
  have H0 := Lib.hid (FL.nil w w3 hx3)
  go_wp2_with fail
  go_loopg [4, 29] ps.length (fun gk v vi wr => ∃ (i : Nat) (vs : List Value), vi = .int .i64 i ∧ i ≤ ps.length ∧ gk = ps.length - i ∧ Hid (FL w wr v vs (ps.take i)))
  case atStart => exact ⟨0, [], rfl, Nat.zero_le _, rfl, H0⟩
  clear H0
  case round =>
   obtain ⟨i, vl, rfl, hi, rfl, hF⟩ := hrel
   have hxr := hF.out.ext
   rcases Nat.lt_or_ge i ps.length with hlt | hge
   ·obtain ⟨bp, op, up, rfl, _, hcell, hup⟩ := eachAt HRP.out HEP.out hlt hlt
    have q0 := Ext.rule hcell
    clear hcell
    have hlp := hpp.out _ (List.getElem_mem hlt)
    have HUP := Lib.hid hup; clear hup
    obtain ⟨As, cs, rfl, hcs⟩ : ∃ A c, u4 = .slice A vl.length c ∧ vl.length ≤ c := by
     obtain ⟨A, c, e, hc, _⟩ := Row.of_own hF.out.own
     exact ⟨A, c, e, hc⟩
    have hvl := hF.out.len
    have HLP := Lib.hid hlp; clear hlp
    have HVL := Lib.hid hvl
    have hvl6 : vl.length ≤ 6 := by rw [hvl, List.length_take]; omega
    clear hvl
    go_wp2_with fail
    refine (cloneJ_calls _ (HUP.out.below hxr) (by have := HLP.out; omega)).mono ?_
    rintro e w4 ⟨v4, rfl, hM⟩
    have hF4 := Lib.hid (hF.out.more hM.ext)
    have HO4 : Hid (OwnI w4 w.heap.size v4 ps[i]) := World.ownsRow.mono hM.own hxr.size
    obtain ⟨A4, c4, rfl, _⟩ := hM.slice
    have hsz : w.heap.size ≤ w4.heap.size := hF4.out.ext.size
    clear hM
    go_wp2_with (at_builtin; refine wpList_append_own_at _ rfl _ _ 22 rfl w.heap.size 24 i0 (.slice none 0 0) 1 24 Try.underlying22 IF.out IZ0.out IZ1.out IZ2.out rfl (by decide) (.slice As vl.length cs) vl.length _ rfl (hF4.out.own.alloc _) ⟨w4.heap.size, 0, none⟩ 1 1 [.slice A4 ps[i].length c4] rfl rfl (cell_one_new _ _ _) (by simp [Value.oneCell']) (by unfold maxLen; omega) (by omega) (by simp; omega) ?_)
    intro v' w5 hown hg _ hv'
    have hF5 := Lib.hid (hF4.out.app HO4.out hown hg)
    clear hown hg hv'
    go_wp2_with fail
    go_roundg (ps.length - (i + 1))
    case measure => omega
    case rel => exact ⟨i + 1, _, by go_num, hlt, rfl, by rw [List.take_succ_eq_append_getElem hlt]; exact hF5⟩
   ·have hil : i = ps.length := by omega
    subst hil
    have hfin : FoundPost w m s.ch (.returned (.tuple #[u4, .bool true])) wr := by
     refine ⟨u4, by rw [HCB.out], hF.out.ext, ?_⟩
     unfold foundL
     rw [← HCB.out, if_pos rfl, ← HPS.out]
     have := hF.out.intss
     rwa [List.take_length] at this
    have HFIN := Lib.hid hfin; clear hfin
    go_wp2_with fail
    go_ret2
    exact HFIN.out
end Go.Proofs.Ytgpjfpcjiebjiaa

namespace Go.Proofs.Ytgpjfpcjiebjiaa
open Go.RowKit
set_option linter.unusedVariables false
set_option linter.unusedSimpArgs false

/-- What is drawn next, and how many have been drawn. -/
def drawV (l : List Int) (k : Nat) (n : Int) : Int := if h : k < l.length then l[k] % n else 0
def drawK (l : List Int) (k : Nat) : Nat := if k < l.length then k + 1 else k

set_option maxHeartbeats 1000000 in
set_option maxRecDepth 100000 in
theorem draw_calls {ok : Nat → Prop} {v : Value} {l : List Int} (gd k : Nat) (n : Int) (w : World) (hb : Blk w gd 104 #[v, .int .i64 k]) (h : Ints w ok v l) (hg : ¬ ok gd) (hl : l.length ≤ 9223372036854775807) (hk : k ≤ l.length) (hn : 0 < n) (hn2 : n ≤ 1000000) :
  Calls Try.prog 80 #[.pointer (some ⟨gd, 0, none⟩), .int .i64 n] w fun e w' => e = .returned (.int .i64 (drawV l k n)) ∧ Blk w' gd 104 #[v, .int .i64 (drawK l k)] ∧ w.grownBy w' (some gd) := by
 obtain ⟨A, c, rfl, hc, hr⟩ := h
 have hc0 := hb.cell (k := 0) rfl
 have hc1 := hb.cell (k := 1) rfl
 have hx := Ext.refl w
 by_cases hlt : k < l.length
 ·obtain ⟨b, off, rfl, hob, hcell⟩ := intsAt hr hlt hlt
  have hbg : b ≠ gd := fun e => hg (e ▸ hob)
  have hv : drawV l k n = l[k] % n := by unfold drawV; rw [dif_pos hlt]
  have hkk : drawK l k = k + 1 := by unfold drawK; rw [if_pos hlt]
  rw [hv, hkk]
  clear hv hkk hr
  obtain ⟨x, hxx⟩ : ∃ x, x = l[k] := ⟨_, rfl⟩
  rw [← hxx] at hcell ⊢
  clear hxx
  have hf := hb.frozen 1
  have HB := Lib.hid hb; clear hb
  have hd : decide ((l.length : Int) ≤ (k : Int)) = false := decide_eq_false (by omega)
  go_enter Try.func80, Try.ntmps80
  go_wp2_with fail
  go_quiet (fail)
  generalize hw1 : w.drewN nq = w1
  have hd1 : Drew w w1 := ⟨nq, hw1.symm⟩
  have hE1 : Ext w w1 := hd1.below _
  have hh : w1.heap = w.heap := by rw [← hw1]; rfl
  clear hw1 hc0 hc1 hf
  have hB1 : Blk w1 gd 104 #[.slice (some ⟨b, off, none⟩) l.length c, .int .i64 k] := HB.out.ext hE1
  have hc0 := hB1.cell (k := 0) rfl
  have hc1 := hB1.cell (k := 1) rfl
  have hf := hB1.frozen 1
  have hcell1 := hE1.cell hcell
  have hB2 : Hid (Blk (w1.setCell ⟨gd, 1, none⟩ (.int .i64 ((k : Int) + 1))) gd 104 #[.slice (some ⟨b, off, none⟩) l.length c, .int .i64 ((k : Int) + 1)]) := hB1.set (k := 1) _
  have hcell2 : (w1.setCell ⟨gd, 1, none⟩ (.int .i64 ((k : Int) + 1))).cell? ⟨b, off + k, none⟩ = some (.int .i64 x) := (World.cell?_of_block (w := w1) (Below.heap_setCell w1 _ _ b hbg)).trans hcell1
  have HG : Hid (w.grownBy (w1.setCell ⟨gd, 1, none⟩ (.int .i64 ((k : Int) + 1))) (some gd)) := ⟨hE1.os, hE1.tape, hE1.output, by simp [hh], fun i hi hne => by rw [Below.heap_setCell w1 _ _ i (fun e => hne (by rw [e])), hh]⟩
  have hcb0 := hB2.out.cell (k := 0) rfl
  have hcb1 := hB2.out.cell (k := 1) rfl
  clear hB1 hcell
  go_upto_region 4 with fail
  generalize w1.setCell ⟨gd, 1, none⟩ (.int .i64 ((k : Int) + 1)) = w2 at *
  clear hc0 hc1 hf hcell1
  have hx2 := Ext.refl w2
  have hkl : (k : Int) < (l.length : Int) := by omega
  go_quiet ((go_at_call 47; refine (mod_calls x n _ hn hn2).mono ?_; rintro e w9 ⟨he9, rfl⟩; exact ⟨he9, ⟨_, rfl⟩⟩))
  go_wp2
  go_ret
  refine ⟨rfl, hB2.out.ext ((Ext.refl w2).drewN _), ?_⟩
  have h := HG.out
  exact ⟨h.os, h.tape, h.output, h.size, h.block⟩
 ·have hv : drawV l k n = 0 := by unfold drawV; rw [dif_neg hlt]
  have hkk : drawK l k = k := by unfold drawK; rw [if_neg hlt]
  rw [hv, hkk]
  clear hv hkk hr
  have HB := Lib.hid hb; clear hb
  have hd : decide ((l.length : Int) ≤ (k : Int)) = true := decide_eq_true (by omega)
  go_enter Try.func80, Try.ntmps80
  go_wp2_with fail
  go_quiet (fail)
  go_wp2
  go_ret
  exact ⟨rfl, HB.out, ⟨rfl, rfl, rfl, Nat.le_refl _, fun _ _ _ => rfl⟩⟩
end Go.Proofs.Ytgpjfpcjiebjiaa
