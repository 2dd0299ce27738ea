/- Walks: a step of the router. -/
import Derived.Test.YtgpjfpcjiebjiaaRtQl
import Derived.Deep.LoopGhost
import Derived.StillTailTactics
namespace Go.Proofs.Ytgpjfpcjiebjiaa
open Go.RowKit
set_option linter.unusedVariables false
set_option linter.unusedSimpArgs false
attribute [local go_sem ↓] Go.wp_at_zero Go.wp_at_succ

theorem Try.infoPst : (Try.prog.info? 88).map (fun i => (i.zero, i.size, i.bytes)) = some (some (.pointer none), 1, 8) := by kernel_rfl

/-- The router while it searches: k nodes of the choices are left. -/
structure SR (w wr : World) (X Y : Nat → Prop) (g gr cap : Nat) (m : MZ) (s : RS) (pt : List Nat) (k : Nat) (b : Int) : Prop where
  rt : RtAt wr X Y g gr cap m ⟨s.ch.take k, s.done, s.steps + 1⟩ pt
  chg : Chg X w wr
  se : srch m s.ch k b = stepC m s.ch
/-- What a step leaves. -/
def StepPost (w : World) (X Y : Nat → Prop) (g : Nat) (m : MZ) (s : RS) (e : Ending) (w' : World) : Prop :=
  e = .returned (.tuple #[]) ∧ ∃ gr' cap' ptrs', RtAt w' X Y g gr' cap' m (s.one m) ptrs' ∧ Chg X w w'

theorem no_step {m : MZ} {ch l : List Int} {b : Int} {i : Nat} (h : ∀ n ∈ l.take i, ¬ (b < n ∧ openC m (ch ++ [n]) = true)) (hi : i < l.length) (h1 : ¬ (b < l[i] ∧ openC m (ch ++ [l[i]]) = true)) : ∀ n ∈ l.take (i + 1), ¬ (b < n ∧ openC m (ch ++ [n]) = true) := by
  intro n hn
  rcases (mem_take_succ hi n).1 hn with h2 | rfl
  · exact h n h2
  · exact h1
theorem aft_of {m : MZ} {ch l : List Int} {b n : Int} {i : Nat} (hl : l = cand m ch) (hi : i < l.length) (hn : n = l[i]) (h : ∀ n ∈ l.take i, ¬ (b < n ∧ openC m (ch ++ [n]) = true)) (h1 : b < n) (h2 : openC m (ch ++ [n]) = true) : aft m ch b = some n := by
  subst hl hn
  exact aft_at hi h h1 h2
theorem push_ok {w w3 w4 : World} {X Y : Nat → Prop} {g gr cap q : Nat} {m : MZ} {s : RS} {pt : List Nat} {c : List Int} (hq : StC w4 (fun b => (okR X Y g gr b ∧ b < w3.heap.size) ∨ w3.heap.size ≤ b) q m c) (hx : Ext w w3) (hr : RtAt w X Y g gr cap m s pt) (hXn : ∀ b, w.heap.size ≤ b → X b) : StC w4 (okR X Y g gr) q m c :=
  hq.weaken fun b hb => by
    rcases hb with hb | hb
    · exact hb.1
    · have h1 : g < w.heap.size := lt_of_some hr.blk
      have h2 : gr < w.heap.size := (hr.row.1.lt gr rfl).2
      have h3 := hx.size
      exact .inl ⟨hXn b (by omega), by omega, by omega⟩

set_option maxHeartbeats 4000000 in
set_option maxRecDepth 100000 in
theorem stepX_calls {X Y : Nat → Prop} {g gr cap : Nat} {m : MZ} {s : RS} {ptrs : List Nat} (w : World) (h : RtAt w X Y g gr cap m s ptrs) (gd : Good m) (hl : Lens m) (hc : IsCh m s.ch) (hs0 : 0 ≤ s.steps) (hs1 : s.steps ≤ 4000000000000000000)
    (hXn : ∀ b, w.heap.size ≤ b → X b) (hYb : ∀ b, Y b → b < w.heap.size) :
    Calls Try.prog 60 #[.pointer (some ⟨g, 0, none⟩)] w (StepPost w X Y g m s) := by
  obtain ⟨ch, dn, st⟩ := s
  dsimp only at hs0 hs1 hc
  have H := Lib.hid h
  have hc2 : w.cell? ⟨g, 2, none⟩ = some (.int .i64 st) := h.blk.cell (k := 2) rfl
  have hf := fun k => h.blk.frozen k
  have GD := Lib.hid gd
  have HL := Lib.hid hl
  have HC := Lib.hid hc
  have HXN := Lib.hid hXn
  have HYB := Lib.hid hYb
  have hlen := hc.len300 gd
  clear h gd hl hc hXn hYb
  have HS0 : Hid (SR w (w.setCell ⟨g, 2, none⟩ (.int .i64 (st + 1))) X Y g gr cap m ⟨ch, dn, st⟩ ptrs ch.length (-1)) := by
    refine ⟨?_, chg_setg w H.out.xg 2 _, srch_top m ch⟩
    have h1 := H.out.stepsTo (st + 1)
    dsimp only at h1 ⊢
    rw [List.take_length]
    exact h1
  obtain ⟨i0, hi, hz0, hz1, hz2⟩ := info_parts Try.infoPst
  have IF := Lib.hid hi
  have IZ0 := Lib.hid hz0
  have IZ1 := Lib.hid hz1
  have IZ2 := Lib.hid hz2
  clear hi hz0 hz1 hz2
  go_enter Try.func60, Try.ntmps60
  go_wp2_with fail
  go_step3
  go_wp2_with fail
  go_step3
  go_wp2_with fail
  clear hc2 hf
  go_loopg [2] ch.length (fun gk v wr => ∃ b pt, v = .int .i64 b ∧ gk ≤ ch.length ∧ Hid (SR w wr X Y g gr cap m ⟨ch, dn, st⟩ pt gk b))
  case atStart => exact ⟨-1, ptrs, rfl, Nat.le_refl _, HS0⟩
  clear HS0
  case round =>
    obtain ⟨b, pt, rfl, hk, hS⟩ := hrel
    obtain ⟨wo, rfl⟩ : ∃ wo : World, wo = wr := ⟨_, rfl⟩
    have hrt := hS.out.rt
    obtain ⟨p, hp, hst, hcp⟩ := hrt.row.last
    have hkl : (ch.take gk).length = gk := by rw [List.length_take]; omega
    have HLAST := Lib.hid (last_c (w' := wo) hrt hp (by dsimp only; rw [hkl]; omega))
    have HST := Lib.hid hst
    dsimp only at HST
    clear hrt hp hst hcp
    go_wp2_with fail
    refine HLAST.out.mono ?_
    rintro e w1 ⟨rfl, hd1⟩
    have hx1 : Ext wo w1 := hd1.below _
    clear hd1
    go_wp2_with fail
    refine (candidates_c _ (HST.out.ext hx1) GD.out HL.out (HC.out.take gk)).mono ?_
    rintro e w2 ⟨v2, rfl, hM2⟩
    obtain ⟨A2, c2, rfl, hc2⟩ := hM2.slice
    have hx2 : Ext wo w2 := hx1.trans hM2.ext
    have hlc : (cand m (ch.take gk)).length ≤ 400000000000 := cand_len HL.out _
    have HM2 := Lib.hid hM2; clear hM2 hx1
    obtain ⟨l, hll⟩ : ∃ l, l = cand m (ch.take gk) := ⟨_, rfl⟩
    rw [← hll] at HM2 hc2 hlc ⊢
    have HLL := Lib.hid hll; clear hll
    go_wp2_with fail
    go_loopg [19] l.length (fun gi v wz => ∃ i : Nat, v = .int .i64 i ∧ i ≤ l.length ∧ gi = l.length - i ∧ Hid (Ext w2 wz ∧ ∀ n ∈ l.take i, ¬ (b < n ∧ openC m (ch.take gk ++ [n]) = true)))
    case atStart => exact ⟨0, rfl, Nat.zero_le _, rfl, Ext.refl _, by simp⟩
    case round =>
      obtain ⟨i, rfl, hi, rfl, hZ⟩ := hrel
      have hz := hZ.out.1
      have hxz : Ext wo wr := hx2.trans hz
      rcases Nat.lt_or_ge i l.length with hlt | hge
      · obtain ⟨bl, rfl, _, hcell⟩ := own_at HM2.out.own hlt
        obtain ⟨n, hn⟩ : ∃ n, n = l[i] := ⟨_, rfl⟩
        rw [← hn] at hcell
        have q0 := Ext.rule hcell
        have hnc : Hid (n ∈ cand m (ch.take gk)) := by
          show n ∈ _
          rw [← HLL.out, hn]; exact List.getElem_mem _
        have HN := Lib.hid hn
        clear hcell hn
        by_cases hnb : n ≤ b
        · have hd : decide (n ≤ b) = true := decide_eq_true hnb
          have HNB := Lib.hid hnb; clear hnb
          go_wp2_with fail
          go_roundg (l.length - (i + 1))
          case measure => omega
          case rel => exact ⟨i + 1, by go_num, hlt, rfl, hZ.out.1, no_step hZ.out.2 hlt (fun h => by have := HNB.out; rw [← HN.out] at h; omega)⟩
        · have hd : decide (n ≤ b) = false := decide_eq_false hnb
          have HNB := Lib.hid hnb; clear hnb
          go_wp2_with fail
          refine (with_c _ (HST.out.ext hxz) GD.out HL.out (HC.out.take gk) hnc.out).mono ?_
          rintro e w3 ⟨q, rfl, hx3, hq⟩
          have HQ := Lib.hid hq; clear hq
          go_wp2_with fail
          refine (open_c w3 HQ.out GD.out HL.out (.snoc (HC.out.take gk) hnc.out)).mono ?_
          rintro e w4 ⟨rfl, hx4⟩
          obtain ⟨ob, hob⟩ : ∃ ob, ob = openC m (ch.take gk ++ [n]) := ⟨_, rfl⟩
          rw [← hob]
          have HOB := Lib.hid hob; clear hob
          cases ob with
          | false =>
            have hz4 : Ext w2 w4 := hz.trans (hx3.trans hx4)
            clear hx3 hx4
            go_wp2_with fail
            go_roundg (l.length - (i + 1))
            case measure => omega
            case rel => exact ⟨i + 1, by go_num, hlt, rfl, hz4, no_step hZ.out.2 hlt (fun h => by rw [← HN.out, ← HOB.out] at h; exact absurd h.2 (by simp))⟩
          | true =>
            have hx4' : Ext wo w4 := hxz.trans (hx3.trans hx4)
            have HQ4 := Lib.hid (push_ok (HQ.out.ext hx4) hxz hS.out.rt (fun b hb => HXN.out b (Nat.le_trans hS.out.chg.size hb)))
            have hrt := hS.out.rt.ext hx4'
            have hc0 : w4.cell? ⟨g, 0, none⟩ = some (.slice (some ⟨gr, 0, none⟩) pt.length cap) := hrt.blk.cell (k := 0) rfl
            have hf := fun k => hrt.blk.frozen k
            have HRT := Lib.hid hrt; clear hrt
            have hptl : pt.length = gk + 1 := by have := HRT.out.row.2.1; dsimp only at this; omega
            have HPL := Lib.hid hptl
            have hmax : pt.length + 1 ≤ 1000 := by omega
            clear hx3 hx4 hz hxz hptl
            go_wp2_with (at_builtin; refine wpList_append_own_at _ rfl _ _ 85 rfl 0 88 i0 (.pointer none) 1 8 Try.underlying85 IF.out IZ0.out IZ1.out IZ2.out rfl (by decide) (.slice (some ⟨gr, 0, none⟩) pt.length cap) pt.length _ rfl (HRT.out.row.1.alloc _) ⟨w4.heap.size, 0, none⟩ 1 1 [ptrV q] rfl rfl (cell_one_new _ _ _) (by simp [ptrV, Value.oneCell']) (by unfold maxLen; omega) (by omega) (Nat.zero_le _) ?_)
            intro v' w5 hown hg _ hv'
            have hX4 : ∀ b, w4.heap.size ≤ b → X b := fun b hb => HXN.out b (Nat.le_trans hS.out.chg.size (Nat.le_trans hx4'.size hb))
            have hY4 : ∀ b, Y b → b < w4.heap.size := fun b hb => Nat.lt_of_lt_of_le (HYB.out b hb) (Nat.le_trans hS.out.chg.size hx4'.size)
            obtain ⟨gr', cap', rfl, hrt5, hch5⟩ := HRT.out.push HQ4.out hX4 hY4 hown hg hv'
            have hblk5 : w5.heap[g]? = w4.heap[g]? := (hg.block g (by have := lt_of_some HRT.out.blk; simp; omega) (fun e => HRT.out.ne (by injection e))).trans (Below.heap_alloc _ _ _ (lt_of_some HRT.out.blk))
            have hc5 : w5.cell? ⟨g, 0, none⟩ = some (.slice (some ⟨gr, 0, none⟩) pt.length cap) := (World.cell?_of_block hblk5).trans hc0
            have hf5 : w5.frozen? ⟨g, 0, none⟩ = false := (World.frozen?_of_block (a := ⟨g, 0, none⟩) hblk5).trans (hf 0)
            have HCH := Lib.hid ((hS.out.chg.ext_r hx4').tr hch5)
            have HRT5 := Lib.hid hrt5
            clear hown hg hv' hrt5 hch5 hc0 hf hblk5 hX4 hY4
            go_wp2_with fail
            clear hc5 hf5
            generalize w5.setCell ⟨g, 0, none⟩ (.slice (some ⟨gr', 0, none⟩) (pt.length + 1) cap') = w6 at *
            have hl5 : (ch.take gk ++ [n]).length = pt.length := by have := HPL.out; simp; omega
            have hq5 : (pt ++ [q])[(ch.take gk ++ [n]).length]? = some q := by rw [hl5]; simp
            have hst5 : StC w6 (okR X Y g gr') q m (ch.take gk ++ [n]) := by
              have := HRT5.out.row.2.2 _ q hq5
              rwa [List.take_length] at this
            refine (last_c (w' := w6) HRT5.out hq5 (by show (ch.take gk ++ [n]).length ≤ 1000; omega)).mono ?_
            rintro e w7 ⟨rfl, hd7⟩
            have hx7 : Ext w6 w7 := hd7.below _
            clear hd7 hl5 hq5
            go_wp2_with fail
            refine (complete_c w7 (hst5.ext hx7) GD.out HL.out (.snoc (HC.out.take gk) hnc.out)).mono ?_
            rintro e w8 ⟨rfl, hd8⟩
            have hx8 : Ext w6 w8 := hx7.trans (hd8.below _)
            clear hd8 hx7 hst5
            have hrt8 := HRT5.out.ext hx8
            have hc8 : w8.cell? ⟨g, 1, none⟩ = some (.bool dn) := hrt8.blk.cell (k := 1) rfl
            have hf8 : w8.frozen? ⟨g, 1, none⟩ = false := hrt8.blk.frozen 1
            have hfin : StepPost w X Y g m ⟨ch, dn, st⟩ (.returned (.tuple #[])) (w8.setCell ⟨g, 1, none⟩ (.bool (cmpC m (ch.take gk ++ [n])))) := by
              refine ⟨rfl, gr', cap', pt ++ [q], ?_, (HCH.out.ext_r hx8).tr (chg_setg _ HRT5.out.xg 1 _)⟩
              have h1 := hrt8.done (cmpC m (ch.take gk ++ [n]))
              have h2 : stepC m ch = some (ch.take gk ++ [n]) := by
                have h3 := hS.out.se
                dsimp only at h3
                rw [← h3]
                unfold srch
                rw [aft_of HLL.out hlt HN.out hZ.out.2 (by have := HNB.out; omega) HOB.out.symm]
              show RtAt _ X Y g gr' cap' m (RS.one m ⟨ch, dn, st⟩) _
              unfold RS.one
              dsimp only
              rw [h2]
              exact h1
            have HFIN := Lib.hid hfin
            clear hfin hrt8
            go_wp2_with fail
            try rw [Exit.noGoto_ret]
            refine bodyPost_ret (results_none rfl _ _ _) rfl ?_
            exact HFIN.out
      · have hil : i = l.length := by omega
        subst hil
        have HAN : Hid (aft m (ch.take gk) b = none) := aft_none HLL.out (by have := hZ.out.2; rwa [List.take_length] at this)
        have hrt := hS.out.rt.ext hxz
        have hc0 : wr.cell? ⟨g, 0, none⟩ = some (.slice (some ⟨gr, 0, none⟩) pt.length cap) := hrt.blk.cell (k := 0) rfl
        have hc1 : wr.cell? ⟨g, 1, none⟩ = some (.bool dn) := hrt.blk.cell (k := 1) rfl
        have hf := fun k => hrt.blk.frozen k
        have hptl : pt.length = gk + 1 := by have := hrt.row.2.1; dsimp only at this; omega
        have hcap := own_cap hrt.row.1
        have HRT := Lib.hid hrt; clear hrt
        have HPL := Lib.hid hptl
        have HCG := Lib.hid (hS.out.chg.ext_r hxz)
        clear hZ hz
        cases gk with
        | zero =>
          have hd1 : ((pt.length : Int) == 1) = true := by rw [beq_iff_eq]; omega
          have hfin : StepPost w X Y g m ⟨ch, dn, st⟩ (.returned (.tuple #[])) (wr.setCell ⟨g, 1, none⟩ (.bool true)) := by
            refine ⟨rfl, gr, cap, pt, ?_, HCG.out.tr (chg_setg _ HRT.out.xg 1 _)⟩
            have h1 := HRT.out.done true
            have h2 : stepC m ch = none := by
              have h3 := hS.out.se
              dsimp only at h3
              rw [← h3]
              exact srch_zero HAN.out
            show RtAt _ X Y g gr cap m (RS.one m ⟨ch, dn, st⟩) _
            unfold RS.one
            dsimp only
            rw [h2]
            exact h1
          have HFIN := Lib.hid hfin
          clear hfin hptl
          go_wp2_with fail
          try rw [Exit.noGoto_ret]
          refine bodyPost_ret (results_none rfl _ _ _) rfl ?_
          exact HFIN.out
        | succ j =>
          have hd1 : ((pt.length : Int) == 1) = false := by rw [beq_eq_false_iff_ne]; omega
          have hst := HST.out.ext hxz
          obtain ⟨us, f, u, t, vc, vp, gu, _, h2⟩ := hst
          obtain ⟨_, _, _, _, _, _, r6, _, _⟩ := h2.rules
          have hchs := h2.ch
          clear h2
          obtain ⟨Ac, cc, rfl, hcc, hrc⟩ := hchs
          obtain ⟨bc, oc, rfl, _, hcj⟩ := intsAt hrc (k := j) (by omega) (by omega)
          rw [List.getElem_take] at hcj
          obtain ⟨N, hN⟩ : ∃ N, N = (ch.take (j + 1)).length := ⟨_, rfl⟩
          rw [← hN] at hcc r6
          rw [hkl] at hN
          obtain ⟨cj, hcjj⟩ : ∃ cj, cj = ch[j] := ⟨_, rfl⟩
          rw [← hcjj] at hcj
          have HCJ := Lib.hid hcjj
          have rj := Ext.rule hcj
          have hj0 : (0 : Int) ≤ (j : Int) := by omega
          have hj1 : (j : Int) < (N : Int) := by omega
          have hjw : IntKind.i64.wrap ((N : Int) - 1) = (j : Int) := by rw [IntKind.wrap_i64]; omega
          have hPw : IntKind.i64.wrap ((pt.length : Int) - 1) = (N : Int) := by rw [IntKind.wrap_i64]; omega
          have hPw2 : wrap64 ((pt.length : Int) - 1) = (N : Int) := by rw [IntWalk.wrap64_in _ (by omega)]; omega
          have hN0 : (0 : Int) ≤ (N : Int) := by omega
          have hN1 : (N : Int) ≤ (pt.length : Int) := by omega
          have hN2 : (N : Int) ≤ (cap : Int) := by omega
          have hxr := Ext.refl wr
          have HNN := Lib.hid hN
          clear hcj hrc hcjj hptl hN
          go_wp2_with fail
          go_quiet (fail)
          generalize hw7 : wr.drewN nq = w7
          have hx7 : Ext wr w7 := by rw [← hw7]; exact (Ext.refl wr).drewN _
          have hc7 : w7.cell? ⟨g, 0, none⟩ = some (.slice (some ⟨gr, 0, none⟩) pt.length cap) := hx7.cell hc0
          have hf7 : w7.frozen? ⟨g, 0, none⟩ = false := (Below.frozen hx7 (p := ⟨g, 0, none⟩) (lt_of_cell hc0)).trans (hf 0)
          clear hw7 hc0 hf hc1
          go_wp2_with fail
          go_still_tail 14, (by kernel_rfl)
          change wpList _ _ _ _ _ w7.drew
          have hx8 : Ext wr w7.drew := hx7.drew
          have hc8 : w7.drew.cell? ⟨g, 0, none⟩ = some (.slice (some ⟨gr, 0, none⟩) pt.length cap) := hc7
          have hf8 : w7.drew.frozen? ⟨g, 0, none⟩ = false := hf7
          generalize w7.drew = w8 at *
          clear hc7 hf7 hx7
          go_wp2_with fail
          go_roundg j
          case measure => omega
          case rel =>
            refine ⟨cj, pt.take (j + 1), rfl, by omega, ?_, ?_, ?_⟩
            · have h1 := (HRT.out.ext hx8).pop (k := j) (by show j ≤ (ch.take (j + 1)).length; omega)
              dsimp only at h1
              rw [List.take_take, Nat.min_eq_left (by omega), ← HNN.out] at h1
              rw [← HNN.out]
              exact h1
            · exact (HCG.out.ext_r hx8).tr (chg_setg _ HRT.out.xg 0 _)
            · have h3 := hS.out.se
              dsimp only at h3 ⊢
              rw [← h3, srch_back HAN.out, HCJ.out, List.getD_eq_getElem?_getD, List.getElem?_eq_getElem (by omega), Option.getD_some]
end Go.Proofs.Ytgpjfpcjiebjiaa
