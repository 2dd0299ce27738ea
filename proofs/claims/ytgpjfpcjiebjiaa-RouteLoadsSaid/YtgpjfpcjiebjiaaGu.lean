/- Walks: the reference's router: Load and New. Walks: the reference's router: New, and the first open choices behind some. Walks: the reference's router: a step. Walks: the reference's router: some steps; what it has found. -/
import Derived.Test.YtgpjfpcjiebjiaaGt
import Derived.Test.YtgpjfpcjiebjiaaGr
namespace Go.Proofs.Ytgpjfpcjiebjiaa
open Go.RowKit
set_option linter.unusedVariables false
set_option linter.unusedSimpArgs false
attribute [local go_sem ↓] Go.wp_at_zero Go.wp_at_succ

/-- The reference's router at g. -/
structure QAt (w : World) (ok : Nat → Prop) (g : Nat) (m : MZ) (s : RS) (f u t vn : Value) : Prop where
  blk : Blk w g 57 #[.int .i64 m.w, .int .i64 m.h, .int .i64 m.l, f, u, t, vn, .bool s.done, .int .i64 s.steps, .bool true]
  maze : MazeV w ok (.agg #[.int .i64 m.w, .int .i64 m.h, .int .i64 m.l, f, u, t]) m
  now : Ints w ok vn s.ch
  ng : ¬ ok g
def QR2 (w : World) (ok : Nat → Prop) (g : Nat) (m : MZ) (s : RS) : Prop := ∃ f u t vn, QAt w ok g m s f u t vn
section
variable {w w' : World} {ok ok' : Nat → Prop} {g : Nat} {m : MZ} {s : RS} {f u t vn : Value}
theorem QAt.lt (h : QAt w ok g m s f u t vn) : g < w.heap.size := lt_of_some h.blk
theorem QAt.ext (h : QAt w ok g m s f u t vn) (hE : Ext w w') : QAt w' ok g m s f u t vn := ⟨h.blk.ext hE, h.maze.below hE, h.now.below hE, h.ng⟩
theorem QAt.keep (h : QAt w ok g m s f u t vn) (hk : ∀ b, b < w.heap.size → b = g ∨ ok b → w'.heap[b]? = w.heap[b]?) : QAt w' ok g m s f u t vn :=
  ⟨(hk g h.lt (.inl rfl)).trans h.blk, h.maze.keep (fun b hb hlt => hk b hlt (.inr hb)), h.now.keep (fun b hb hlt => hk b hlt (.inr hb)), h.ng⟩
theorem QR2.keep (h : QR2 w ok g m s) (hk : ∀ b, b < w.heap.size → b = g ∨ ok b → w'.heap[b]? = w.heap[b]?) : QR2 w' ok g m s := by
  obtain ⟨f, u, t, vn, h⟩ := h
  exact ⟨f, u, t, vn, h.keep hk⟩
theorem QR2.ext (h : QR2 w ok g m s) (hE : Ext w w') : QR2 w' ok g m s := by
  obtain ⟨f, u, t, vn, h⟩ := h
  exact ⟨f, u, t, vn, h.ext hE⟩
theorem QR2.weaken (h : QR2 w ok g m s) (hk : ∀ b, ok b → ok' b) (hg : ¬ ok' g) : QR2 w ok' g m s := by
  obtain ⟨f, u, t, vn, h⟩ := h
  exact ⟨f, u, t, vn, h.blk, h.maze.weaken hk, h.now.weaken hk, hg⟩
theorem QR2.lt (h : QR2 w ok g m s) : g < w.heap.size := by
  obtain ⟨f, u, t, vn, h⟩ := h
  exact h.lt
end
def QLoadPost (w : World) (ok okc : Nat → Prop) (m : MZ) (ch : List Int) (st : Int) (e : Ending) (w' : World) : Prop :=
  ∃ v, e = .returned (.tuple #[v, .int .i64 (loadE m ch st)]) ∧ Ext w w' ∧
    ((loadE m ch st ≠ 0 ∧ v = .pointer none) ∨ (loadE m ch st = 0 ∧ Good m ∧ IsCh m ch ∧ ∃ g, v = ptrV g ∧ w.heap.size ≤ g ∧ QR2 w' (fun b => (ok b ∨ w.heap.size ≤ b) ∧ b ≠ g) g m (loadS m ch st)))

set_option maxHeartbeats 4000000 in
set_option maxRecDepth 100000 in
theorem qLoad_calls {ok okc : Nat → Prop} {v vc : Value} {m : MZ} {ch : List Int} (st : Int) (w : World) (hm : MazeV w ok v m) (hl : Lens m) (hch : Ints w okc vc ch) (hlc : ch.length ≤ 20000000000000) :
    Calls Try.prog 33 #[v, vc, .int .i64 st] w (QLoadPost w ok okc m ch st) := by
  have HMZ := Lib.hid hm
  obtain ⟨vfr, vup, vts, rfl, -, -, -⟩ := hm
  have HCH := Lib.hid hch
  obtain ⟨A, c, rfl, hcc, -⟩ := hch
  have HL := Lib.hid hl
  clear hl
  obtain ⟨ck, hck⟩ : ∃ ck, ck = chk m := ⟨_, rfl⟩
  have HCK := Lib.hid hck; clear hck
  go_enter Try.func33, Try.ntmps33
  go_wp2_with fail
  generalize hw1 : w.alloc (.cells #[.int .i64 m.w, .int .i64 m.h, .int .i64 m.l, vfr, vup, vts] 31) = w1
  have hb1 : Ext w w1 := by rw [← hw1]; exact (Ext.refl w).alloc _
  have hgm : Blk w1 w.heap.size 31 #[.int .i64 m.w, .int .i64 m.h, .int .i64 m.l, vfr, vup, vts] := by rw [← hw1]; exact heap_alloc_new _ _
  clear hw1
  obtain ⟨m0, m1, m2, m3, m4, m5⟩ := cells6 hgm
  have c0 := Ext.rule m0
  have c1 := Ext.rule m1
  have c2 := Ext.rule m2
  have c3 := Ext.rule m3
  have c4 := Ext.rule m4
  have c5 := Ext.rule m5
  clear m0 m1 m2 m3 m4 m5 hgm
  refine (qcheck_calls w1 (HMZ.out.below hb1) HL.out).mono ?_
  rintro e w2 ⟨rfl, hx2⟩
  have hx2 : Ext w1 w2 := hx2
  have hE2 : Ext w w2 := hb1.trans hx2
  rw [← HCK.out]
  by_cases h0 : ck = 0
  case neg =>
    have hq1 : (ck == 0) = false := by rw [beq_eq_false_iff_ne]; exact h0
    have hq2 : (ck != 0) = true := by rw [bne_iff_ne]; exact h0
    have hle : loadE m ch st = ck := by unfold loadE; rw [← HCK.out, if_pos h0]
    have HFIN : Hid (QLoadPost w ok okc m ch st (.returned (.tuple #[.pointer none, .int .i64 ck])) w2) := ⟨_, by rw [hle], hE2, .inl ⟨by rw [hle]; exact h0, rfl⟩⟩
    clear h0 hle
    go_wp2_with fail
    go_ret2
    exact HFIN.out
  case pos =>
    subst h0
    have HG := Lib.hid (Good.of HCK.out.symm)
    by_cases hst : st < 0
    · have hq1 : decide (st < 0) = true := decide_eq_true hst
      have hle : loadE m ch st = 1 := by unfold loadE; rw [← HCK.out, if_neg (by simp), if_pos hst]
      have HFIN : Hid (QLoadPost w ok okc m ch st (.returned (.tuple #[.pointer none, .int .i64 1])) w2) := ⟨_, by rw [hle], hE2, .inl ⟨by rw [hle]; decide, rfl⟩⟩
      clear hle
      go_wp2_with fail
      go_ret2
      exact HFIN.out
    · have hq1 : decide (st < 0) = false := decide_eq_false hst
      have HLE : Hid (loadE m ch st = if (isChB m ch && (decide (ch = []) || openC m ch)) = true then 0 else 51) := by show _ = _; unfold loadE; rw [← HCK.out, if_neg (by simp), if_neg hst]
      have HST := Lib.hid hst
      clear hst
      by_cases hne : ch = []
      · have hl0 : ch.length = 0 := by rw [hne]; rfl
        have hq2 : decide ((0 : Int) < (ch.length : Int)) = false := decide_eq_false (by omega)
        have hq3 : decide (0 < ch.length) = false := decide_eq_false (by omega)
        have HL0 : Hid (loadE m ch st = 0) := by show _ = _; rw [HLE.out, hne]; rfl
        have HIC : Hid (IsCh m ch) := by show IsCh _ _; rw [hne]; exact IsCh.nil
        have HNE : Hid (decide (ch = []) = decide (ch.length = 0)) := by show _ = _; rw [hne]; rfl
        have hl300 : ch.length ≤ 300 := by omega
        obtain ⟨wN, hwN⟩ : ∃ wN, wN = w2 := ⟨_, rfl⟩
        have hxN : Ext w1 wN := by rw [hwN]; exact hx2
        clear hne hl0
        rw [← hwN]
        clear hwN hE2 hx2
        go_wp2_with fail
        go_upto_region 8 with fail
        refine wp_region_held_drew (S := (fun W => Ext w1 W)) mixedA (hxN.drew) (fun hHeld => ?_)
        have hHd : Ext w1 wN.drew := hHeld
        have hd0 : Ext wN wN.drew := (Ext.refl wN).drew
        generalize wN.drew = wd at hd0 hHeld hHd ⊢
        refine wpAnyH_take (i := 0) (v := ?v1) rfl (by kernel_rfl) (by kernel_rfl) (by kernel_rfl) (fun _ _ _ h => h) (Or.inl ⟨?w1, ?y1⟩) hHeld ?r1
        case w1 => rfl
        case y1 => (intro w hSw; go_simp; try with_reducible rfl)
        simp only [List.getElem_toArray, List.getElem_cons_zero, Act.put, List.setIfInBounds_toArray, List.set_cons_zero, List.set_cons_succ]
        refine wpAnyH_take (i := 2) (v := ?v2) rfl (by kernel_rfl) (by kernel_rfl) (by kernel_rfl) (fun _ _ _ h => h) (Or.inl ⟨?w2, ?y2⟩) hHeld ?r2
        case w2 => rfl
        case y2 => (intro w hSw; go_simp; try with_reducible rfl)
        simp only [List.getElem_toArray, List.getElem_cons_succ, List.getElem_cons_zero, Act.put, List.setIfInBounds_toArray, List.set_cons_zero, List.set_cons_succ]
        refine wpAnyH_take (i := 4) (v := ?v3) rfl (by kernel_rfl) (by kernel_rfl) (by kernel_rfl) (fun _ _ _ h => h) (Or.inl ⟨?w3, ?y3⟩) hHeld ?r3
        case w3 => rfl
        case y3 => (intro w hSw; go_simp; try with_reducible rfl)
        simp only [List.getElem_toArray, List.getElem_cons_succ, List.getElem_cons_zero, Act.put, List.setIfInBounds_toArray, List.set_cons_zero, List.set_cons_succ]
        refine wpAnyH_ready (rs := [1]) (by kernel_rfl) (by simp) ?_
        refine AllReadyH.cons rfl (fun K hK => ?_) ?_
        · go_simp
          refine hK.out _ _ (hHeld.alloc _) (fun hHeld => ?_)
          clear hK K
          try simp only [List.getElem_toArray, List.getElem_cons_succ, List.getElem_cons_zero, Act.put, List.setIfInBounds_toArray, List.set_cons_zero, List.set_cons_succ]
          refine wpAnyH_ready (rs := [3]) (by kernel_rfl) (by simp) ?_
          refine AllReadyH.cons rfl (fun K hK => ?_) ?_
          · refine step_append_ints (ok := okc) (by rfl) _ _ _ (by rfl) wd.heap.size [] ch _ _ (by rfl) (by rfl) (own_empty wd wd.heap.size (Nat.le_refl _)) (HCH.out.below ((hb1.trans hHd).alloc _)) (by simp) (by simp; omega) ?_
            intro vN w9 ho9 hg9 hat9
            have HE9 : Hid (Ext wd w9) := below_app ((Ext.refl wd).alloc (.cells #[] 3)) hg9 (by simp) (fun k hk => own_base (own_empty wd wd.heap.size (Nat.le_refl _)) hk)
            rw [List.nil_append] at ho9
            have HO9 := Lib.hid ho9
            obtain ⟨A9, n9, c9, rfl⟩ := own_slice3 ho9
            clear ho9 hg9 hat9
            refine hK.out _ _ (hHd.trans HE9.out) (fun hHeld => ?_)
            clear hK K
            try simp only [List.getElem_toArray, List.getElem_cons_succ, List.getElem_cons_zero, Act.put, List.setIfInBounds_toArray, List.set_cons_zero, List.set_cons_succ]
            refine wpAnyH_ready (rs := [5]) (by kernel_rfl) (by simp) ?_
            refine AllReadyH.cons rfl (fun K hK => ?_) ?_
            · go_simp
              refine hK.out _ _ (hHeld) (fun hHeld => ?_)
              clear hK K
              try simp only [List.getElem_toArray, List.getElem_cons_succ, List.getElem_cons_zero, Act.put, List.setIfInBounds_toArray, List.set_cons_zero, List.set_cons_succ]
              refine wpAnyH_ready (rs := [6]) (by kernel_rfl) (by simp) ?_
              refine AllReadyH.cons rfl (fun K hK => ?_) ?_
              · go_simp
                refine hK.out _ _ (hHeld.alloc _) (fun hHeld => ?_)
                clear hK K
                try simp only [List.getElem_toArray, List.getElem_cons_succ, List.getElem_cons_zero, Act.put, List.setIfInBounds_toArray, List.set_cons_zero, List.set_cons_succ]
                refine wpAnyH_ready (rs := [7]) (by kernel_rfl) (by simp) ?_
                refine AllReadyH.cons rfl (fun K hK => ?_) ?_
                · go_simp
                  refine hK.out _ _ (hHeld) (fun hHeld => ?_)
                  clear hK K
                  try simp only [List.getElem_toArray, List.getElem_cons_succ, List.getElem_cons_zero, Act.put, List.setIfInBounds_toArray, List.set_cons_zero, List.set_cons_succ]
                  refine wpAnyH_done (by kernel_rfl) ?_ _
                  go_wp2_with fail
                  have hE9w : Ext w w9 := hb1.trans (hHd.trans HE9.out)
                  have hlew := hE9w.size
                  have hBX : Blk (w9.alloc (.cells #[.int .i64 m.w, .int .i64 m.h, .int .i64 m.l, vfr, vup, vts, .slice A9 n9 c9, .bool false, .int .i64 st, .bool true] 57)) w9.heap.size 57 #[.int .i64 m.w, .int .i64 m.h, .int .i64 m.l, vfr, vup, vts, .slice A9 n9 c9, .bool false, .int .i64 st, .bool true] := Blk.new _ _ _ rfl
                  have hEX : Ext w9 (w9.alloc (.cells #[.int .i64 m.w, .int .i64 m.h, .int .i64 m.l, vfr, vup, vts, .slice A9 n9 c9, .bool false, .int .i64 st, .bool true] 57)) := (Ext.refl w9).alloc _
                  generalize w9.alloc (.cells #[.int .i64 m.w, .int .i64 m.h, .int .i64 m.l, vfr, vup, vts, .slice A9 n9 c9, .bool false, .int .i64 st, .bool true] 57) = wX at hBX hEX hHeld ⊢
                  refine (qcomplete_calls wX (HMZ.out.below (hE9w.trans hEX)) HG.out HL.out (HCH.out.below (hE9w.trans hEX)) HIC.out).mono ?_
                  rintro e wY ⟨rfl, hxY⟩
                  have hBY : Blk wY w9.heap.size 57 #[.int .i64 m.w, .int .i64 m.h, .int .i64 m.l, vfr, vup, vts, .slice A9 n9 c9, .bool false, .int .i64 st, .bool true] := hBX.ext hxY
                  have hcY : wY.cell? ⟨w9.heap.size, 7, none⟩ = some (.bool false) := hBY.cell (k := 7) rfl
                  have hfY : wY.frozen? ⟨w9.heap.size, 7, none⟩ = false := hBY.frozen 7
                  have HFIN : Hid (∀ b, b = (cmpC m ch || (decide (ch = []) && decide (0 < st))) → QLoadPost w ok okc m ch st (.returned (.tuple #[ptrV w9.heap.size, .int .i64 0])) (wY.setCell ⟨w9.heap.size, 7, none⟩ (.bool b))) := fun b hb => by
                    have hEY : Ext w wY := hE9w.trans (hEX.trans hxY)
                    have hks : Same (fun b => b ≠ w9.heap.size) wY (wY.setCell ⟨w9.heap.size, 7, none⟩ (.bool b)) := fun k hk _ => Below.heap_setCell wY ⟨w9.heap.size, 7, none⟩ _ k hk
                    refine ⟨_, by rw [HL0.out], hEY.setCell (by show _ ≤ w9.heap.size; omega) _, .inr ⟨HL0.out, HG.out, HIC.out, w9.heap.size, rfl, by omega, vfr, vup, vts, .slice A9 n9 c9, ?_, ?_, ?_, fun h => h.2 rfl⟩⟩
                    · have h1 := hBY.set (k := 7) (.bool b)
                      rw [hb] at h1 ⊢
                      exact h1
                    · have h1 := (HMZ.out.bound.below hEY)
                      exact (h1.weaken (ok' := fun b => (ok b ∨ w.heap.size ≤ b) ∧ b ≠ w9.heap.size) (fun k hk => ⟨.inl hk.1, by have := hk.2; omega⟩)).keep (fun k hk hlt => hks k hk.2 hlt)
                    · have h1 : Ints w9 (fun k => wd.heap.size ≤ k ∧ k < w9.heap.size) (.slice A9 n9 c9) ch := (Ints.bound (Row.of_own HO9.out))
                      have h2 := hHd.size
                      have h3 := hb1.size
                      exact ((h1.below (hEX.trans hxY)).weaken (ok' := fun b => (ok b ∨ w.heap.size ≤ b) ∧ b ≠ w9.heap.size) (fun k hk => ⟨.inr (by have := hk.1; omega), by have := hk.2; omega⟩)).keep (fun k hk hlt => hks k hk.2 hlt)
                  clear hBX hBY hEX hHeld hxY hE9w hlew
                  obtain ⟨cb, hcb⟩ : ∃ cb, cb = cmpC m ch := ⟨_, rfl⟩
                  rw [← hcb] at HFIN ⊢
                  clear hcb
                  cases cb
                  · rw [HNE.out] at HFIN
                    by_cases h00 : ch.length = 0
                    · rw [decide_eq_true h00] at HFIN
                      by_cases hs0 : 0 < st
                      · have HF2 := Lib.hid (HFIN.out true (by rw [decide_eq_true hs0]; rfl))
                        have hd1 : decide (0 < st) = true := decide_eq_true hs0
                        have hd2 : ((ch.length : Int) == 0) = true := by rw [beq_iff_eq]; omega
                        clear HFIN h00 hq2 hq3
                        go_wp2_with fail
                        go_ret2
                        exact HF2.out
                      · have HF2 := Lib.hid (HFIN.out false (by rw [decide_eq_false hs0]; rfl))
                        have hd1 : decide (0 < st) = false := decide_eq_false hs0
                        have hd2 : ((ch.length : Int) == 0) = true := by rw [beq_iff_eq]; omega
                        clear HFIN h00 hq2 hq3
                        go_wp2_with fail
                        go_ret2
                        exact HF2.out
                    · rw [decide_eq_false h00] at HFIN
                      have HF2 := Lib.hid (HFIN.out false rfl)
                      have hd2 : ((ch.length : Int) == 0) = false := by rw [beq_eq_false_iff_ne]; omega
                      clear HFIN h00 hq2 hq3
                      go_wp2_with fail
                      go_ret2
                      exact HF2.out
                  · have HF2 := Lib.hid (HFIN.out true rfl)
                    clear HFIN hq2 hq3
                    go_wp2_with fail
                    go_ret2
                    exact HF2.out
                exact AllReadyH.nil
              exact AllReadyH.nil
            exact AllReadyH.nil
          exact AllReadyH.nil
        exact AllReadyH.nil
      · have hlp := List.length_pos_iff.2 hne
        have hq2 : decide ((0 : Int) < (ch.length : Int)) = true := decide_eq_true (by omega)
        have hq3 : decide (0 < ch.length) = true := decide_eq_true hlp
        have HNE : Hid (decide (ch = []) = decide (ch.length = 0)) := by show _ = _; rw [decide_eq_false hne, decide_eq_false (by omega)]
        have HOO : Hid (openO m ch = (isChB m ch && openC m ch)) := by show _ = _; unfold openO okC; rw [← HCK.out]; rfl
        have HDN : Hid (decide (ch = []) = false) := decide_eq_false hne
        clear hne
        go_wp2_with fail
        refine (qOpen_calls w2 (HMZ.out.below hE2) HL.out (HCH.out.below hE2) hlc).mono ?_
        rintro e wN ⟨rfl, hxN2⟩
        have hxN : Ext w1 wN := Ext.trans ‹Ext w1 w2› hxN2
        have hEN : Ext w wN := hb1.trans hxN
        cases hoo : openO m ch
        · have hle : loadE m ch st = 51 := by
            rw [HLE.out, HDN.out, Bool.false_or, ← HOO.out, hoo]; rfl
          have HFIN : Hid (QLoadPost w ok okc m ch st (.returned (.tuple #[.pointer none, .int .i64 51])) wN) := ⟨_, by rw [hle], hEN, .inl ⟨by rw [hle]; decide, rfl⟩⟩
          clear hle hoo
          go_wp2_with fail
          go_ret2
          exact HFIN.out
        · have HL0 : Hid (loadE m ch st = 0) := by
            show _ = _
            rw [HLE.out, HDN.out, Bool.false_or, ← HOO.out, hoo]; rfl
          have HIC : Hid (IsCh m ch) := by
            have h1 := HOO.out
            rw [hoo, eq_comm, Bool.and_eq_true] at h1
            exact isChB_iff.1 h1.1
          have hl300 : ch.length ≤ 300 := HIC.out.len300 HG.out
          clear hoo
          go_wp2_with fail
          refine wp_region_held_drew (S := (fun W => Ext w1 W)) mixedA (hxN.drew) (fun hHeld => ?_)
          have hHd : Ext w1 wN.drew := hHeld
          have hd0 : Ext wN wN.drew := (Ext.refl wN).drew
          generalize wN.drew = wd at hd0 hHeld hHd ⊢
          refine wpAnyH_take (i := 0) (v := ?v4) rfl (by kernel_rfl) (by kernel_rfl) (by kernel_rfl) (fun _ _ _ h => h) (Or.inl ⟨?w4, ?y4⟩) hHeld ?r4
          case w4 => rfl
          case y4 => (intro w hSw; go_simp; try with_reducible rfl)
          simp only [List.getElem_toArray, List.getElem_cons_zero, Act.put, List.setIfInBounds_toArray, List.set_cons_zero, List.set_cons_succ]
          refine wpAnyH_take (i := 2) (v := ?v5) rfl (by kernel_rfl) (by kernel_rfl) (by kernel_rfl) (fun _ _ _ h => h) (Or.inl ⟨?w5, ?y5⟩) hHeld ?r5
          case w5 => rfl
          case y5 => (intro w hSw; go_simp; try with_reducible rfl)
          simp only [List.getElem_toArray, List.getElem_cons_succ, List.getElem_cons_zero, Act.put, List.setIfInBounds_toArray, List.set_cons_zero, List.set_cons_succ]
          refine wpAnyH_take (i := 4) (v := ?v6) rfl (by kernel_rfl) (by kernel_rfl) (by kernel_rfl) (fun _ _ _ h => h) (Or.inl ⟨?w6, ?y6⟩) hHeld ?r6
          case w6 => rfl
          case y6 => (intro w hSw; go_simp; try with_reducible rfl)
          simp only [List.getElem_toArray, List.getElem_cons_succ, List.getElem_cons_zero, Act.put, List.setIfInBounds_toArray, List.set_cons_zero, List.set_cons_succ]
          refine wpAnyH_ready (rs := [1]) (by kernel_rfl) (by simp) ?_
          refine AllReadyH.cons rfl (fun K hK => ?_) ?_
          · go_simp
            refine hK.out _ _ (hHeld.alloc _) (fun hHeld => ?_)
            clear hK K
            try simp only [List.getElem_toArray, List.getElem_cons_succ, List.getElem_cons_zero, Act.put, List.setIfInBounds_toArray, List.set_cons_zero, List.set_cons_succ]
            refine wpAnyH_ready (rs := [3]) (by kernel_rfl) (by simp) ?_
            refine AllReadyH.cons rfl (fun K hK => ?_) ?_
            · refine step_append_ints (ok := okc) (by rfl) _ _ _ (by rfl) wd.heap.size [] ch _ _ (by rfl) (by rfl) (own_empty wd wd.heap.size (Nat.le_refl _)) (HCH.out.below ((hb1.trans hHd).alloc _)) (by simp) (by simp; omega) ?_
              intro vN w9 ho9 hg9 hat9
              have HE9 : Hid (Ext wd w9) := below_app ((Ext.refl wd).alloc (.cells #[] 3)) hg9 (by simp) (fun k hk => own_base (own_empty wd wd.heap.size (Nat.le_refl _)) hk)
              rw [List.nil_append] at ho9
              have HO9 := Lib.hid ho9
              obtain ⟨A9, n9, c9, rfl⟩ := own_slice3 ho9
              clear ho9 hg9 hat9
              refine hK.out _ _ (hHd.trans HE9.out) (fun hHeld => ?_)
              clear hK K
              try simp only [List.getElem_toArray, List.getElem_cons_succ, List.getElem_cons_zero, Act.put, List.setIfInBounds_toArray, List.set_cons_zero, List.set_cons_succ]
              refine wpAnyH_ready (rs := [5]) (by kernel_rfl) (by simp) ?_
              refine AllReadyH.cons rfl (fun K hK => ?_) ?_
              · go_simp
                refine hK.out _ _ (hHeld) (fun hHeld => ?_)
                clear hK K
                try simp only [List.getElem_toArray, List.getElem_cons_succ, List.getElem_cons_zero, Act.put, List.setIfInBounds_toArray, List.set_cons_zero, List.set_cons_succ]
                refine wpAnyH_ready (rs := [6]) (by kernel_rfl) (by simp) ?_
                refine AllReadyH.cons rfl (fun K hK => ?_) ?_
                · go_simp
                  refine hK.out _ _ (hHeld.alloc _) (fun hHeld => ?_)
                  clear hK K
                  try simp only [List.getElem_toArray, List.getElem_cons_succ, List.getElem_cons_zero, Act.put, List.setIfInBounds_toArray, List.set_cons_zero, List.set_cons_succ]
                  refine wpAnyH_ready (rs := [7]) (by kernel_rfl) (by simp) ?_
                  refine AllReadyH.cons rfl (fun K hK => ?_) ?_
                  · go_simp
                    refine hK.out _ _ (hHeld) (fun hHeld => ?_)
                    clear hK K
                    try simp only [List.getElem_toArray, List.getElem_cons_succ, List.getElem_cons_zero, Act.put, List.setIfInBounds_toArray, List.set_cons_zero, List.set_cons_succ]
                    refine wpAnyH_done (by kernel_rfl) ?_ _
                    go_wp2_with fail
                    have hE9w : Ext w w9 := hb1.trans (hHd.trans HE9.out)
                    have hlew := hE9w.size
                    have hBX : Blk (w9.alloc (.cells #[.int .i64 m.w, .int .i64 m.h, .int .i64 m.l, vfr, vup, vts, .slice A9 n9 c9, .bool false, .int .i64 st, .bool true] 57)) w9.heap.size 57 #[.int .i64 m.w, .int .i64 m.h, .int .i64 m.l, vfr, vup, vts, .slice A9 n9 c9, .bool false, .int .i64 st, .bool true] := Blk.new _ _ _ rfl
                    have hEX : Ext w9 (w9.alloc (.cells #[.int .i64 m.w, .int .i64 m.h, .int .i64 m.l, vfr, vup, vts, .slice A9 n9 c9, .bool false, .int .i64 st, .bool true] 57)) := (Ext.refl w9).alloc _
                    generalize w9.alloc (.cells #[.int .i64 m.w, .int .i64 m.h, .int .i64 m.l, vfr, vup, vts, .slice A9 n9 c9, .bool false, .int .i64 st, .bool true] 57) = wX at hBX hEX hHeld ⊢
                    refine (qcomplete_calls wX (HMZ.out.below (hE9w.trans hEX)) HG.out HL.out (HCH.out.below (hE9w.trans hEX)) HIC.out).mono ?_
                    rintro e wY ⟨rfl, hxY⟩
                    have hBY : Blk wY w9.heap.size 57 #[.int .i64 m.w, .int .i64 m.h, .int .i64 m.l, vfr, vup, vts, .slice A9 n9 c9, .bool false, .int .i64 st, .bool true] := hBX.ext hxY
                    have hcY : wY.cell? ⟨w9.heap.size, 7, none⟩ = some (.bool false) := hBY.cell (k := 7) rfl
                    have hfY : wY.frozen? ⟨w9.heap.size, 7, none⟩ = false := hBY.frozen 7
                    have HFIN : Hid (∀ b, b = (cmpC m ch || (decide (ch = []) && decide (0 < st))) → QLoadPost w ok okc m ch st (.returned (.tuple #[ptrV w9.heap.size, .int .i64 0])) (wY.setCell ⟨w9.heap.size, 7, none⟩ (.bool b))) := fun b hb => by
                      have hEY : Ext w wY := hE9w.trans (hEX.trans hxY)
                      have hks : Same (fun b => b ≠ w9.heap.size) wY (wY.setCell ⟨w9.heap.size, 7, none⟩ (.bool b)) := fun k hk _ => Below.heap_setCell wY ⟨w9.heap.size, 7, none⟩ _ k hk
                      refine ⟨_, by rw [HL0.out], hEY.setCell (by show _ ≤ w9.heap.size; omega) _, .inr ⟨HL0.out, HG.out, HIC.out, w9.heap.size, rfl, by omega, vfr, vup, vts, .slice A9 n9 c9, ?_, ?_, ?_, fun h => h.2 rfl⟩⟩
                      · have h1 := hBY.set (k := 7) (.bool b)
                        rw [hb] at h1 ⊢
                        exact h1
                      · have h1 := (HMZ.out.bound.below hEY)
                        exact (h1.weaken (ok' := fun b => (ok b ∨ w.heap.size ≤ b) ∧ b ≠ w9.heap.size) (fun k hk => ⟨.inl hk.1, by have := hk.2; omega⟩)).keep (fun k hk hlt => hks k hk.2 hlt)
                      · have h1 : Ints w9 (fun k => wd.heap.size ≤ k ∧ k < w9.heap.size) (.slice A9 n9 c9) ch := (Ints.bound (Row.of_own HO9.out))
                        have h2 := hHd.size
                        have h3 := hb1.size
                        exact ((h1.below (hEX.trans hxY)).weaken (ok' := fun b => (ok b ∨ w.heap.size ≤ b) ∧ b ≠ w9.heap.size) (fun k hk => ⟨.inr (by have := hk.1; omega), by have := hk.2; omega⟩)).keep (fun k hk hlt => hks k hk.2 hlt)
                    clear hBX hBY hEX hHeld hxY hE9w hlew
                    obtain ⟨cb, hcb⟩ : ∃ cb, cb = cmpC m ch := ⟨_, rfl⟩
                    rw [← hcb] at HFIN ⊢
                    clear hcb
                    cases cb
                    · rw [HNE.out] at HFIN
                      by_cases h00 : ch.length = 0
                      · rw [decide_eq_true h00] at HFIN
                        by_cases hs0 : 0 < st
                        · have HF2 := Lib.hid (HFIN.out true (by rw [decide_eq_true hs0]; rfl))
                          have hd1 : decide (0 < st) = true := decide_eq_true hs0
                          have hd2 : ((ch.length : Int) == 0) = true := by rw [beq_iff_eq]; omega
                          clear HFIN h00 hq2 hq3
                          go_wp2_with fail
                          go_ret2
                          exact HF2.out
                        · have HF2 := Lib.hid (HFIN.out false (by rw [decide_eq_false hs0]; rfl))
                          have hd1 : decide (0 < st) = false := decide_eq_false hs0
                          have hd2 : ((ch.length : Int) == 0) = true := by rw [beq_iff_eq]; omega
                          clear HFIN h00 hq2 hq3
                          go_wp2_with fail
                          go_ret2
                          exact HF2.out
                      · rw [decide_eq_false h00] at HFIN
                        have HF2 := Lib.hid (HFIN.out false rfl)
                        have hd2 : ((ch.length : Int) == 0) = false := by rw [beq_eq_false_iff_ne]; omega
                        clear HFIN h00 hq2 hq3
                        go_wp2_with fail
                        go_ret2
                        exact HF2.out
                    · have HF2 := Lib.hid (HFIN.out true rfl)
                      clear HFIN hq2 hq3
                      go_wp2_with fail
                      go_ret2
                      exact HF2.out
                  exact AllReadyH.nil
                exact AllReadyH.nil
              exact AllReadyH.nil
            exact AllReadyH.nil
          exact AllReadyH.nil
end Go.Proofs.Ytgpjfpcjiebjiaa

namespace Go.Proofs.Ytgpjfpcjiebjiaa
open Go.RowKit
set_option linter.unusedVariables false
set_option linter.unusedSimpArgs false
attribute [local go_sem ↓] Go.wp_at_zero Go.wp_at_succ

set_option maxHeartbeats 4000000 in
set_option maxRecDepth 100000 in
theorem qNew_calls {ok : Nat → Prop} {v : Value} {m : MZ} (w : World) (hm : MazeV w ok v m) (hl : Lens m) :
    Calls Try.prog 23 #[v] w (QLoadPost w ok (fun _ => False) m [] 0) := by
  have HMZ := Lib.hid hm
  obtain ⟨vfr, vup, vts, rfl, -, -, -⟩ := hm
  have HL := Lib.hid hl
  clear hl
  go_enter Try.func23, Try.ntmps23
  go_wp2_with fail
  refine (qLoad_calls (okc := fun _ => False) 0 _ (HMZ.out.below ((Ext.refl w).alloc _)) HL.out (Ints.nil _ _) (by simp)).mono ?_
  rintro e w' ⟨v', rfl, hE, hP⟩
  have HFIN : Hid (QLoadPost w ok (fun _ => False) m [] 0 (.returned (.tuple #[v', .int .i64 (loadE m [] 0)])) w') := by
    refine ⟨v', rfl, ((Ext.refl w).alloc _).trans hE, ?_⟩
    rcases hP with h | ⟨h1, h2, h3, g, h4, h5, h6⟩
    · exact .inl h
    · have hs : w.heap.size + 1 ≤ g := by simpa using h5
      refine .inr ⟨h1, h2, h3, g, h4, by omega, h6.weaken (fun b hb => ⟨?_, hb.2⟩) (fun h => h.2 rfl)⟩
      rcases hb.1 with hb | hb
      · exact .inl hb
      · refine .inr ?_
        have h9 : w.heap.size + 1 ≤ b := (by simpa using hb)
        omega
  clear hP hE
  go_wp2_with fail
  go_ret2
  exact HFIN.out

/-- What after has found. -/
def AftPost (w : World) (m : MZ) (ch : List Int) (last : Int) (e : Ending) (w' : World) : Prop :=
  Ext w w' ∧ ((∃ n v, aft m ch last = some n ∧ e = .returned (.tuple #[v, .bool true]) ∧ Ints w' (fun b => w.heap.size ≤ b) v (ch ++ [n])) ∨ (aft m ch last = none ∧ e = .returned (.tuple #[.slice none 0 0, .bool false])))

set_option maxHeartbeats 4000000 in
set_option maxRecDepth 100000 in
theorem qafter_calls {ok okc : Nat → Prop} {vc : Value} {m : MZ} {s : RS} {gq : Nat} {ch : List Int} (last : Int) (w : World) (hq : QR2 w ok gq m s) (g : Good m) (hl : Lens m) (hch : Ints w okc vc ch) (hc : IsCh m ch) :
    Calls Try.prog 84 #[.pointer (some ⟨gq, 0, none⟩), vc, .int .i64 last] w (AftPost w m ch last) := by
  have hlen := hc.len300 g
  obtain ⟨vfr, vup, vts, vn, hq⟩ := hq
  have HMZ := Lib.hid hq.maze
  have HCH := Lib.hid hch
  obtain ⟨A, c, rfl, hcc, hr⟩ := hch
  have HC := Lib.hid hc
  have HL := Lib.hid hl
  have HG := Lib.hid g
  have hB := hq.blk
  have c0 : ∀ W, Ext w W → W.cell? ⟨gq, 0, none⟩ = some (.int .i64 m.w) := Ext.rule (hB.cell (k := 0) rfl)
  have c1 : ∀ W, Ext w W → W.cell? ⟨gq, 1, none⟩ = some (.int .i64 m.h) := Ext.rule (hB.cell (k := 1) rfl)
  have c2 : ∀ W, Ext w W → W.cell? ⟨gq, 2, none⟩ = some (.int .i64 m.l) := Ext.rule (hB.cell (k := 2) rfl)
  have c3 : ∀ W, Ext w W → W.cell? ⟨gq, 3, none⟩ = some vfr := Ext.rule (hB.cell (k := 3) rfl)
  have c4 : ∀ W, Ext w W → W.cell? ⟨gq, 4, none⟩ = some vup := Ext.rule (hB.cell (k := 4) rfl)
  have c5 : ∀ W, Ext w W → W.cell? ⟨gq, 5, none⟩ = some vts := Ext.rule (hB.cell (k := 5) rfl)
  have hx0 : Ext w w := Ext.refl w
  have hlc := cand_len hl ch
  clear hr hq hc hl g hB
  go_enter Try.func84, Try.ntmps84
  go_wp2_with fail
  refine (qbehind_calls w (HMZ.out) HG.out HL.out HCH.out HC.out).mono ?_
  rintro e w1 ⟨v1, rfl, hM1⟩
  have hx1 : Ext w w1 := hM1.ext
  have HM1 := Lib.hid hM1.own
  obtain ⟨A1, c1', rfl, hc1⟩ := hM1.slice
  obtain ⟨L, hL⟩ : ∃ L, L = cand m ch := ⟨_, rfl⟩
  rw [← hL] at HM1 hc1 hlc ⊢
  have HLL := Lib.hid hL
  clear hM1 hL hx0
  go_wp2_with fail
  go_loopw [9] (fun i wr => ∃ k : Nat, k ≤ L.length ∧ i = .int .i64 k ∧ Hid (∀ n ∈ L.take k, ¬ (last < n ∧ openC m (ch ++ [n]) = true)) ∧ Hid (Ext w1 wr)) (fun i _ => L.length - (intOf i).toNat)
  case atStart => exact ⟨0, Nat.zero_le _, rfl, fun n hn => (by simp at hn), Ext.refl _⟩
  case round =>
    obtain ⟨k, hk, rfl, hN, hX⟩ := hrel
    obtain ⟨wk, rfl⟩ : ∃ wk : World, wk = wr := ⟨_, rfl⟩
    have hx1k : Ext w1 wk := hX.out
    have hxk : Ext w wk := hx1.trans hx1k
    by_cases hlt : k < L.length
    · obtain ⟨b3, e3, hb3, hcell⟩ := own_at HM1.out hlt
      subst e3
      have hsucc := Lib.hid (List.take_succ_eq_append_getElem hlt)
      have HAT : Hid (∀ h2 : last < L[k], openC m (ch ++ [L[k]]) = true → aft m ch last = some L[k]) := fun h2 h3 => by
        have h4 := HLL.out
        subst h4
        exact aft_at hlt hN.out h2 h3
      have HIC : Hid (IsCh m (ch ++ [L[k]])) := IsCh.snoc HC.out (by rw [← HLL.out]; exact List.getElem_mem hlt)
      obtain ⟨x, hxx⟩ : ∃ x, x = L[k] := ⟨_, rfl⟩
      rw [← hxx] at hcell hsucc HAT HIC
      have rx := Ext.rule hcell
      clear hcell hxx
      go_wp2_with fail
      refine wp_region_held_drew (S := (fun W => Ext w1 W)) mixedA (hx1k.drew) (fun hHeld => ?_)
      have hd0 : Ext wk wk.drew := (Ext.refl wk).drew
      have hxd : Ext w wk.drew := hxk.drew
      generalize wk.drew = wd at hd0 hHeld hxd ⊢
      refine wpAnyH_take (i := 1) (v := ?v1) rfl (by kernel_rfl) (by kernel_rfl) (by kernel_rfl) (fun _ _ _ h => h) (Or.inl ⟨?w1, ?y1⟩) hHeld ?r1
      case w1 => rfl
      case y1 => (intro w hSw; go_simp; try with_reducible rfl)
      simp only [List.getElem_toArray, List.getElem_cons_succ, List.getElem_cons_zero, Act.put, List.setIfInBounds_toArray, List.set_cons_zero, List.set_cons_succ]
      refine wpAnyH_take (i := 3) (v := ?v2) rfl (by kernel_rfl) (by kernel_rfl) (by kernel_rfl) (fun _ _ _ h => h) (Or.inl ⟨?w2, ?y2⟩) hHeld ?r2
      case w2 => rfl
      case y2 => (intro w hSw; go_simp; try with_reducible rfl)
      simp only [List.getElem_toArray, List.getElem_cons_succ, List.getElem_cons_zero, Act.put, List.setIfInBounds_toArray, List.set_cons_zero, List.set_cons_succ]
      refine wpAnyH_take (i := 4) (v := ?v3) rfl (by kernel_rfl) (by kernel_rfl) (by kernel_rfl) (fun _ _ _ h => h) (Or.inl ⟨?w3, ?y3⟩) hHeld ?r3
      case w3 => rfl
      case y3 => (intro w hSw; go_simp; try with_reducible rfl)
      simp only [List.getElem_toArray, List.getElem_cons_succ, List.getElem_cons_zero, Act.put, List.setIfInBounds_toArray, List.set_cons_zero, List.set_cons_succ]
      refine wpAnyH_take (i := 5) (v := ?v4) rfl (by kernel_rfl) (by kernel_rfl) (by kernel_rfl) (fun _ _ _ h => h) (Or.inl ⟨?w4, ?y4⟩) hHeld ?r4
      case w4 => rfl
      case y4 => (intro w hSw; go_simp; try with_reducible rfl)
      simp only [List.getElem_toArray, List.getElem_cons_succ, List.getElem_cons_zero, Act.put, List.setIfInBounds_toArray, List.set_cons_zero, List.set_cons_succ]
      refine wpAnyH_take (i := 6) (v := ?v5) rfl (by kernel_rfl) (by kernel_rfl) (by kernel_rfl) (fun _ _ _ h => h) (Or.inl ⟨?w5, ?y5⟩) hHeld ?r5
      case w5 => rfl
      case y5 => (intro w hSw; go_simp; try with_reducible rfl)
      simp only [List.getElem_toArray, List.getElem_cons_succ, List.getElem_cons_zero, Act.put, List.setIfInBounds_toArray, List.set_cons_zero, List.set_cons_succ]
      refine wpAnyH_ready (rs := [0, 7]) (by kernel_rfl) (by simp) ?_
      refine AllReadyH.cons rfl (fun K hK => ?_) ?_
      · go_simp
        have HOE1 : Hid (OwnI (wd.alloc (.cells #[] 3)) wd.heap.size (.slice (some ⟨wd.heap.size, 0, none⟩) 0 0) []) := by have h := own_empty wd wd.heap.size (Ext.refl wd).size; exact (show OwnI _ _ _ _ by simpa using h)
        refine hK.out _ _ (hHeld.alloc _) (fun hHeld => ?_)
        clear hK K
        try simp only [List.getElem_toArray, List.getElem_cons_succ, List.getElem_cons_zero, Act.put, List.setIfInBounds_toArray, List.set_cons_zero, List.set_cons_succ]
        refine wpAnyH_ready (rs := [2, 7]) (by kernel_rfl) (by simp) ?_
        refine AllReadyH.cons rfl (fun K hK => ?_) ?_
        · have hXW2 : Ext wd (wd.alloc (.cells #[] 3)) := (Ext.refl wd).alloc (.cells #[] 3)
          refine step_append_ints (ok := okc) (by rfl) _ _ _ (by rfl) wd.heap.size [] ch _ _ (by rfl) (by rfl) HOE1.out (HCH.out.below (hxd.trans hXW2)) hXW2.size (by simp; omega) ?_
          intro v2 w2 ho2 hg2 hat2
          have hE2 : Ext wd w2 := below_app hXW2 hg2 hXW2.size (fun k hk => own_base HOE1.out hk)
          rw [List.nil_append] at ho2
          have HOA2 := Lib.hid ho2
          obtain ⟨A2, n2, cc2, rfl⟩ := own_slice3 ho2
          clear ho2 hg2 hat2
          refine hK.out _ _ (hx1k.trans (hd0.trans hE2)) (fun hHeld => ?_)
          clear hK K
          try simp only [List.getElem_toArray, List.getElem_cons_succ, List.getElem_cons_zero, Act.put, List.setIfInBounds_toArray, List.set_cons_zero, List.set_cons_succ]
          refine wpAnyH_ready (rs := [7]) (by kernel_rfl) (by simp) ?_
          refine AllReadyH.cons rfl (fun K hK => ?_) ?_
          · go_simp
            have HC3 : Hid ((w2.alloc (.cells #[.int .i64 x] 3)).cell? ⟨w2.heap.size, 0, none⟩ = some (.int .i64 x)) := cell_new _ _ _ (by simp)
            have HOE3 := Lib.hid (HOA2.out.ext ((Ext.refl w2).alloc (.cells #[.int .i64 x] 3)))
            refine hK.out _ _ (hHeld.alloc _) (fun hHeld => ?_)
            clear hK K
            try simp only [List.getElem_toArray, List.getElem_cons_succ, List.getElem_cons_zero, Act.put, List.setIfInBounds_toArray, List.set_cons_zero, List.set_cons_succ]
            refine wpAnyH_ready (rs := [8]) (by kernel_rfl) (by simp) ?_
            refine AllReadyH.cons rfl (fun K hK => ?_) ?_
            · have hXW4 : Ext wd (w2.alloc (.cells #[.int .i64 x] 3)) := (hE2).alloc (.cells #[.int .i64 x] 3)
              refine step_append_ints (ok := fun _ => True) (by rfl) _ _ _ (by rfl) wd.heap.size ch [x] _ _ (by rfl) (by rfl) HOE3.out (ints_one HC3.out) hXW4.size (by simp; omega) ?_
              intro vn w9 ho4 hg4 hat4
              have hE9 : Ext wd w9 := below_app hXW4 hg4 hXW4.size (fun k hk => own_base HOE3.out hk)
              have HO9 := Lib.hid ho4
              obtain ⟨A9, n9, c9, rfl⟩ := own_slice3 ho4
              clear ho4 hg4 hat4
              refine hK.out _ _ (hx1k.trans (hd0.trans hE9)) (fun hHeld => ?_)
              clear hK K
              try simp only [List.getElem_toArray, List.getElem_cons_succ, List.getElem_cons_zero, Act.put, List.setIfInBounds_toArray, List.set_cons_zero, List.set_cons_succ]
              refine wpAnyH_ready (rs := [9]) (by kernel_rfl) (by simp) ?_
              refine AllReadyH.cons rfl (fun K hK => ?_) ?_
              · go_simp
                refine hK.out _ _ (hHeld) (fun hHeld => ?_)
                clear hK K
                try simp only [List.getElem_toArray, List.getElem_cons_succ, List.getElem_cons_zero, Act.put, List.setIfInBounds_toArray, List.set_cons_zero, List.set_cons_succ]
                refine wpAnyH_done (by kernel_rfl) ?_ _
                have hx19 : Ext w1 w9 := hx1k.trans (hd0.trans hE9)
                have hx9 : Ext w w9 := hx1.trans hx19
                have hsz9 : w.heap.size ≤ wd.heap.size := hxd.size
                clear hd0 hxd hHeld
                by_cases hlx : last < x
                · have hq1 : decide (last < x) = true := decide_eq_true hlx
                  have HAT' := Lib.hid (HAT.out hlx)
                  clear hlx
                  go_wp2_with fail
                  refine (qopen_calls w9 (HMZ.out.below hx9) HG.out HL.out (Row.of_own HO9.out) HIC.out).mono ?_
                  rintro e wz ⟨rfl, hxz⟩
                  cases hoo : openC m (ch ++ [x])
                  · have HN' : Hid (∀ n ∈ L.take (k + 1), ¬ (last < n ∧ openC m (ch ++ [n]) = true)) := fun n hn => by
                      rw [hsucc.out, List.mem_append, List.mem_singleton] at hn
                      rcases hn with hn | rfl
                      · exact hN.out n hn
                      · rintro ⟨h1, h2⟩; rw [hoo] at h2; cases h2
                    clear hoo
                    go_wp2_with fail
                    go_roundw
                    case rel => exact ⟨k + 1, hlt, by go_num, HN', hx19.trans hxz⟩
                    case measure => simp [intOf]; omega
                  · have hA := HAT'.out hoo
                    have HFIN : Hid (AftPost w m ch last (.returned (.tuple #[.slice A9 n9 c9, .bool true])) wz) := ⟨hx9.trans hxz, .inl ⟨x, _, hA, rfl, ((show Ints w9 (fun b => wd.heap.size ≤ b) (.slice A9 n9 c9) (ch ++ [x]) from Row.of_own HO9.out).below hxz).weaken fun b hb => Nat.le_trans hsz9 hb⟩⟩
                    clear hoo hA
                    go_wp2_with fail
                    go_ret2
                    exact HFIN.out
                · have hq1 : decide (last < x) = false := decide_eq_false hlx
                  have HN' : Hid (∀ n ∈ L.take (k + 1), ¬ (last < n ∧ openC m (ch ++ [n]) = true)) := fun n hn => by
                    rw [hsucc.out, List.mem_append, List.mem_singleton] at hn
                    rcases hn with hn | rfl
                    · exact hN.out n hn
                    · rintro ⟨h1, h2⟩; exact hlx h1
                  clear hlx
                  go_wp2_with fail
                  go_roundw
                  case rel => exact ⟨k + 1, hlt, by go_num, HN', hx19⟩
                  case measure => simp [intOf]; omega
              exact AllReadyH.nil
            exact AllReadyH.nil
          exact AllReadyH.nil
        refine AllReadyH.cons rfl (fun K hK => ?_) ?_
        · go_simp
          have HC6 : Hid (((wd.alloc (.cells #[] 3)).alloc (.cells #[.int .i64 x] 3)).cell? ⟨wd.heap.size + 1, 0, none⟩ = some (.int .i64 x)) := cell_new _ _ _ (by simp)
          have HOE6 := Lib.hid (HOE1.out.ext ((Ext.refl (wd.alloc (.cells #[] 3))).alloc (.cells #[.int .i64 x] 3)))
          refine hK.out _ _ (hHeld.alloc _) (fun hHeld => ?_)
          clear hK K
          try simp only [List.getElem_toArray, List.getElem_cons_succ, List.getElem_cons_zero, Act.put, List.setIfInBounds_toArray, List.set_cons_zero, List.set_cons_succ]
          refine wpAnyH_ready (rs := [2]) (by kernel_rfl) (by simp) ?_
          refine AllReadyH.cons rfl (fun K hK => ?_) ?_
          · have hXW7 : Ext wd ((wd.alloc (.cells #[] 3)).alloc (.cells #[.int .i64 x] 3)) := ((Ext.refl wd).alloc (.cells #[] 3)).alloc (.cells #[.int .i64 x] 3)
            refine step_append_ints (ok := okc) (by rfl) _ _ _ (by rfl) wd.heap.size [] ch _ _ (by rfl) (by rfl) HOE6.out (HCH.out.below (hxd.trans hXW7)) hXW7.size (by simp; omega) ?_
            intro v7 w7 ho7 hg7 hat7
            have hE7 : Ext wd w7 := below_app hXW7 hg7 hXW7.size (fun k hk => own_base HOE6.out hk)
            rw [List.nil_append] at ho7
            have HOA7 := Lib.hid ho7
            have HC7 : Hid (w7.cell? ⟨wd.heap.size + 1, 0, none⟩ = some (.int .i64 x)) := (World.grownBy.cell_far hg7.out _ (lt_of_cell HC6.out) (by intro e; simp [Value.ownBlock] at e)).trans HC6.out
            obtain ⟨A7, n7, cc7, rfl⟩ := own_slice3 ho7
            clear ho7 hg7 hat7
            refine hK.out _ _ (hx1k.trans (hd0.trans hE7)) (fun hHeld => ?_)
            clear hK K
            try simp only [List.getElem_toArray, List.getElem_cons_succ, List.getElem_cons_zero, Act.put, List.setIfInBounds_toArray, List.set_cons_zero, List.set_cons_succ]
            refine wpAnyH_ready (rs := [8]) (by kernel_rfl) (by simp) ?_
            refine AllReadyH.cons rfl (fun K hK => ?_) ?_
            · have hXW8 : Ext wd w7 := hE7
              refine step_append_ints (ok := fun _ => True) (by rfl) _ _ _ (by rfl) wd.heap.size ch [x] _ _ (by rfl) (by rfl) HOA7.out (ints_one HC7.out) hXW8.size (by simp; omega) ?_
              intro vn w9 ho8 hg8 hat8
              have hE9 : Ext wd w9 := below_app hXW8 hg8 hXW8.size (fun k hk => own_base HOA7.out hk)
              have HO9 := Lib.hid ho8
              obtain ⟨A9, n9, c9, rfl⟩ := own_slice3 ho8
              clear ho8 hg8 hat8
              refine hK.out _ _ (hx1k.trans (hd0.trans hE9)) (fun hHeld => ?_)
              clear hK K
              try simp only [List.getElem_toArray, List.getElem_cons_succ, List.getElem_cons_zero, Act.put, List.setIfInBounds_toArray, List.set_cons_zero, List.set_cons_succ]
              refine wpAnyH_ready (rs := [9]) (by kernel_rfl) (by simp) ?_
              refine AllReadyH.cons rfl (fun K hK => ?_) ?_
              · go_simp
                refine hK.out _ _ (hHeld) (fun hHeld => ?_)
                clear hK K
                try simp only [List.getElem_toArray, List.getElem_cons_succ, List.getElem_cons_zero, Act.put, List.setIfInBounds_toArray, List.set_cons_zero, List.set_cons_succ]
                refine wpAnyH_done (by kernel_rfl) ?_ _
                have hx19 : Ext w1 w9 := hx1k.trans (hd0.trans hE9)
                have hx9 : Ext w w9 := hx1.trans hx19
                have hsz9 : w.heap.size ≤ wd.heap.size := hxd.size
                clear hd0 hxd hHeld
                by_cases hlx : last < x
                · have hq1 : decide (last < x) = true := decide_eq_true hlx
                  have HAT' := Lib.hid (HAT.out hlx)
                  clear hlx
                  go_wp2_with fail
                  refine (qopen_calls w9 (HMZ.out.below hx9) HG.out HL.out (Row.of_own HO9.out) HIC.out).mono ?_
                  rintro e wz ⟨rfl, hxz⟩
                  cases hoo : openC m (ch ++ [x])
                  · have HN' : Hid (∀ n ∈ L.take (k + 1), ¬ (last < n ∧ openC m (ch ++ [n]) = true)) := fun n hn => by
                      rw [hsucc.out, List.mem_append, List.mem_singleton] at hn
                      rcases hn with hn | rfl
                      · exact hN.out n hn
                      · rintro ⟨h1, h2⟩; rw [hoo] at h2; cases h2
                    clear hoo
                    go_wp2_with fail
                    go_roundw
                    case rel => exact ⟨k + 1, hlt, by go_num, HN', hx19.trans hxz⟩
                    case measure => simp [intOf]; omega
                  · have hA := HAT'.out hoo
                    have HFIN : Hid (AftPost w m ch last (.returned (.tuple #[.slice A9 n9 c9, .bool true])) wz) := ⟨hx9.trans hxz, .inl ⟨x, _, hA, rfl, ((show Ints w9 (fun b => wd.heap.size ≤ b) (.slice A9 n9 c9) (ch ++ [x]) from Row.of_own HO9.out).below hxz).weaken fun b hb => Nat.le_trans hsz9 hb⟩⟩
                    clear hoo hA
                    go_wp2_with fail
                    go_ret2
                    exact HFIN.out
                · have hq1 : decide (last < x) = false := decide_eq_false hlx
                  have HN' : Hid (∀ n ∈ L.take (k + 1), ¬ (last < n ∧ openC m (ch ++ [n]) = true)) := fun n hn => by
                    rw [hsucc.out, List.mem_append, List.mem_singleton] at hn
                    rcases hn with hn | rfl
                    · exact hN.out n hn
                    · rintro ⟨h1, h2⟩; exact hlx h1
                  clear hlx
                  go_wp2_with fail
                  go_roundw
                  case rel => exact ⟨k + 1, hlt, by go_num, HN', hx19⟩
                  case measure => simp [intOf]; omega
              exact AllReadyH.nil
            exact AllReadyH.nil
          exact AllReadyH.nil
        exact AllReadyH.nil
      refine AllReadyH.cons rfl (fun K hK => ?_) ?_
      · go_simp
        have HC10 : Hid ((wd.alloc (.cells #[.int .i64 x] 3)).cell? ⟨wd.heap.size, 0, none⟩ = some (.int .i64 x)) := cell_new _ _ _ (by simp)
        refine hK.out _ _ (hHeld.alloc _) (fun hHeld => ?_)
        clear hK K
        try simp only [List.getElem_toArray, List.getElem_cons_succ, List.getElem_cons_zero, Act.put, List.setIfInBounds_toArray, List.set_cons_zero, List.set_cons_succ]
        refine wpAnyH_ready (rs := [0]) (by kernel_rfl) (by simp) ?_
        refine AllReadyH.cons rfl (fun K hK => ?_) ?_
        · go_simp
          have HOE11 : Hid (OwnI ((wd.alloc (.cells #[.int .i64 x] 3)).alloc (.cells #[] 3)) wd.heap.size (.slice (some ⟨wd.heap.size + 1, 0, none⟩) 0 0) []) := by have h := own_empty (wd.alloc (.cells #[.int .i64 x] 3)) wd.heap.size ((Ext.refl wd).alloc (.cells #[.int .i64 x] 3)).size; exact (show OwnI _ _ _ _ by simpa using h)
          have HC11 : Hid (((wd.alloc (.cells #[.int .i64 x] 3)).alloc (.cells #[] 3)).cell? ⟨wd.heap.size, 0, none⟩ = some (.int .i64 x)) := Ext.cell HC10.out ((Ext.refl _).alloc _)
          refine hK.out _ _ (hHeld.alloc _) (fun hHeld => ?_)
          clear hK K
          try simp only [List.getElem_toArray, List.getElem_cons_succ, List.getElem_cons_zero, Act.put, List.setIfInBounds_toArray, List.set_cons_zero, List.set_cons_succ]
          refine wpAnyH_ready (rs := [2]) (by kernel_rfl) (by simp) ?_
          refine AllReadyH.cons rfl (fun K hK => ?_) ?_
          · have hXW12 : Ext wd ((wd.alloc (.cells #[.int .i64 x] 3)).alloc (.cells #[] 3)) := ((Ext.refl wd).alloc (.cells #[.int .i64 x] 3)).alloc (.cells #[] 3)
            refine step_append_ints (ok := okc) (by rfl) _ _ _ (by rfl) wd.heap.size [] ch _ _ (by rfl) (by rfl) HOE11.out (HCH.out.below (hxd.trans hXW12)) hXW12.size (by simp; omega) ?_
            intro v12 w12 ho12 hg12 hat12
            have hE12 : Ext wd w12 := below_app hXW12 hg12 hXW12.size (fun k hk => own_base HOE11.out hk)
            rw [List.nil_append] at ho12
            have HOA12 := Lib.hid ho12
            have HC12 : Hid (w12.cell? ⟨wd.heap.size, 0, none⟩ = some (.int .i64 x)) := (World.grownBy.cell_far hg12.out _ (lt_of_cell HC11.out) (by intro e; simp [Value.ownBlock] at e)).trans HC11.out
            obtain ⟨A12, n12, cc12, rfl⟩ := own_slice3 ho12
            clear ho12 hg12 hat12
            refine hK.out _ _ (hx1k.trans (hd0.trans hE12)) (fun hHeld => ?_)
            clear hK K
            try simp only [List.getElem_toArray, List.getElem_cons_succ, List.getElem_cons_zero, Act.put, List.setIfInBounds_toArray, List.set_cons_zero, List.set_cons_succ]
            refine wpAnyH_ready (rs := [8]) (by kernel_rfl) (by simp) ?_
            refine AllReadyH.cons rfl (fun K hK => ?_) ?_
            · have hXW13 : Ext wd w12 := hE12
              refine step_append_ints (ok := fun _ => True) (by rfl) _ _ _ (by rfl) wd.heap.size ch [x] _ _ (by rfl) (by rfl) HOA12.out (ints_one HC12.out) hXW13.size (by simp; omega) ?_
              intro vn w9 ho13 hg13 hat13
              have hE9 : Ext wd w9 := below_app hXW13 hg13 hXW13.size (fun k hk => own_base HOA12.out hk)
              have HO9 := Lib.hid ho13
              obtain ⟨A9, n9, c9, rfl⟩ := own_slice3 ho13
              clear ho13 hg13 hat13
              refine hK.out _ _ (hx1k.trans (hd0.trans hE9)) (fun hHeld => ?_)
              clear hK K
              try simp only [List.getElem_toArray, List.getElem_cons_succ, List.getElem_cons_zero, Act.put, List.setIfInBounds_toArray, List.set_cons_zero, List.set_cons_succ]
              refine wpAnyH_ready (rs := [9]) (by kernel_rfl) (by simp) ?_
              refine AllReadyH.cons rfl (fun K hK => ?_) ?_
              · go_simp
                refine hK.out _ _ (hHeld) (fun hHeld => ?_)
                clear hK K
                try simp only [List.getElem_toArray, List.getElem_cons_succ, List.getElem_cons_zero, Act.put, List.setIfInBounds_toArray, List.set_cons_zero, List.set_cons_succ]
                refine wpAnyH_done (by kernel_rfl) ?_ _
                have hx19 : Ext w1 w9 := hx1k.trans (hd0.trans hE9)
                have hx9 : Ext w w9 := hx1.trans hx19
                have hsz9 : w.heap.size ≤ wd.heap.size := hxd.size
                clear hd0 hxd hHeld
                by_cases hlx : last < x
                · have hq1 : decide (last < x) = true := decide_eq_true hlx
                  have HAT' := Lib.hid (HAT.out hlx)
                  clear hlx
                  go_wp2_with fail
                  refine (qopen_calls w9 (HMZ.out.below hx9) HG.out HL.out (Row.of_own HO9.out) HIC.out).mono ?_
                  rintro e wz ⟨rfl, hxz⟩
                  cases hoo : openC m (ch ++ [x])
                  · have HN' : Hid (∀ n ∈ L.take (k + 1), ¬ (last < n ∧ openC m (ch ++ [n]) = true)) := fun n hn => by
                      rw [hsucc.out, List.mem_append, List.mem_singleton] at hn
                      rcases hn with hn | rfl
                      · exact hN.out n hn
                      · rintro ⟨h1, h2⟩; rw [hoo] at h2; cases h2
                    clear hoo
                    go_wp2_with fail
                    go_roundw
                    case rel => exact ⟨k + 1, hlt, by go_num, HN', hx19.trans hxz⟩
                    case measure => simp [intOf]; omega
                  · have hA := HAT'.out hoo
                    have HFIN : Hid (AftPost w m ch last (.returned (.tuple #[.slice A9 n9 c9, .bool true])) wz) := ⟨hx9.trans hxz, .inl ⟨x, _, hA, rfl, ((show Ints w9 (fun b => wd.heap.size ≤ b) (.slice A9 n9 c9) (ch ++ [x]) from Row.of_own HO9.out).below hxz).weaken fun b hb => Nat.le_trans hsz9 hb⟩⟩
                    clear hoo hA
                    go_wp2_with fail
                    go_ret2
                    exact HFIN.out
                · have hq1 : decide (last < x) = false := decide_eq_false hlx
                  have HN' : Hid (∀ n ∈ L.take (k + 1), ¬ (last < n ∧ openC m (ch ++ [n]) = true)) := fun n hn => by
                    rw [hsucc.out, List.mem_append, List.mem_singleton] at hn
                    rcases hn with hn | rfl
                    · exact hN.out n hn
                    · rintro ⟨h1, h2⟩; exact hlx h1
                  clear hlx
                  go_wp2_with fail
                  go_roundw
                  case rel => exact ⟨k + 1, hlt, by go_num, HN', hx19⟩
                  case measure => simp [intOf]; omega
              exact AllReadyH.nil
            exact AllReadyH.nil
          exact AllReadyH.nil
        exact AllReadyH.nil
      exact AllReadyH.nil
    · obtain rfl : k = L.length := by omega
      have hA : aft m ch last = none := aft_none HLL.out (by have := hN.out; rwa [List.take_length] at this)
      have HFIN : Hid (AftPost w m ch last (.returned (.tuple #[.slice none 0 0, .bool false])) wk) := ⟨hxk, .inr ⟨hA, rfl⟩⟩
      clear hA
      go_wp2_with fail
      go_ret2
      exact HFIN.out
end Go.Proofs.Ytgpjfpcjiebjiaa

namespace Go.Proofs.Ytgpjfpcjiebjiaa
open Go.RowKit
set_option linter.unusedVariables false
set_option linter.unusedSimpArgs false
attribute [local go_sem ↓] Go.wp_at_zero Go.wp_at_succ

section
variable {w w' : World} {ok ok' : Nat → Prop} {g : Nat} {m : MZ} {s : RS} {f u t vn : Value}
theorem set_same (w : World) (g k : Nat) (v : Value) : Same (fun b => b ≠ g) w (w.setCell ⟨g, k, none⟩ v) := fun b hb _ => Below.heap_setCell w ⟨g, k, none⟩ v b hb
theorem QAt.steps (h : QAt w ok g m s f u t vn) (n : Int) : QAt (w.setCell ⟨g, 8, none⟩ (.int .i64 n)) ok g m ⟨s.ch, s.done, n⟩ f u t vn :=
  ⟨h.blk.set (k := 8) _, h.maze.keep (fun b hb hlt => set_same w g 8 _ b (fun e => h.ng (e ▸ hb)) hlt), h.now.keep (fun b hb hlt => set_same w g 8 _ b (fun e => h.ng (e ▸ hb)) hlt), h.ng⟩
theorem QAt.doneTo (h : QAt w ok g m s f u t vn) (d : Bool) : QAt (w.setCell ⟨g, 7, none⟩ (.bool d)) ok g m ⟨s.ch, d, s.steps⟩ f u t vn :=
  ⟨h.blk.set (k := 7) _, h.maze.keep (fun b hb hlt => set_same w g 7 _ b (fun e => h.ng (e ▸ hb)) hlt), h.now.keep (fun b hb hlt => set_same w g 7 _ b (fun e => h.ng (e ▸ hb)) hlt), h.ng⟩
theorem QAt.nowTo (h : QAt w ok g m s f u t vn) (hk : ∀ b, ok b → ok' b) (hg : ¬ ok' g) {v : Value} {c : List Int} (hc : Ints w ok' v c) : QAt (w.setCell ⟨g, 6, none⟩ v) ok' g m ⟨c, s.done, s.steps⟩ f u t v :=
  ⟨h.blk.set (k := 6) _, (h.maze.weaken hk).keep (fun b hb hlt => set_same w g 6 _ b (fun e => hg (e ▸ hb)) hlt), hc.keep (fun b hb hlt => set_same w g 6 _ b (fun e => hg (e ▸ hb)) hlt), hg⟩
theorem chg_set (w : World) (g k : Nat) (v : Value) : Chg (fun b => b = g) w (w.setCell ⟨g, k, none⟩ v) :=
  ⟨rfl, rfl, rfl, by simp [World.setCell], fun b _ hb => Below.heap_setCell w ⟨g, k, none⟩ v b hb⟩
end
def QStepPost (w : World) (ok : Nat → Prop) (g : Nat) (m : MZ) (s : RS) (e : Ending) (w' : World) : Prop :=
  e = .returned (.tuple #[]) ∧ QR2 w' (fun b => ok b ∨ (w.heap.size ≤ b ∧ b < w'.heap.size)) g m s ∧ Chg (fun b => b = g) w w'
/-- What the reference's step has found so far: the search back along the choices stands ahead of j. -/
def StI (w1 wr : World) (m : MZ) (ch : List Int) (vnx vok : Value) (j : Nat) : Prop :=
  Ext w1 wr ∧ ((vok = .bool true ∧ ∃ c, stepC m ch = some c ∧ Ints wr (fun b => w1.heap.size ≤ b) vnx c) ∨ (vok = .bool false ∧ vnx = .slice none 0 0 ∧ stepC m ch = backN m ch j))

theorem aft_form {w w' : World} {m : MZ} {ch : List Int} {last : Int} {e : Ending} (h : AftPost w m ch last e w') :
    ∃ vnx vok, e = .returned (.tuple #[vnx, vok]) ∧ Ext w w' ∧ ((vok = .bool true ∧ ∃ n, aft m ch last = some n ∧ Ints w' (fun b => w.heap.size ≤ b) vnx (ch ++ [n])) ∨ (vok = .bool false ∧ vnx = .slice none 0 0 ∧ aft m ch last = none)) := by
  obtain ⟨hE, ⟨n, v, h1, h2, h3⟩ | ⟨h1, h2⟩⟩ := h
  · exact ⟨_, _, h2, hE, .inl ⟨rfl, n, h1, h3⟩⟩
  · exact ⟨_, _, h2, hE, .inr ⟨rfl, rfl, h1⟩⟩
theorem StI.next {w1 wk wn : World} {m : MZ} {ch : List Int} {vnx vok : Value} {j : Nat} (hx : Ext w1 wk) (hb : stepC m ch = backN m ch (j + 1)) (hE : Ext wk wn)
    (h : (vok = .bool true ∧ ∃ n, aft m (ch.take j) (ch.getD j 0) = some n ∧ Ints wn (fun b => wk.heap.size ≤ b) vnx (ch.take j ++ [n])) ∨ (vok = .bool false ∧ vnx = .slice none 0 0 ∧ aft m (ch.take j) (ch.getD j 0) = none)) : StI w1 wn m ch vnx vok j := by
  refine ⟨hx.trans hE, ?_⟩
  unfold backN at hb
  rcases h with ⟨h1, n, h2, h3⟩ | ⟨h1, h2, h3⟩
  · rw [h2] at hb
    exact .inl ⟨h1, _, hb, h3.weaken fun b hb => Nat.le_trans hx.size hb⟩
  · rw [h3] at hb
    exact .inr ⟨h1, h2, hb⟩
set_option maxHeartbeats 4000000 in
set_option maxRecDepth 100000 in
theorem qstep_calls {ok : Nat → Prop} {m : MZ} {s : RS} {gq : Nat} (w : World) (hq : QR2 w ok gq m s) (g : Good m) (hl : Lens m) (hc : IsCh m s.ch) (hs0 : 0 ≤ s.steps) (hs1 : s.steps ≤ 4000000000000000000) :
    Calls Try.prog 61 #[.pointer (some ⟨gq, 0, none⟩)] w (QStepPost w ok gq m (s.one m)) := by
  have hlen := hc.len300 g
  obtain ⟨vfr, vup, vts, vn, hq⟩ := hq
  have HQ := Lib.hid hq
  have HC := Lib.hid hc
  have HL := Lib.hid hl
  have HG := Lib.hid g
  have hc8 : w.cell? ⟨gq, 8, none⟩ = some (.int .i64 s.steps) := hq.blk.cell (k := 8) rfl
  have hf8 : w.frozen? ⟨gq, 8, none⟩ = false := hq.blk.frozen 8
  obtain ⟨A, c, rfl, hcc, -⟩ := hq.now
  have hx0 : Ext w w := Ext.refl w
  clear hq hc hl g
  go_enter Try.func61, Try.ntmps61
  go_upto_region 1 with fail
  have hq1 := HQ.out.steps (s.steps + 1)
  have hch1 : Chg (fun b => b = gq) w (w.setCell ⟨gq, 8, none⟩ (.int .i64 (s.steps + 1))) := chg_set w gq 8 _
  have hsz1 : (w.setCell ⟨gq, 8, none⟩ (.int .i64 (s.steps + 1))).heap.size = w.heap.size := by simp [World.setCell]
  generalize hw1 : w.setCell ⟨gq, 8, none⟩ (.int .i64 (s.steps + 1)) = w1 at hq1 hch1 hsz1 ⊢
  have HQ1 := Lib.hid hq1
  have HCH1 := Lib.hid hch1
  have HSZ := Lib.hid hsz1
  have c0 : ∀ W, Ext w1 W → W.cell? ⟨gq, 0, none⟩ = some (.int .i64 m.w) := Ext.rule (hq1.blk.cell (k := 0) rfl)
  have c1 : ∀ W, Ext w1 W → W.cell? ⟨gq, 1, none⟩ = some (.int .i64 m.h) := Ext.rule (hq1.blk.cell (k := 1) rfl)
  have c2 : ∀ W, Ext w1 W → W.cell? ⟨gq, 2, none⟩ = some (.int .i64 m.l) := Ext.rule (hq1.blk.cell (k := 2) rfl)
  have c3 : ∀ W, Ext w1 W → W.cell? ⟨gq, 3, none⟩ = some vfr := Ext.rule (hq1.blk.cell (k := 3) rfl)
  have c4 : ∀ W, Ext w1 W → W.cell? ⟨gq, 4, none⟩ = some vup := Ext.rule (hq1.blk.cell (k := 4) rfl)
  have c5 : ∀ W, Ext w1 W → W.cell? ⟨gq, 5, none⟩ = some vts := Ext.rule (hq1.blk.cell (k := 5) rfl)
  have c6 : ∀ W, Ext w1 W → W.cell? ⟨gq, 6, none⟩ = some (.slice A s.ch.length c) := Ext.rule (hq1.blk.cell (k := 6) rfl)
  have hx1 : Ext w1 w1 := Ext.refl w1
  clear hw1 hq1 hch1 hsz1 hc8 hf8 hx0
  go_wp2_with fail
  refine (qafter_calls (-1) w1 ⟨_, _, _, _, HQ1.out⟩ HG.out HL.out HQ1.out.now HC.out).mono ?_
  rintro e w2 ⟨hx2, hA⟩
  have HI : Hid (∃ vnx vok, e = .returned (.tuple #[vnx, vok]) ∧ StI w1 w2 m s.ch vnx vok s.ch.length) := by
    rcases hA with ⟨n, v, h1, rfl, h3⟩ | ⟨h1, rfl⟩
    · exact ⟨_, _, rfl, hx2, .inl ⟨rfl, _, by unfold stepC; rw [h1], h3⟩⟩
    · exact ⟨_, _, rfl, hx2, .inr ⟨rfl, rfl, by unfold stepC; rw [h1]⟩⟩
  obtain ⟨vnx, vok, rfl, hI⟩ := HI.out
  have HI2 := Lib.hid hI
  clear HI hI hA
  go_upto_region 2 with fail
  go_wp2_with fail
  go_loopw [2, 3, 4] (fun vn vo i wr => ∃ j : Nat, j ≤ s.ch.length ∧ i = .int .i64 ((j : Int) - 1) ∧ Hid (StI w1 wr m s.ch vn vo j)) (fun _ _ i _ => (intOf i + 1).toNat)
  case atStart => exact ⟨s.ch.length, Nat.le_refl _, rfl, HI2⟩
  clear HI2
  case round =>
    obtain ⟨j, hj, rfl, hI⟩ := hrel
    obtain ⟨wk, rfl⟩ : ∃ wk : World, wk = wr := ⟨_, rfl⟩
    have hxk : Ext w1 wk := hI.out.1
    by_cases hgo : 0 < j ∧ u3 = .bool false
    · obtain ⟨hj0, hu3⟩ := hgo
      obtain ⟨k, rfl⟩ : ∃ k, j = k + 1 := ⟨j - 1, by omega⟩
      have hbk : Hid (stepC m s.ch = backN m s.ch (k + 1)) := by
        rcases hI.out.2 with ⟨h1, _⟩ | ⟨_, _, h3⟩
        · rw [hu3] at h1; cases h1
        · exact h3
      subst hu3
      have hnow := HQ1.out.now
      obtain ⟨A', c', e', hcc', hr⟩ := id hnow
      injection e' with e1 e2 e3
      subst e1 e3
      obtain ⟨b, off, rfl, _, hcell⟩ := intsAt hr (k := k) (by omega) (by omega)
      have hgd : s.ch[k]'(by omega) = s.ch.getD k 0 := by
        rw [List.getD_eq_getElem?_getD, List.getElem?_eq_getElem (by omega), Option.getD_some]
      rw [hgd] at hcell
      have HTK := Lib.hid (intsTake hnow (show k ≤ s.ch.length by omega))
      obtain ⟨x, hx⟩ : ∃ x, x = s.ch.getD k 0 := ⟨_, rfl⟩
      rw [← hx] at hcell
      have HX := Lib.hid hx
      have rx := Ext.rule hcell
      have hki : ((k + 1 : Nat) : Int) - 1 = (k : Int) := by omega
      have hk0 : (0 : Int) ≤ (k : Int) := by omega
      have hk1 : (k : Int) < (s.ch.length : Int) := by omega
      have hk2 : (k : Int) ≤ (c : Int) := by omega
      have hd0 : decide ((0 : Int) ≤ (k : Int)) = true := decide_eq_true hk0
      clear hcell hr hnow hgd hx hI
      rw [hki]
      clear hki
      go_wp2_with fail
      go_region_held3 (fun w' => Ext w1 w')
        (first | (exact hxk.drew) | (exact hxk.drew.trans hxn))
        ((go_at_call 84; refine (qafter_calls x _ ⟨_, _, _, _, HQ1.out.ext hxk.drew⟩ HG.out HL.out (HTK.out.below hxk.drew) (HC.out.take k)).mono ?_; rintro e wn hA; obtain ⟨vn9, vo9, rfl, hxn, hS9⟩ := aft_form hA))
      rename_i hSn
      rw [HX.out] at hS9
      have HSn : Hid (StI w1 wn m s.ch vn9 vo9 k) := StI.next hxk.drew hbk.out hxn hS9
      clear hS9 hxn hA hSn
      go_wp2_with fail
      go_roundw
      case rel => exact ⟨k, by omega, rfl, HSn⟩
      case measure => first | (simp [intOf]; done) | (simp [intOf]; omega)
    · have hgl : gq < w.heap.size := HQ.out.lt
      have hng := HQ.out.ng
      have hq5 := HQ1.out.ext hxk
      have hc6 : wk.cell? ⟨gq, 6, none⟩ = some (.slice A s.ch.length c) := hq5.blk.cell (k := 6) rfl
      have hf6 : wk.frozen? ⟨gq, 6, none⟩ = false := hq5.blk.frozen 6
      have hlew : w.heap.size ≤ wk.heap.size := by have := hxk.size; have := HSZ.out; omega
      have HQ5 := Lib.hid hq5
      clear hq5
      have hex : Hid ((decide ((0 : Int) ≤ (j : Int) - 1) = false) ∨ (decide ((0 : Int) ≤ (j : Int) - 1) = true ∧ u3 = .bool true)) := by
        by_cases h0 : 0 < j
        · refine .inr ⟨decide_eq_true (by omega), ?_⟩
          rcases hI.out.2 with ⟨h1, _⟩ | ⟨h1, _⟩
          · exact h1
          · exact absurd ⟨h0, h1⟩ hgo
        · exact .inl (decide_eq_false (by omega))
      obtain ⟨kk, hkk⟩ : ∃ kk : Int, kk = (j : Int) - 1 := ⟨_, rfl⟩
      have hjz : Hid (u3 = .bool false → j = 0) := fun h => Decidable.byContradiction fun h0 => hgo ⟨by omega, h⟩
      rw [← hkk] at hex ⊢
      clear hgo hkk
      rcases hI.out.2 with ⟨h1, cc, h2, h3⟩ | ⟨h1, h2, h3⟩
      · subst h1
        have HI3 := Lib.hid h3
        obtain ⟨A9, c9, e9, hc9, -⟩ := id h3
        subst e9
        have HSC := Lib.hid (stepC_some HC.out h2)
        have HON : Hid (s.one m = ⟨cc, cmpC m cc, s.steps + 1⟩) := by show _ = _; unfold RS.one; rw [h2]
        clear h2 h3 hI
        have hlc := HSC.out.1.len300 HG.out
        rcases hex.out with hd | ⟨hd, -⟩
        all_goals
          clear hex hjz
          go_upto_region 7 with fail
          have hq3 : QAt (wk.setCell ⟨gq, 6, none⟩ (.slice A9 cc.length c9)) (fun b => ok b ∨ (w.heap.size ≤ b ∧ b < wk.heap.size)) gq m ⟨cc, s.done, s.steps + 1⟩ vfr vup vts (.slice A9 cc.length c9) := by
            refine HQ5.out.nowTo (fun b h => .inl h) (fun h => ?_) (HI3.out.bound.weaken fun b hb => .inr ⟨by have := HSZ.out; have := hb.1; omega, hb.2⟩)
            rcases h with h | h
            · exact hng h
            · omega
          have hch3 : Chg (fun b => b = gq) w (wk.setCell ⟨gq, 6, none⟩ (.slice A9 cc.length c9)) := (HCH1.out.ext_r hxk).tr (chg_set _ _ _ _)
          have hsz3 : (wk.setCell ⟨gq, 6, none⟩ (.slice A9 cc.length c9)).heap.size = wk.heap.size := by simp [World.setCell]
          generalize wk.setCell ⟨gq, 6, none⟩ (.slice A9 cc.length c9) = w3 at hq3 hch3 hsz3 ⊢
          clear c0 c1 c2 c3 c4 c5 c6 hc6 hf6
          have c0 : ∀ W, Ext w3 W → W.cell? ⟨gq, 0, none⟩ = some (.int .i64 m.w) := Ext.rule (hq3.blk.cell (k := 0) rfl)
          have c1 : ∀ W, Ext w3 W → W.cell? ⟨gq, 1, none⟩ = some (.int .i64 m.h) := Ext.rule (hq3.blk.cell (k := 1) rfl)
          have c2 : ∀ W, Ext w3 W → W.cell? ⟨gq, 2, none⟩ = some (.int .i64 m.l) := Ext.rule (hq3.blk.cell (k := 2) rfl)
          have c3 : ∀ W, Ext w3 W → W.cell? ⟨gq, 3, none⟩ = some vfr := Ext.rule (hq3.blk.cell (k := 3) rfl)
          have c4 : ∀ W, Ext w3 W → W.cell? ⟨gq, 4, none⟩ = some vup := Ext.rule (hq3.blk.cell (k := 4) rfl)
          have c5 : ∀ W, Ext w3 W → W.cell? ⟨gq, 5, none⟩ = some vts := Ext.rule (hq3.blk.cell (k := 5) rfl)
          have hx3 : Ext w3 w3 := Ext.refl w3
          have HQ3 := Lib.hid hq3
          have HCH3 := Lib.hid hch3
          have hlz : w.heap.size ≤ w3.heap.size := by omega
          clear hq3 hch3
          go_wp2_with fail
          refine (qcomplete_calls w3 HQ3.out.maze HG.out HL.out HQ3.out.now HSC.out.1).mono ?_
          rintro e w4 ⟨rfl, hx4⟩
          have hq4 := HQ3.out.ext hx4
          have hc7 : w4.cell? ⟨gq, 7, none⟩ = some (.bool s.done) := hq4.blk.cell (k := 7) rfl
          have hf7 : w4.frozen? ⟨gq, 7, none⟩ = false := hq4.blk.frozen 7
          have HFIN : Hid (QStepPost w ok gq m (s.one m) (.returned (.tuple #[])) (w4.setCell ⟨gq, 7, none⟩ (.bool (cmpC m cc)))) := by
            have h1 := hq4.doneTo (cmpC m cc)
            have h2 : (w4.setCell ⟨gq, 7, none⟩ (.bool (cmpC m cc))).heap.size = w4.heap.size := by simp [World.setCell]
            have h3 := hx4.size
            refine ⟨rfl, ?_, (HCH3.out.ext_r hx4).tr (chg_set _ _ _ _)⟩
            rw [HON.out]
            refine QR2.weaken ⟨_, _, _, _, h1⟩ (fun b hb => ?_) (fun h => ?_)
            · rcases hb with hb | hb
              · exact .inl hb
              · exact .inr ⟨hb.1, by omega⟩
            · rcases h with h | h
              · exact hng h
              · omega
          clear hq4
          go_wp2_with fail
          refine bodyPost_ret (results_none rfl _ _ _) rfl ?_
          exact HFIN.out
      · subst h1
        subst h2
        obtain rfl := hjz.out rfl
        have hd : decide ((0 : Int) ≤ kk) = false := by
          rcases hex.out with hd | ⟨-, hd⟩
          · exact hd
          · cases hd
        have HON : Hid (s.one m = ⟨[], true, s.steps + 1⟩) := by show _ = _; unfold RS.one; rw [h3]; rfl
        clear h3 hI hex hjz
        go_upto_region 7 with fail
        have hq3 : QAt (wk.setCell ⟨gq, 6, none⟩ (.slice none 0 0)) ok gq m ⟨[], s.done, s.steps + 1⟩ vfr vup vts (.slice none 0 0) := HQ5.out.nowTo (fun b h => h) hng (Ints.nil _ _)
        have hch3 : Chg (fun b => b = gq) w (wk.setCell ⟨gq, 6, none⟩ (.slice none 0 0)) := (HCH1.out.ext_r hxk).tr (chg_set _ _ _ _)
        generalize wk.setCell ⟨gq, 6, none⟩ (.slice none 0 0) = w3 at hq3 hch3 ⊢
        have hc7 : w3.cell? ⟨gq, 7, none⟩ = some (.bool s.done) := hq3.blk.cell (k := 7) rfl
        have hf7 : w3.frozen? ⟨gq, 7, none⟩ = false := hq3.blk.frozen 7
        have HFIN : Hid (QStepPost w ok gq m (s.one m) (.returned (.tuple #[])) (w3.setCell ⟨gq, 7, none⟩ (.bool true))) := by
          refine ⟨rfl, ?_, hch3.tr (chg_set _ _ _ _)⟩
          rw [HON.out]
          refine QR2.weaken ⟨_, _, _, _, hq3.doneTo true⟩ (fun b hb => .inl hb) (fun h => ?_)
          rcases h with h | h
          · exact hng h
          · omega
        clear hq3 hch3
        go_wp2_with fail
        refine bodyPost_ret (results_none rfl _ _ _) rfl ?_
        exact HFIN.out
end Go.Proofs.Ytgpjfpcjiebjiaa

namespace Go.Proofs.Ytgpjfpcjiebjiaa
open Go.RowKit
set_option linter.unusedVariables false
set_option linter.unusedSimpArgs false
attribute [local go_sem ↓] Go.wp_at_zero Go.wp_at_succ

def QRunPost (w : World) (ok : Nat → Prop) (g : Nat) (m : MZ) (s : RS) (e : Ending) (w' : World) : Prop :=
  e = .returned (.bool s.done) ∧ QR2 w' (fun b => ok b ∨ (w.heap.size ≤ b ∧ b < w'.heap.size)) g m s ∧ Chg (fun b => b = g) w w'
/-- The reference's router in the middle of a run. -/
structure QRun (w wr : World) (ok : Nat → Prop) (g : Nat) (m : MZ) (s0 : RS) (n k : Nat) (s : RS) : Prop where
  rt : QR2 wr (fun b => ok b ∨ (w.heap.size ≤ b ∧ b < wr.heap.size)) g m s
  chg : Chg (fun b => b = g) w wr
  run : RS.run m (n - k) s = RS.run m n s0
  ch : IsCh m s.ch
  st : 0 ≤ s.steps ∧ s.steps + (n - k : Nat) ≤ 4000000000000000000

set_option maxHeartbeats 4000000 in
set_option maxRecDepth 100000 in
theorem qStep_calls {ok : Nat → Prop} {m : MZ} {s : RS} {gq : Nat} (n : Nat) (w : World) (hq : QR2 w ok gq m s) (g : Good m) (hl : Lens m) (hc : IsCh m s.ch) (hn : n ≤ 1000000) (hs0 : 0 ≤ s.steps) (hs1 : s.steps ≤ 3000000000000000000) :
    Calls Try.prog 25 #[.pointer (some ⟨gq, 0, none⟩), .int .i64 n] w (QRunPost w ok gq m (RS.run m n s)) := by
  have hgl : gq < w.heap.size := hq.lt
  have hng : ¬ ok gq := by obtain ⟨_, _, _, _, h⟩ := hq; exact h.ng
  have H0 : Hid (QRun w w ok gq m s n 0 s) := ⟨hq.weaken (fun b hb => .inl hb) (fun h => by rcases h with h | h; exact hng h; omega), Chg.refl _ _, rfl, hc, hs0, by omega⟩
  have HL := Lib.hid hl
  have HG := Lib.hid g
  have hc9 : w.cell? ⟨gq, 9, none⟩ = some (.bool true) := by obtain ⟨_, _, _, _, h⟩ := hq; exact h.blk.cell (k := 9) rfl
  have hx0 : Ext w w := Ext.refl w
  obtain ⟨R, hR⟩ : ∃ R, R = RS.run m n s := ⟨_, rfl⟩
  rw [← hR]
  have HR := Lib.hid hR
  clear hq hc hl g hs0 hs1 hR
  go_enter Try.func25, Try.ntmps25
  go_wp2_with fail
  clear hc9 hx0
  go_loopw [5] (fun i wr => ∃ (k : Nat) (s' : RS), k ≤ n ∧ i = .int .i64 k ∧ Hid (QRun w wr ok gq m s n k s')) (fun i _ => n - (intOf i).toNat)
  case atStart => exact ⟨0, s, Nat.zero_le _, rfl, H0⟩
  clear H0
  case round =>
    obtain ⟨k, s', hk, rfl, hI⟩ := hrel
    obtain ⟨wk, rfl⟩ : ∃ wk : World, wk = wr := ⟨_, rfl⟩
    have hc7 : wk.cell? ⟨gq, 7, none⟩ = some (.bool s'.done) := by obtain ⟨_, _, _, _, h⟩ := hI.out.rt; exact h.blk.cell (k := 7) rfl
    obtain ⟨d, hd⟩ : ∃ d, d = s'.done := ⟨_, rfl⟩
    rw [← hd] at hc7
    have HD := Lib.hid hd; clear hd
    by_cases hlt : k < n
    · cases d with
      | true =>
        have HFIN : Hid (QRunPost w ok gq m R (.returned (.bool true)) wk) := by
          have h1 := hI.out.run
          rw [RS.run_done HD.out.symm, ← HR.out] at h1
          rw [← h1]
          exact ⟨by rw [← HD.out], hI.out.rt, hI.out.chg⟩
        go_wp2_with fail
        go_ret
        exact HFIN.out
      | false =>
        go_wp2_with fail
        refine (qstep_calls wk hI.out.rt HG.out HL.out hI.out.ch hI.out.st.1 (by have := hI.out.st.2; omega)).mono ?_
        rintro e w5 ⟨rfl, hrt5, hch5⟩
        have HN : Hid (QRun w w5 ok gq m s n (k + 1) (s'.one m)) := by
          have h1 := one_isCh hI.out.ch
          have h2 := hI.out.st
          have h3 := hI.out.run
          have h4 : n - k = (n - (k + 1)) + 1 := by omega
          rw [h4] at h3
          unfold RS.run at h3
          rw [← HD.out, if_neg (by simp)] at h3
          have h5 := hI.out.chg.size
          have h6 := hch5.size
          refine ⟨hrt5.weaken (fun b hb => ?_) (fun h => ?_), hI.out.chg.tr hch5, h3.trans (by cases n <;> rfl), h1.1, by omega⟩
          · rcases hb with (hb | hb) | hb
            · exact .inl hb
            · exact .inr ⟨hb.1, by omega⟩
            · exact .inr ⟨by omega, hb.2⟩
          · rcases h with h | h
            · exact hng h
            · omega
        clear hrt5 hch5 hc7
        go_wp2_with fail
        go_roundw
        case rel => exact ⟨k + 1, _, hlt, by go_num, HN⟩
        case measure => simp [intOf]; omega
    · obtain rfl : k = n := by omega
      have HFIN : Hid (QRunPost w ok gq m R (.returned (.bool d)) wk) := by
        have h1 := hI.out.run
        rw [Nat.sub_self, ← HR.out] at h1
        have h2 : RS.run m 0 s' = s' := rfl
        rw [h2] at h1
        rw [← h1, HD.out]
        exact ⟨rfl, hI.out.rt, hI.out.chg⟩
      have hdd : decide (k < k) = false := decide_eq_false (by omega)
      go_wp2_with fail
      go_ret
      exact HFIN.out

theorem okC_of {m : MZ} {ch : List Int} (hc : chk m = 0) (h : IsCh m ch) : okC m ch = true := by
  unfold okC
  rw [decide_eq_true hc, isChB_iff.2 h]; rfl
theorem pathsO_cmp {m : MZ} {ch : List Int} (hc : chk m = 0) (h : IsCh m ch) (hp : cmpC m ch = true) : pathsO m ch = psOf m ch := by
  rw [pathsO_eq (okC_of hc h) (splitL_cmp hp), if_pos rfl]

set_option maxHeartbeats 4000000 in
set_option maxRecDepth 100000 in
theorem qFound_calls {ok : Nat → Prop} {m : MZ} {s : RS} {gq : Nat} (w : World) (hq : QR2 w ok gq m s) (hck : chk m = 0) (hl : Lens m) (hc : IsCh m s.ch) :
    Calls Try.prog 27 #[.pointer (some ⟨gq, 0, none⟩)] w (FoundPost w m s.ch) := by
  obtain ⟨vfr, vup, vts, vn, hq⟩ := hq
  have HQ := Lib.hid hq
  have HL := Lib.hid hl
  have HC := Lib.hid hc
  have HCK := Lib.hid hck
  have HG := Lib.hid (Good.of hck)
  have c0 : ∀ W, Ext w W → W.cell? ⟨gq, 0, none⟩ = some (.int .i64 m.w) := Ext.rule (hq.blk.cell (k := 0) rfl)
  have c1 : ∀ W, Ext w W → W.cell? ⟨gq, 1, none⟩ = some (.int .i64 m.h) := Ext.rule (hq.blk.cell (k := 1) rfl)
  have c2 : ∀ W, Ext w W → W.cell? ⟨gq, 2, none⟩ = some (.int .i64 m.l) := Ext.rule (hq.blk.cell (k := 2) rfl)
  have c3 : ∀ W, Ext w W → W.cell? ⟨gq, 3, none⟩ = some vfr := Ext.rule (hq.blk.cell (k := 3) rfl)
  have c4 : ∀ W, Ext w W → W.cell? ⟨gq, 4, none⟩ = some vup := Ext.rule (hq.blk.cell (k := 4) rfl)
  have c5 : ∀ W, Ext w W → W.cell? ⟨gq, 5, none⟩ = some vts := Ext.rule (hq.blk.cell (k := 5) rfl)
  have c6 : ∀ W, Ext w W → W.cell? ⟨gq, 6, none⟩ = some vn := Ext.rule (hq.blk.cell (k := 6) rfl)
  have c9 : ∀ W, Ext w W → W.cell? ⟨gq, 9, none⟩ = some (.bool true) := Ext.rule (hq.blk.cell (k := 9) rfl)
  have hx0 : Ext w w := Ext.refl w
  clear hq hl hc hck
  go_enter Try.func27, Try.ntmps27
  go_wp2_with fail
  obtain ⟨A, c, rfl, hcc, -⟩ := HQ.out.now
  go_region_held3 (fun w' => Ext w w')
    (first | (exact hx0.drew) | (exact hx0.drew.trans hxn))
    ((go_at_call 65; refine (qcomplete_calls _ (HQ.out.maze.below hx0.drew) HG.out HL.out (HQ.out.now.below hx0.drew) HC.out).mono ?_; rintro e wn ⟨rfl, hxn⟩))
  rename_i hS
  cases hcp : cmpC m s.ch
  · have HFIN : Hid (FoundPost w m s.ch (.returned (.tuple #[.slice none 0 0, .bool false])) wn) := ⟨_, by rw [hcp], hS, by unfold foundL; rw [hcp]; exact ⟨[], ⟨none, 0, rfl, Nat.le_refl _, RowA.nil _ _ _ _⟩, fun i x hx => by simp at hx⟩⟩
    clear hcp hxn
    go_wp2_with fail
    go_ret2
    exact HFIN.out
  · have HP : Hid (pathsO m s.ch = foundL m s.ch) := by show _ = _; rw [pathsO_cmp HCK.out HC.out hcp]; unfold foundL; rw [if_pos hcp]
    have HK : Hid (okC m s.ch = cmpC m s.ch) := by show _ = _; rw [okC_of HCK.out HC.out, hcp]
    clear hcp hxn
    have hlen := HC.out.len300 HG.out
    go_wp2_with fail
    go_region_held3 (fun w' => Ext w w')
      (first | (exact hS.drew) | (exact hS.drew.trans hxq))
      ((go_at_call 40; refine (qPaths_calls _ (HQ.out.maze.below hS.drew) HL.out (HQ.out.now.below hS.drew) (by omega)).mono ?_; rintro e wq ⟨v9, rfl, hxq, hi9⟩))
    rename_i hS2
    have HFIN : Hid (FoundPost w m s.ch (.returned (.tuple #[v9, .bool (okC m s.ch)])) wq) := ⟨v9, by rw [HK.out], hS2, by
      have h2 := hi9
      rw [HP.out] at h2
      exact h2.weaken fun b hb => Nat.le_trans hS.drew.size hb⟩
    clear hi9 hxq
    go_wp2_with fail
    go_ret2
    exact HFIN.out
end Go.Proofs.Ytgpjfpcjiebjiaa
