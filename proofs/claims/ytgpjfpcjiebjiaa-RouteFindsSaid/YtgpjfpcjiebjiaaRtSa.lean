/- Walks: the examples of the chapter hold. -/
import Derived.Test.YtgpjfpcjiebjiaaRtXe
namespace Go.Proofs.Ytgpjfpcjiebjiaa
open Go.RowKit
set_option linter.unusedVariables false
set_option linter.unusedSimpArgs false
attribute [local go_sem ↓] Go.wp_at_zero Go.wp_at_succ

theorem lit_ints {W : World} {g : Nat} {cs : Array Value} {l : List Int} (h : Blk W g 3 cs) (hl : cs.toList = l.map (Value.int .i64)) : Ints W (fun _ => True) (.slice (some ⟨g, 0, none⟩) l.length l.length) l :=
  ⟨_, _, rfl, Nat.le_refl _, by rw [← hl]; exact RowA.block h trivial (by rw [← Array.length_toList, hl, List.length_map])⟩
theorem is_t {ok ok' : Nat → Prop} {v v' : Value} {a b : List Int} (w : World) (hab : a = b) (h : Ints w ok v a) (h' : Ints w ok' v' b) (hl : a.length ≤ 1000) :
    Calls Try.prog 17 #[v, v'] w fun e w' => e = .returned (.bool true) ∧ Drew w w' := by
  refine (is_calls w h h' (by omega) (by rw [← hab]; omega)).mono ?_
  rintro e w' ⟨rfl, hd⟩
  exact ⟨by rw [decide_eq_true hab], hd⟩
theorem samePaths_t {ok ok' : Nat → Prop} {v v' : Value} {a b : List (List Int)} (w : World) (hab : a = b) (h : Intss w ok v a) (h' : Intss w ok' v' b) (hl : a.length ≤ 1000) (hx : ∀ x ∈ a, x.length ≤ 1000) :
    Calls Try.prog 30 #[v, v'] w fun e w' => e = .returned (.bool true) ∧ Drew w w' := by
  refine (samePaths_calls w h h' (by omega) (by rw [← hab]; omega) (fun x h => by have := hx x h; omega) (fun x h => by have := hx x (by rw [hab]; exact h); omega)).mono ?_
  rintro e w' ⟨rfl, hd⟩
  exact ⟨by rw [decide_eq_true hab], hd⟩
theorem RtAt.bound {w : World} {X Y : Nat → Prop} {g gr cap : Nat} {m : MZ} {s : RS} {pt : List Nat} (h : RtAt w X Y g gr cap m s pt) : RtAt w (fun k => X k ∧ k < w.heap.size) Y g gr cap m s pt :=
  ⟨h.blk, ⟨h.xg, lt_of_some h.blk⟩, ⟨h.xr, (h.row.1.lt gr rfl).2⟩, h.ne, h.yg, h.yr, h.row.1, h.row.2.1, fun k p hp => (h.row.2.2 k p hp).bound.weaken fun b hb => by
    rcases hb with ⟨hb | hb, hl⟩
    · exact .inl ⟨⟨hb.1, hl⟩, hb.2⟩
    · exact .inr hb⟩
theorem RtAt.chg {w w' : World} {X Y X' : Nat → Prop} {g gr cap : Nat} {m : MZ} {s : RS} {pt : List Nat} (h : RtAt w X Y g gr cap m s pt) (hc : Chg X' w w') (hd : ∀ k, X k ∨ Y k → ¬ X' k) : RtAt w' X Y g gr cap m s pt :=
  h.same fun b hb hx => hc.block b hb (hd b hx)
/-- A router with bounds: what it made lies in X, from L on and below the heap's end; the maze lies in Y. -/
structure RtB (w : World) (X Y : Nat → Prop) (g : Nat) (m : MZ) (s : RS) : Prop where
  rt : ∃ gr cap pt, RtAt w X Y g gr cap m s pt
  xb : ∀ k, X k → k < w.heap.size
  yb : ∀ k, Y k → k < w.heap.size
  good : Good m
  lens : Lens m
  ch : IsCh m s.ch
  st : 0 ≤ s.steps
section
variable {w w' : World} {X Y X' : Nat → Prop} {g : Nat} {m : MZ} {s : RS}
theorem RtB.chg (h : RtB w X Y g m s) (hc : Chg X' w w') (hd : ∀ k, X k ∨ Y k → ¬ X' k) : RtB w' X Y g m s := by
  obtain ⟨⟨gr, cap, pt, hr⟩, h1, h2, h3, h4, h5, h6⟩ := h
  exact ⟨⟨gr, cap, pt, hr.chg hc hd⟩, fun k hk => Nat.lt_of_lt_of_le (h1 k hk) hc.size, fun k hk => Nat.lt_of_lt_of_le (h2 k hk) hc.size, h3, h4, h5, h6⟩
theorem RtB.ext (h : RtB w X Y g m s) (hE : Ext w w') : RtB w' X Y g m s := h.chg (Chg.of_ext (X := fun _ => False) hE) (fun _ _ h => h)
/-- Some steps. -/
theorem RtB.step (h : RtB w X Y g m s) (n : Nat) (s' : RS) (d : Bool) (hd : s'.done = d) (hs : RS.run m n s = s') (hn : n ≤ 1000000) (hs1 : s.steps ≤ 3000000000000000000) :
    Calls Try.prog 24 #[.pointer (some ⟨g, 0, none⟩), .int .i64 n] w fun e w' => e = .returned (.bool d) ∧ RtB w' (fun k => X k ∨ (w.heap.size ≤ k ∧ k < w'.heap.size)) Y g m s' ∧ Chg X w w' := by
  obtain ⟨⟨gr, cap, pt, hr⟩, h1, h2, h3, h4, h5, h6⟩ := h
  refine (stepN_calls (X := fun k => X k ∨ w.heap.size ≤ k) n w (hr.widen fun _ h => .inl h) h3 h4 h5 hn h6 hs1 (fun _ h => .inr h) h2).mono ?_
  rintro e w' ⟨rfl, gr', cap', pt', hr', hc⟩
  rw [hs] at hr' ⊢
  refine ⟨by rw [hd], ⟨⟨gr', cap', pt', hr'.bound.widen ?_⟩, ?_, ?_, h3, h4, ?_, ?_⟩, ?_⟩
  · rintro k ⟨hk | hk, hk2⟩
    · exact .inl hk
    · exact .inr ⟨hk, hk2⟩
  · rintro k (hk | hk)
    · exact Nat.lt_of_lt_of_le (h1 k hk) hc.size
    · exact hk.2
  · exact fun k hk => Nat.lt_of_lt_of_le (h2 k hk) hc.size
  · rw [← hs]; exact run_isCh n h5
  · have := run_steps (m := m) n h5
    rw [hs] at this
    omega
  · exact ⟨hc.os, hc.tape, hc.output, hc.size, fun b hb hx => hc.block b hb (by
      rintro (h | h)
      · exact hx h
      · omega)⟩
theorem RtB.fb (h : RtB w X Y g m s) : ∀ k, X k ∨ Y k → k < w.heap.size := fun k hk => hk.elim (h.xb k) (h.yb k)
theorem RtB.choices (h : RtB w X Y g m s) : Calls Try.prog 29 #[.pointer (some ⟨g, 0, none⟩)] w fun e w' => ∃ v', e = .returned v' ∧ Mk w w' v' s.ch := by
  obtain ⟨⟨gr, cap, pt, hr⟩, h1, h2, h3, h4, h5, h6⟩ := h
  exact choices_c w hr (by have := h5.len300 h3; omega)
theorem RtB.stepsC (h : RtB w X Y g m s) : Calls Try.prog 28 #[.pointer (some ⟨g, 0, none⟩)] w fun e w' => e = .returned (.int .i64 s.steps) ∧ w = w' := by
  obtain ⟨⟨gr, cap, pt, hr⟩, h1, h2, h3, h4, h5, h6⟩ := h
  exact steps_c w hr
theorem RtB.found (h : RtB w X Y g m s) : Calls Try.prog 26 #[.pointer (some ⟨g, 0, none⟩)] w (FoundPost w m s.ch) := by
  obtain ⟨⟨gr, cap, pt, hr⟩, h1, h2, h3, h4, h5, h6⟩ := h
  exact found_c w hr h3 h4 h5
end
theorem lit2 (w : World) : Ext w (((w.alloc (.cells #[.int .i64 0, .int .i64 1, .int .i64 2] 3)).alloc (.cells #[.int .i64 6, .int .i64 7, .int .i64 8] 3)).alloc (.cells #[.slice (some ⟨w.heap.size, 0, none⟩) 3 3, .slice (some ⟨w.heap.size + 1, 0, none⟩) 3 3] 24)) ∧
    Intss (((w.alloc (.cells #[.int .i64 0, .int .i64 1, .int .i64 2] 3)).alloc (.cells #[.int .i64 6, .int .i64 7, .int .i64 8] 3)).alloc (.cells #[.slice (some ⟨w.heap.size, 0, none⟩) 3 3, .slice (some ⟨w.heap.size + 1, 0, none⟩) 3 3] 24)) (fun _ => True) (.slice (some ⟨w.heap.size + 1 + 1, 0, none⟩) 2 2) [[0, 1, 2], [6, 7, 8]] := by
  refine fin_allocs (P := fun W => Ext w W ∧ Intss W (fun _ => True) (.slice (some ⟨w.heap.size + 1 + 1, 0, none⟩) 2 2) [[0, 1, 2], [6, 7, 8]]) w [_, _, _] fun W hE hB => ⟨hE, ?_⟩
  have b0 := hB 0 _ rfl
  have b1 := hB 1 _ rfl
  have b2 := hB 2 _ rfl
  refine ⟨_, ⟨_, _, rfl, Nat.le_refl _, RowA.block (cs := #[.slice (some ⟨w.heap.size, 0, none⟩) 3 3, .slice (some ⟨w.heap.size + 1, 0, none⟩) 3 3]) b2 trivial rfl⟩, fun i x hx => ?_⟩
  match i, hx with
  | 0, hx =>
    have : ([0, 1, 2] : List Int) = x := by simpa using hx
    subst this
    exact ⟨_, rfl, lit_ints (l := [0, 1, 2]) (cs := #[.int .i64 0, .int .i64 1, .int .i64 2]) b0 rfl⟩
  | 1, hx =>
    have : ([6, 7, 8] : List Int) = x := by simpa using hx
    subst this
    exact ⟨_, rfl, lit_ints (l := [6, 7, 8]) (cs := #[.int .i64 6, .int .i64 7, .int .i64 8]) b1 rfl⟩
/-- A router made anew. -/
theorem newB_calls {Y : Nat → Prop} {v : Value} {m : MZ} (w : World) (hm : MazeV w Y v m) (hl : Lens m) (hYb : ∀ b, Y b → b < w.heap.size) (hc : chk m = 0) :
    Calls Try.prog 22 #[v] w fun e w' => ∃ g, e = .returned (.tuple #[.pointer (some ⟨g, 0, none⟩), .int .i64 0]) ∧ Ext w w' ∧ RtB w' (fun k => w.heap.size ≤ k ∧ k < w'.heap.size) Y g m (loadS m [] 0) := by
  refine (new_calls w hm hl hYb).mono ?_
  have hle : loadE m [] 0 = 0 := by
    unfold loadE
    rw [hc, if_neg (by simp), if_neg (by decide)]
    rfl
  rintro e w' ⟨v', rfl, hE, h | ⟨h1, h2, h3, g, gr, cap, pt, rfl, hr⟩⟩
  · exact absurd hle h.1
  · exact ⟨g, by rw [hle]; rfl, hE, ⟨gr, cap, pt, hr.bound⟩, fun k hk => hk.2, fun k hk => Nat.lt_of_lt_of_le (hYb k hk) hE.size, h2, hl, h3, Int.le_refl _⟩

set_option maxHeartbeats 8000000 in
set_option maxRecDepth 100000 in
theorem sanity_calls (w : World) : Calls Try.prog 11 #[] w fun e w' => e = .returned (.bool true) ∧ Ext w w' := by
  obtain ⟨M, hMM⟩ : ∃ M, M = exM 6 8 := ⟨_, rfl⟩
  have HMM := Lib.hid hMM
  have hlens : Lens M := by rw [hMM]; exact ex_lens 6 8
  have HLE := Lib.hid hlens
  have hck : chk M = 0 := by rw [hMM]; exact ex_chk 6 8 (by simp)
  have HCK := Lib.hid hck
  clear hlens hck
  go_enter Try.func11, Try.ntmps11
  go_wp2_with fail
  refine (example_calls 6 8 _).mono ?_
  rintro e w1 ⟨v1, rfl, hE1, hm1⟩
  rw [← hMM] at hm1
  clear hMM
  have hm1b := hm1.bound
  obtain ⟨vfr, vup, vts, rfl, ⟨_, ⟨Af, cf, rfl, -⟩, -⟩, ⟨Au, cu, rfl, -⟩, ⟨_, ⟨At, ct, rfl, -⟩, -⟩⟩ := hm1
  have HM1 := Lib.hid hm1b
  clear hm1b
  go_wp2_with fail
  generalize hw2 : w1.alloc (.cells #[.int .i64 M.w, .int .i64 M.h, .int .i64 M.l, .slice Af M.free.length cf, .slice Au M.up.length cu, .slice At M.tasks.length ct] 31) = w2
  have hgm : Blk w2 w1.heap.size 31 #[.int .i64 M.w, .int .i64 M.h, .int .i64 M.l, .slice Af M.free.length cf, .slice Au M.up.length cu, .slice At M.tasks.length ct] := by rw [← hw2]; exact heap_alloc_new _ _
  have hE2 : Ext w1 w2 := by rw [← hw2]; exact (Ext.refl _).alloc _
  clear hw2
  obtain ⟨m0, m1, m2, m3, m4, m5⟩ := cells6 hgm
  have c0 := Ext.rule m0
  have c1 := Ext.rule m1
  have c2 := Ext.rule m2
  have c3 := Ext.rule m3
  have c4 := Ext.rule m4
  have c5 := Ext.rule m5
  clear m0 m1 m2 m3 m4 m5 hgm
  have HM2 := Lib.hid (HM1.out.below hE2)
  have hx2 := Ext.refl w2
  have hEw2 : Ext w w2 := hE1.trans hE2
  have HEW := Lib.hid hEw2
  have HYS := Lib.hid hE2.size
  clear hE1 hE2 hEw2
  refine (rNext_calls 4 w2 HM2.out HLE.out).mono ?_
  rintro e w3 ⟨v3, rfl, hM3⟩
  rw [HMM.out, ex_next4] at hM3
  obtain ⟨A3, cp3, rfl, -⟩ := hM3.slice
  have HM3 := Lib.hid hM3.ints
  have he3 := hM3.ext
  clear hM3
  have hx3 : Ext w2 w3 := hx2.trans he3
  clear he3
  go_wp2_with fail
  generalize hw4 : w3.alloc (.cells #[.int .i64 1, .int .i64 3, .int .i64 5, .int .i64 7] 3) = w4 at *
  have hl4 : Blk w4 w3.heap.size 3 #[.int .i64 1, .int .i64 3, .int .i64 5, .int .i64 7] := by rw [← hw4]; exact Blk.new _ _ _ rfl
  have he4 : Ext w3 w4 := by rw [← hw4]; exact (Ext.refl _).alloc _
  have HI4 := Lib.hid (lit_ints (l := [1, 3, 5, 7]) hl4 rfl)
  clear hw4 hl4
  generalize w3.heap.size = g4 at *
  have hx4 : Ext w2 w4 := hx3.trans he4
  refine (is_t (a := [1, 3, 5, 7]) (b := [1, 3, 5, 7]) w4 rfl (HM3.out.below he4) HI4.out (by simp)).mono ?_
  rintro e w5 ⟨rfl, hd5⟩
  have he5 : Ext w4 w5 := hd5.below _
  have hx5 : Ext w2 w5 := hx4.trans he5
  clear hd5 he5 HM3 HI4
  go_wp2_with fail
  refine (rNext_calls 0 w5 (HM2.out.below hx5) HLE.out).mono ?_
  rintro e w6 ⟨v6, rfl, hM6⟩
  rw [HMM.out, ex_next0] at hM6
  obtain ⟨A6, cp6, rfl, -⟩ := hM6.slice
  have HM6 := Lib.hid hM6.ints
  have he6 := hM6.ext
  clear hM6
  have hx6 : Ext w2 w6 := hx5.trans he6
  clear he6
  go_wp2_with fail
  generalize hw7 : w6.alloc (.cells #[.int .i64 1, .int .i64 3] 3) = w7 at *
  have hl7 : Blk w7 w6.heap.size 3 #[.int .i64 1, .int .i64 3] := by rw [← hw7]; exact Blk.new _ _ _ rfl
  have he7 : Ext w6 w7 := by rw [← hw7]; exact (Ext.refl _).alloc _
  have HI7 := Lib.hid (lit_ints (l := [1, 3]) hl7 rfl)
  clear hw7 hl7
  generalize w6.heap.size = g7 at *
  have hx7 : Ext w2 w7 := hx6.trans he7
  refine (is_t (a := [1, 3]) (b := [1, 3]) w7 rfl (HM6.out.below he7) HI7.out (by simp)).mono ?_
  rintro e w8 ⟨rfl, hd8⟩
  have he8 : Ext w7 w8 := hd8.below _
  have hx8 : Ext w2 w8 := hx7.trans he8
  clear hd8 he8 HM6 HI7
  go_wp2_with fail
  refine (rCandidates_calls (okc := fun _ => True) w8 (HM2.out.below hx8) HLE.out (Ints.nil _ _) (by simp)).mono ?_
  rintro e w9 ⟨v9, rfl, hM9⟩
  rw [HMM.out, ex_c0] at hM9
  obtain ⟨A9, cp9, rfl, -⟩ := hM9.slice
  have HM9 := Lib.hid hM9.ints
  have he9 := hM9.ext
  clear hM9
  have hx9 : Ext w2 w9 := hx8.trans he9
  clear he9
  go_wp2_with fail
  generalize hw10 : w9.alloc (.cells #[.int .i64 0] 3) = w10 at *
  have hl10 : Blk w10 w9.heap.size 3 #[.int .i64 0] := by rw [← hw10]; exact Blk.new _ _ _ rfl
  have he10 : Ext w9 w10 := by rw [← hw10]; exact (Ext.refl _).alloc _
  have HI10 := Lib.hid (lit_ints (l := [0]) hl10 rfl)
  clear hw10 hl10
  generalize w9.heap.size = g10 at *
  have hx10 : Ext w2 w10 := hx9.trans he10
  refine (is_t (a := [0]) (b := [0]) w10 rfl (HM9.out.below he10) HI10.out (by simp)).mono ?_
  rintro e w11 ⟨rfl, hd11⟩
  have he11 : Ext w10 w11 := hd11.below _
  have hx11 : Ext w2 w11 := hx10.trans he11
  clear hd11 he11 HM9 HI10
  go_wp2_with fail
  generalize hw12 : w11.alloc (.cells #[.int .i64 0] 3) = w12 at *
  have hl12 : Blk w12 w11.heap.size 3 #[.int .i64 0] := by rw [← hw12]; exact Blk.new _ _ _ rfl
  have he12 : Ext w11 w12 := by rw [← hw12]; exact (Ext.refl _).alloc _
  have HI12 := Lib.hid (lit_ints (l := [0]) hl12 rfl)
  clear hw12 hl12
  generalize w11.heap.size = g12 at *
  have hx12 : Ext w2 w12 := hx11.trans he12
  refine (rCandidates_calls w12 (HM2.out.below hx12) HLE.out HI12.out (by simp)).mono ?_
  rintro e w13 ⟨v13, rfl, hM13⟩
  rw [HMM.out, ex_c1] at hM13
  obtain ⟨A13, cp13, rfl, -⟩ := hM13.slice
  have HM13 := Lib.hid hM13.ints
  have he13 := hM13.ext
  clear hM13
  have hx13 : Ext w2 w13 := hx12.trans he13
  clear he13
  go_wp2_with fail
  generalize hw14 : w13.alloc (.cells #[.int .i64 1, .int .i64 3] 3) = w14 at *
  have hl14 : Blk w14 w13.heap.size 3 #[.int .i64 1, .int .i64 3] := by rw [← hw14]; exact Blk.new _ _ _ rfl
  have he14 : Ext w13 w14 := by rw [← hw14]; exact (Ext.refl _).alloc _
  have HI14 := Lib.hid (lit_ints (l := [1, 3]) hl14 rfl)
  clear hw14 hl14
  generalize w13.heap.size = g14 at *
  have hx14 : Ext w2 w14 := hx13.trans he14
  refine (is_t (a := [1, 3]) (b := [1, 3]) w14 rfl (HM13.out.below he14) HI14.out (by simp)).mono ?_
  rintro e w15 ⟨rfl, hd15⟩
  have he15 : Ext w14 w15 := hd15.below _
  have hx15 : Ext w2 w15 := hx14.trans he15
  clear hd15 he15 HM13 HI14
  go_wp2_with fail
  generalize hw16 : w15.alloc (.cells #[.int .i64 0, .int .i64 1, .int .i64 2] 3) = w16 at *
  have hl16 : Blk w16 w15.heap.size 3 #[.int .i64 0, .int .i64 1, .int .i64 2] := by rw [← hw16]; exact Blk.new _ _ _ rfl
  have he16 : Ext w15 w16 := by rw [← hw16]; exact (Ext.refl _).alloc _
  have HI16 := Lib.hid (lit_ints (l := [0, 1, 2]) hl16 rfl)
  clear hw16 hl16
  generalize w15.heap.size = g16 at *
  have hx16 : Ext w2 w16 := hx15.trans he16
  refine (rCandidates_calls w16 (HM2.out.below hx16) HLE.out HI16.out (by simp)).mono ?_
  rintro e w17 ⟨v17, rfl, hM17⟩
  rw [HMM.out, ex_c3] at hM17
  obtain ⟨A17, cp17, rfl, -⟩ := hM17.slice
  have HM17 := Lib.hid hM17.ints
  have he17 := hM17.ext
  clear hM17
  have hx17 : Ext w2 w17 := hx16.trans he17
  clear he17
  go_wp2_with fail
  generalize hw18 : w17.alloc (.cells #[.int .i64 6] 3) = w18 at *
  have hl18 : Blk w18 w17.heap.size 3 #[.int .i64 6] := by rw [← hw18]; exact Blk.new _ _ _ rfl
  have he18 : Ext w17 w18 := by rw [← hw18]; exact (Ext.refl _).alloc _
  have HI18 := Lib.hid (lit_ints (l := [6]) hl18 rfl)
  clear hw18 hl18
  generalize w17.heap.size = g18 at *
  have hx18 : Ext w2 w18 := hx17.trans he18
  refine (is_t (a := [6]) (b := [6]) w18 rfl (HM17.out.below he18) HI18.out (by simp)).mono ?_
  rintro e w19 ⟨rfl, hd19⟩
  have he19 : Ext w18 w19 := hd19.below _
  have hx19 : Ext w2 w19 := hx18.trans he19
  clear hd19 he19 HM17 HI18
  go_wp2_with fail
  have hz20 : (w19.alloc (.cells #[.int .i64 0] 3)).heap.size = w19.heap.size + 1 := by simp
  generalize hw20 : w19.alloc (.cells #[.int .i64 0] 3) = w20 at *
  have hl20 : Blk w20 w19.heap.size 3 #[.int .i64 0] := by rw [← hw20]; exact Blk.new _ _ _ rfl
  have he20 : Ext w19 w20 := by rw [← hw20]; exact (Ext.refl _).alloc _
  have HI20 := Lib.hid (lit_ints (l := [0]) hl20 rfl)
  clear hw20 hl20
  generalize w19.heap.size = g20 at *
  have hx20 : Ext w2 w20 := hx19.trans he20
  generalize hw21 : w20.alloc (.cells #[.int .i64 1] 3) = w21
  have hl21 : Blk w21 (g20 + 1) 3 #[.int .i64 1] := by rw [← hw21]; exact Blk.new _ _ _ hz20.symm
  have he21 : Ext w20 w21 := by rw [← hw21]; exact (Ext.refl _).alloc _
  have HI21 := Lib.hid (lit_ints (l := [1]) hl21 rfl)
  clear hw21 hl21 hz20
  have hx21 : Ext w2 w21 := hx20.trans he21
  refine (rReach_calls 0 w21 (HM2.out.below hx21) HLE.out (HI20.out.below he21) (by simp) HI21.out (by simp)).mono ?_
  rintro e w22 ⟨v22, rfl, hM22⟩
  rw [HMM.out, ex_reach] at hM22
  obtain ⟨A22, cp22, rfl, -⟩ := hM22.slice
  have HM22 := Lib.hid hM22.ints
  have he22 := hM22.ext
  clear hM22
  have hx22 : Ext w2 w22 := hx21.trans he22
  clear he22
  go_wp2_with fail
  generalize hw23 : w22.alloc (.cells #[.int .i64 0, .int .i64 2, .int .i64 3, .int .i64 5, .int .i64 6, .int .i64 7, .int .i64 8] 3) = w23 at *
  have hl23 : Blk w23 w22.heap.size 3 #[.int .i64 0, .int .i64 2, .int .i64 3, .int .i64 5, .int .i64 6, .int .i64 7, .int .i64 8] := by rw [← hw23]; exact Blk.new _ _ _ rfl
  have he23 : Ext w22 w23 := by rw [← hw23]; exact (Ext.refl _).alloc _
  have HI23 := Lib.hid (lit_ints (l := [0, 2, 3, 5, 6, 7, 8]) hl23 rfl)
  clear hw23 hl23
  generalize w22.heap.size = g23 at *
  have hx23 : Ext w2 w23 := hx22.trans he23
  refine (is_t (a := [0, 2, 3, 5, 6, 7, 8]) (b := [0, 2, 3, 5, 6, 7, 8]) w23 rfl (HM22.out.below he23) HI23.out (by simp)).mono ?_
  rintro e w24 ⟨rfl, hd24⟩
  have he24 : Ext w23 w24 := hd24.below _
  have hx24 : Ext w2 w24 := hx23.trans he24
  clear hd24 he24 HM22 HI23
  go_wp2_with fail
  have HXR := Lib.hid hx24
  refine (newB_calls w24 (HM2.out.below hx24) HLE.out (fun b hb => Nat.lt_of_lt_of_le hb.2 (Nat.le_trans HYS.out hx24.size)) HCK.out).mono ?_
  rintro e wr ⟨g, rfl, hEr, hR⟩
  rw [show loadS M [] 0 = ⟨[], false, 0⟩ from by rw [HMM.out]; exact (ex_load 6 8 (by simp)).2] at hR
  have HR := Lib.hid hR
  have hEWr : Hid (Ext w wr) := (HEW.out.trans hx24).trans hEr
  clear hR hEr c0 c1 c2 c3 c4 c5
  go_wp2_with fail
  have hEW := hEWr
  clear hEWr
  have LOR : Hid (∀ b, (fun k => w24.heap.size ≤ k ∧ k < wr.heap.size) b → w.heap.size ≤ b) := fun b hb => Nat.le_trans (Below.size (HEW.out.trans HXR.out)) hb.1
  have hszr := Lib.hid hEW.out.size
  refine (HR.out.step 2 ⟨[0, 1], false, 2⟩ false rfl (by rw [HMM.out]; exact ex_run1) (by omega) (by decide)).mono ?_
  rintro e w25 ⟨rfl, hR25, hc25⟩
  have hlo25 : Hid (Below w.heap.size wr w25) := hc25.below hEW.out.size (fun b hb => LOR.out b hb)
  have hEW := Lib.hid (show Ext w w25 from Below.trans hEW.out hlo25.out)
  have HR := Lib.hid hR25
  clear hR25 hc25 hlo25
  go_wp2_with fail
  have LOR2 : Hid (∀ b, (fun k => (fun k => w24.heap.size ≤ k ∧ k < wr.heap.size) k ∨ wr.heap.size ≤ k ∧ k < w25.heap.size) b → w.heap.size ≤ b) := fun b hb => by rcases hb with hb | hb; exact LOR.out b hb; exact Nat.le_trans hszr.out hb.1
  refine HR.out.choices.mono ?_
  rintro e w26 ⟨v26, rfl, hM26⟩
  dsimp only at hM26
  obtain ⟨A26, cp26, rfl, -⟩ := hM26.slice
  have HM26 := Lib.hid hM26.ints
  have he26 : Ext w25 w26 := hM26.ext
  clear hM26
  have HR := Lib.hid (HR.out.ext he26)
  have hEW := Lib.hid (hEW.out.trans he26)
  go_wp2_with fail
  generalize hw27 : w26.alloc (.cells #[.int .i64 0, .int .i64 1] 3) = w27
  have hl27 : Blk w27 w26.heap.size 3 #[.int .i64 0, .int .i64 1] := by rw [← hw27]; exact Blk.new _ _ _ rfl
  have he27 : Ext w26 w27 := by rw [← hw27]; exact (Ext.refl _).alloc _
  have HI27 := Lib.hid (lit_ints (l := [0, 1]) hl27 rfl)
  clear hw27 hl27
  have HR := Lib.hid (HR.out.ext he27)
  have hEW := Lib.hid (hEW.out.trans he27)
  refine (is_t (a := [0, 1]) (b := [0, 1]) w27 rfl (HM26.out.below he27) HI27.out (by simp)).mono ?_
  rintro e w28 ⟨rfl, hd28⟩
  have he28 : Ext w27 w28 := hd28.below _
  clear hd28 HM26 HI27 he26 he27
  have HR := Lib.hid (HR.out.ext he28)
  have hEW := Lib.hid (hEW.out.trans he28)
  clear he28
  go_wp2_with fail
  refine (HR.out.step 4 ⟨[0, 1, 2, 6, 7, 8], true, 6⟩ true rfl (by rw [HMM.out]; exact ex_run2) (by omega) (by decide)).mono ?_
  rintro e w29 ⟨rfl, hR29, hc29⟩
  have hlo29 : Hid (Below w.heap.size w28 w29) := hc29.below hEW.out.size (fun b hb => LOR2.out b hb)
  have hEW := Lib.hid (show Ext w w29 from Below.trans hEW.out hlo29.out)
  have HR := Lib.hid hR29
  clear hR29 hc29 hlo29
  go_wp2_with fail
  refine HR.out.found.mono ?_
  rintro e w30 ⟨vp, rfl, he30, hP⟩
  dsimp only at hP ⊢
  rw [HMM.out, ex_found] at hP
  rw [HMM.out, ex_cmp]
  obtain ⟨_, ⟨Ap, cpp, rfl, -⟩, -⟩ := id hP
  have HP := Lib.hid hP
  clear hP
  have HR := Lib.hid (HR.out.ext he30)
  have hEW := Lib.hid (hEW.out.trans he30)
  clear he30
  go_wp2_with fail
  refine (example_calls 4 8 _).mono ?_
  rintro e w31 ⟨vm31, rfl, he31, hm31⟩
  have hslT := Lib.hid he31.size
  have HM31 := Lib.hid hm31.bound
  clear hm31
  have HW31 := Lib.hid hEW.out.size
  have HR := Lib.hid (HR.out.ext he31)
  have HP := Lib.hid (HP.out.below he31)
  have hEW := Lib.hid (hEW.out.trans he31)
  clear he31
  go_wp2_with fail
  have HRb := Lib.hid HR.out.fb
  have HP := Lib.hid HP.out.bound
  have HWS := Lib.hid hEW.out.size
  refine (newB_calls w31 HM31.out (ex_lens 4 8) (fun b hb => hb.2) (ex_chk 4 8 (by simp))).mono ?_
  rintro e w32 ⟨gs, rfl, he32, hR32⟩
  rw [(ex_load 4 8 (by simp)).2] at hR32
  have HS := Lib.hid hR32
  clear hR32
  have HR := Lib.hid (HR.out.ext he32)
  have HP := Lib.hid (HP.out.below he32)
  have hEW := Lib.hid (hEW.out.trans he32)
  have HSZ32 := Lib.hid he32.size
  have HSS := Lib.hid he32.size
  clear he32
  go_wp2_with fail
  refine (example_calls 1 7 _).mono ?_
  rintro e w33 ⟨vm33, rfl, he33, hm33⟩
  have hslT := Lib.hid he33.size
  have HM33 := Lib.hid hm33.bound
  clear hm33
  have HW33 := Lib.hid hEW.out.size
  have HR := Lib.hid (HR.out.ext he33)
  have HP := Lib.hid (HP.out.below he33)
  have HS := Lib.hid (HS.out.ext he33)
  have hEW := Lib.hid (hEW.out.trans he33)
  clear he33
  go_wp2_with fail
  have HRb2 := Lib.hid HR.out.fb
  have HSb := Lib.hid HS.out.fb
  have HWT := Lib.hid hEW.out.size
  have HZT : Hid (w32.heap.size ≤ w33.heap.size) := hslT.out
  refine (newB_calls w33 HM33.out (ex_lens 1 7) (fun b hb => hb.2) (ex_chk 1 7 (by simp))).mono ?_
  rintro e w34 ⟨gt, rfl, he34, hR34⟩
  rw [(ex_load 1 7 (by simp)).2] at hR34
  have HT := Lib.hid hR34
  clear hR34
  have HR := Lib.hid (HR.out.ext he34)
  have HP := Lib.hid (HP.out.below he34)
  have HS := Lib.hid (HS.out.ext he34)
  have hEW := Lib.hid (hEW.out.trans he34)
  have HSZ34 := Lib.hid he34.size
  clear he34
  go_wp2_with fail
  refine (HS.out.step 9 ⟨[], true, 1⟩ true rfl (by exact ex_run3) (by omega) (by decide)).mono ?_
  rintro e w35 ⟨rfl, hR35, hc35⟩
  have hlo35 : Hid (Below w.heap.size w34 w35) := hc35.below hEW.out.size (fun b hb => Nat.le_trans HWS.out hb.1)
  have hEW := Lib.hid (show Ext w w35 from Below.trans hEW.out hlo35.out)
  have HR := Lib.hid (HR.out.chg hc35 (fun k hk hx => by have := HRb.out k hk; have := hx.1; omega))
  have HP := Lib.hid (HP.out.keep (hc35.same (fun b hb hx => by have := hb.2; have := hx.1; omega)))
  have HT := Lib.hid (HT.out.chg hc35 (fun k hk hx => hk.elim (fun hk => by have h0 := HZT.out; have := hk.1; have := hx.2; omega) (fun hk => by have := hk.1; have := hx.2; omega)))
  have HS := Lib.hid hR35
  clear hR35 hc35 hlo35
  go_wp2_with fail
  refine (HT.out.step 9 ⟨[], true, 4⟩ true rfl (by exact ex_run4) (by omega) (by decide)).mono ?_
  rintro e w36 ⟨rfl, hR36, hc36⟩
  have hlo36 : Hid (Below w.heap.size w35 w36) := hc36.below hEW.out.size (fun b hb => Nat.le_trans HWT.out hb.1)
  have hEW := Lib.hid (show Ext w w36 from Below.trans hEW.out hlo36.out)
  have HR := Lib.hid (HR.out.chg hc36 (fun k hk hx => by have := HRb2.out k hk; have := hx.1; omega))
  have HP := Lib.hid (HP.out.keep (hc36.same (fun b hb hx => by have := hb.2; have := hx.1; have := HZT.out; have := HSS.out; omega)))
  have HS := Lib.hid (HS.out.chg hc36 (fun k hk hx => hk.elim (fun hk => hk.elim (fun hk => by have := HSb.out k (.inl hk); have := hx.1; omega) (fun hk => by have := hk.1; have := hx.2; omega)) (fun hk => by have := HSb.out k (.inr hk); have := hx.1; omega)))
  have HT := Lib.hid hR36
  clear hR36 hc36 hlo36
  go_wp2_with fail
  refine HS.out.found.mono ?_
  rintro e w37 ⟨v37, rfl, he37, hP⟩
  dsimp only at hP ⊢
  rw [ex_ncmp 4 8 (by simp)]
  obtain ⟨_, ⟨_, _, rfl, -⟩, -⟩ := hP
  have HR := Lib.hid (HR.out.ext he37)
  have HP := Lib.hid (HP.out.below he37)
  have HS := Lib.hid (HS.out.ext he37)
  have HT := Lib.hid (HT.out.ext he37)
  have hEW := Lib.hid (hEW.out.trans he37)
  clear he37
  go_wp2_with fail
  refine HT.out.found.mono ?_
  rintro e w38 ⟨v38, rfl, he38, hP⟩
  dsimp only at hP ⊢
  rw [ex_ncmp 1 7 (by simp)]
  obtain ⟨_, ⟨_, _, rfl, -⟩, -⟩ := hP
  have HR := Lib.hid (HR.out.ext he38)
  have HP := Lib.hid (HP.out.below he38)
  have HS := Lib.hid (HS.out.ext he38)
  have HT := Lib.hid (HT.out.ext he38)
  have hEW := Lib.hid (hEW.out.trans he38)
  clear he38
  go_wp2_with fail
  obtain ⟨hqE, hqI⟩ := lit2 w38
  generalize (((w38.alloc (.cells #[.int .i64 0, .int .i64 1, .int .i64 2] 3)).alloc (.cells #[.int .i64 6, .int .i64 7, .int .i64 8] 3)).alloc (.cells #[.slice (some ⟨w38.heap.size, 0, none⟩) 3 3, .slice (some ⟨w38.heap.size + 1, 0, none⟩) 3 3] 24)) = w39 at *
  have HQI := Lib.hid hqI
  clear hqI
  have HR := Lib.hid (HR.out.ext hqE)
  have HP := Lib.hid (HP.out.below hqE)
  have HS := Lib.hid (HS.out.ext hqE)
  have HT := Lib.hid (HT.out.ext hqE)
  have hEW := Lib.hid (hEW.out.trans hqE)
  clear hqE
  refine (samePaths_t w39 rfl HP.out HQI.out (by simp) (by simp)).mono ?_
  rintro e w40 ⟨rfl, hd40⟩
  have he40 : Ext w39 w40 := hd40.below _
  clear hd40 HQI
  have HR := Lib.hid (HR.out.ext he40)
  have HP := Lib.hid (HP.out.below he40)
  have HS := Lib.hid (HS.out.ext he40)
  have HT := Lib.hid (HT.out.ext he40)
  have hEW := Lib.hid (hEW.out.trans he40)
  clear he40
  go_wp2_with fail
  refine HR.out.choices.mono ?_
  rintro e w41 ⟨v41, rfl, hM41⟩
  dsimp only at hM41
  obtain ⟨A41, cp41, rfl, -⟩ := hM41.slice
  have HM41 := Lib.hid hM41.ints
  have he41 : Ext w40 w41 := hM41.ext
  clear hM41
  have HR := Lib.hid (HR.out.ext he41)
  have HS := Lib.hid (HS.out.ext he41)
  have HT := Lib.hid (HT.out.ext he41)
  have hEW := Lib.hid (hEW.out.trans he41)
  go_wp2_with fail
  generalize hw42 : w41.alloc (.cells #[.int .i64 0, .int .i64 1, .int .i64 2, .int .i64 6, .int .i64 7, .int .i64 8] 3) = w42
  have hl42 : Blk w42 w41.heap.size 3 #[.int .i64 0, .int .i64 1, .int .i64 2, .int .i64 6, .int .i64 7, .int .i64 8] := by rw [← hw42]; exact Blk.new _ _ _ rfl
  have he42 : Ext w41 w42 := by rw [← hw42]; exact (Ext.refl _).alloc _
  have HI42 := Lib.hid (lit_ints (l := [0, 1, 2, 6, 7, 8]) hl42 rfl)
  clear hw42 hl42
  have HR := Lib.hid (HR.out.ext he42)
  have HS := Lib.hid (HS.out.ext he42)
  have HT := Lib.hid (HT.out.ext he42)
  have hEW := Lib.hid (hEW.out.trans he42)
  refine (is_t (a := [0, 1, 2, 6, 7, 8]) (b := [0, 1, 2, 6, 7, 8]) w42 rfl (HM41.out.below he42) HI42.out (by simp)).mono ?_
  rintro e w43 ⟨rfl, hd43⟩
  have he43 : Ext w42 w43 := hd43.below _
  clear hd43 HM41 HI42 he41 he42
  have HR := Lib.hid (HR.out.ext he43)
  have HS := Lib.hid (HS.out.ext he43)
  have HT := Lib.hid (HT.out.ext he43)
  have hEW := Lib.hid (hEW.out.trans he43)
  clear he43
  go_wp2_with fail
  refine HR.out.stepsC.mono ?_
  rintro e w44 ⟨rfl, rfl⟩
  dsimp only
  go_wp2_with fail
  refine HS.out.stepsC.mono ?_
  rintro e w45 ⟨rfl, rfl⟩
  dsimp only
  go_wp2_with fail
  refine HT.out.stepsC.mono ?_
  rintro e w46 ⟨rfl, rfl⟩
  dsimp only
  go_wp2_with fail
  go_ret
  exact ⟨rfl, hEW.out⟩
end Go.Proofs.Ytgpjfpcjiebjiaa
