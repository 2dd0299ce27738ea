/- Walks: Next and Reach, of the program and of the reference. -/
import Derived.Test.YtgpjfpcjiebjiaaRtI
import Derived.Test.YtgpjfpcjiebjiaaRtG
namespace Go.Proofs.Ytgpjfpcjiebjiaa
open Go.RowKit
set_option linter.unusedVariables false
set_option linter.unusedSimpArgs false
attribute [local go_sem ↓] Go.wp_at_zero Go.wp_at_succ

/-- A right maze. -/
structure Good (m : MZ) : Prop where
  dim : Dim m
  fl : m.free.length = m.tasks.length
  fn : ∀ f ∈ m.free, (f.length : Int) = m.n
  tk : m.tasks.length ≤ 6
  tn : ∀ t ∈ m.tasks, ∀ x, x ∈ t.1 ∨ x ∈ t.2 → 0 ≤ x ∧ x < m.n
theorem Good.of {m : MZ} (h : chk m = 0) : Good m := by
  unfold chk at h
  split at h
  · cases h
  · rename_i h1
    have h1' : [m.w, m.h, m.l].any side = false := by simpa using h1
    obtain ⟨⟨a1, a2⟩, ⟨b1, b2⟩, c1, c2⟩ := sides h1'
    split at h
    · cases h
    · rename_i h2
      split at h
      · cases h
      · rename_i h3
        split at h
        · cases h
        · rename_i h4
          have h2' : m.n ≤ 300 ∧ m.tasks.length ≤ 6 := by omega
          have h3a : m.free.length = m.tasks.length := by
            by_cases h : m.free.length = m.tasks.length
            · exact h
            · exact absurd (.inl h) h3
          have h3b : (m.up.length : Int) = m.n := by
            by_cases h : (m.up.length : Int) = m.n
            · exact h
            · exact absurd (.inr (.inl h)) h3
          have h3c : ∀ f ∈ m.free, (f.length : Int) = m.n := by
            intro f hf
            by_cases h : (f.length : Int) = m.n
            · exact h
            · exact absurd (.inr (.inr (List.any_eq_true.2 ⟨f, hf, by simpa using h⟩))) h3
          refine ⟨⟨a1, a2, b1, b2, c1, c2, h2'.1, h3b⟩, h3a, h3c, h2'.2, fun t ht x hx => ?_⟩
          by_cases hb : beyond m.n x = true
          · exfalso
            apply h4
            refine List.any_eq_true.2 ⟨t, ht, ?_⟩
            rw [Bool.or_eq_true]
            rcases hx with hx | hx
            · exact .inl (List.any_eq_true.2 ⟨x, hx, hb⟩)
            · exact .inr (List.any_eq_true.2 ⟨x, hx, hb⟩)
          · simp [beyond] at hb
            omega
theorem Good.n1 {m : MZ} (g : Good m) : 1 ≤ m.w * m.h * m.l := by have := g.dim.layer; omega

/-- What Next returns. -/
def nextO (m : MZ) (node : Int) : List Int := if chk m = 0 ∧ 0 ≤ node ∧ node < m.n then nextL m node else []
open Classical in
/-- What Reach returns. -/
noncomputable def reachO (m : MZ) (t : Int) (from_ used : List Int) : List Int := if chk m = 0 ∧ 0 ≤ t ∧ t < m.tasks.length then reachL m t.toNat from_ used else []

set_option maxHeartbeats 4000000 in
set_option maxRecDepth 100000 in
theorem rNext_calls {ok : Nat → Prop} {v : Value} {m : MZ} (node : Int) (w : World) (hm : MazeV w ok v m) (hl : Lens m) :
    Calls Try.prog 18 #[v, .int .i64 node] w fun e w' => ∃ v', e = .returned v' ∧ Mk w w' v' (nextO m node) := by
  have hmz := hm
  obtain ⟨vfr, vup, vts, rfl, hfr, _, hts⟩ := hm
  obtain ⟨vst, ⟨At, ct, rfl, hct, _⟩, _⟩ := hts
  have HMZ := Lib.hid hmz; clear hmz
  have HL := Lib.hid hl
  obtain ⟨l1, l2, l3, l4⟩ := hl
  clear l4 hfr
  go_enter Try.func18, Try.ntmps18
  go_wp2_with fail
  generalize hw1 : w.alloc (.cells #[.int .i64 m.w, .int .i64 m.h, .int .i64 m.l, vfr, vup, .slice At m.tasks.length ct] 31) = w1
  have hb1 : Ext w w1 := by rw [← hw1]; exact (Ext.refl w).alloc _
  have hgm : Blk w1 w.heap.size 31 #[.int .i64 m.w, .int .i64 m.h, .int .i64 m.l, vfr, vup, .slice At m.tasks.length ct] := by rw [← hw1]; exact heap_alloc_new _ _
  clear hw1
  obtain ⟨m0, m1, m2, m3, m4, m5⟩ := cells6 hgm
  have r0 := Ext.rule m0
  have r1 := Ext.rule m1
  have r2 := Ext.rule m2
  have r3 := Ext.rule m3
  have r4 := Ext.rule m4
  have r5 := Ext.rule m5
  clear m0 m1 m2 m3 m4 m5 hgm
  have ra := ext_allocs w1
  have hx : Ext w1 w1 := Ext.refl w1
  go_wp2_with fail
  refine (check_calls w1 (HMZ.out.below hb1) HL.out).mono ?_
  rintro e wA ⟨rfl, hbA⟩
  have hxA : Ext w1 wA := hbA
  clear hx
  by_cases hc : chk m = 0
  case neg =>
    have hd : (chk m != 0) = true := by simpa using hc
    have HC := Lib.hid hc; clear hc
    go_wp2
    go_ret
    exact ⟨_, rfl, (hb1.trans hxA).mono_mk (Mk.cast (Mk.nil _) (by unfold nextO; rw [if_neg (fun h => HC.out h.1)]))⟩
  have hd : (chk m != 0) = false := by simpa using hc
  have G := Lib.hid (Good.of hc)
  have HC := Lib.hid hc; clear hc
  obtain ⟨hl1, hl2⟩ := G.out.dim.layer
  have hn1 := G.out.dim.n1
  by_cases h0 : 0 ≤ node
  case neg =>
    go_wp2
    go_ret
    exact ⟨_, rfl, (hb1.trans hxA).mono_mk (Mk.cast (Mk.nil _) (by unfold nextO; rw [if_neg (fun h => by have := h.2.1; omega)]))⟩
  go_wp2_with fail
  refine (rnodes_calls _ _ _ _ _ _ _ (by omega) (by omega)).mono ?_
  rintro e wB ⟨rfl, hbB⟩
  have hxB : Ext w1 wB := hxA.trans hbB
  by_cases h1 : node < m.w * m.h * m.l
  case neg =>
    go_wp2
    go_ret
    exact ⟨_, rfl, (hb1.trans hxB).mono_mk (Mk.cast (Mk.nil _) (by unfold nextO; rw [if_neg (fun h => by have := h.2.2; unfold MZ.n at this; omega)]))⟩
  go_wp2_with fail
  refine (next_calls m node _ (HMZ.out.below (hb1.trans hxB)) G.out.dim h0 h1).mono ?_
  rintro e wC ⟨v', rfl, hbC, hoC⟩
  have HM : Hid (Mk wB wC v' (nextL m node)) := ⟨hoC, hbC⟩
  clear hoC
  have hxC : Ext w1 wC := hxB.trans hbC
  go_wp2_with fail
  go_ret
  exact ⟨_, rfl, (hb1.trans hxB).mono_mk (HM.out.cast (by unfold nextO; rw [if_pos ⟨HC.out, h0, h1⟩]))⟩

set_option maxHeartbeats 4000000 in
set_option maxRecDepth 100000 in
theorem qNext_calls {ok : Nat → Prop} {v : Value} {m : MZ} (node : Int) (w : World) (hm : MazeV w ok v m) (hl : Lens m) :
    Calls Try.prog 19 #[v, .int .i64 node] w fun e w' => ∃ v', e = .returned v' ∧ Mk w w' v' (nextO m node) := by
  have hmz := hm
  obtain ⟨vfr, vup, vts, rfl, hfr, _, hts⟩ := hm
  obtain ⟨vst, ⟨At, ct, rfl, hct, _⟩, _⟩ := hts
  have HMZ := Lib.hid hmz; clear hmz
  have HL := Lib.hid hl
  obtain ⟨l1, l2, l3, l4⟩ := hl
  clear l4 hfr
  go_enter Try.func19, Try.ntmps19
  go_wp2_with fail
  generalize hw1 : w.alloc (.cells #[.int .i64 m.w, .int .i64 m.h, .int .i64 m.l, vfr, vup, .slice At m.tasks.length ct] 31) = w1
  have hb1 : Ext w w1 := by rw [← hw1]; exact (Ext.refl w).alloc _
  have hgm : Blk w1 w.heap.size 31 #[.int .i64 m.w, .int .i64 m.h, .int .i64 m.l, vfr, vup, .slice At m.tasks.length ct] := by rw [← hw1]; exact heap_alloc_new _ _
  clear hw1
  obtain ⟨m0, m1, m2, m3, m4, m5⟩ := cells6 hgm
  have r0 := Ext.rule m0
  have r1 := Ext.rule m1
  have r2 := Ext.rule m2
  have r3 := Ext.rule m3
  have r4 := Ext.rule m4
  have r5 := Ext.rule m5
  clear m0 m1 m2 m3 m4 m5 hgm
  have ra := ext_allocs w1
  have hx : Ext w1 w1 := Ext.refl w1
  go_wp2_with fail
  refine (qcheck_calls w1 (HMZ.out.below hb1) HL.out).mono ?_
  rintro e wA ⟨rfl, hbA⟩
  have hxA : Ext w1 wA := hbA
  clear hx
  by_cases hc : chk m = 0
  case neg =>
    have hd : (chk m != 0) = true := by simpa using hc
    have HC := Lib.hid hc; clear hc
    go_wp2
    go_ret
    exact ⟨_, rfl, (hb1.trans hxA).mono_mk (Mk.cast (Mk.nil _) (by unfold nextO; rw [if_neg (fun h => HC.out h.1)]))⟩
  have hd : (chk m != 0) = false := by simpa using hc
  have G := Lib.hid (Good.of hc)
  have HC := Lib.hid hc; clear hc
  obtain ⟨hl1, hl2⟩ := G.out.dim.layer
  have hn1 := G.out.dim.n1
  by_cases h0 : 0 ≤ node
  case neg =>
    go_wp2
    go_ret
    exact ⟨_, rfl, (hb1.trans hxA).mono_mk (Mk.cast (Mk.nil _) (by unfold nextO; rw [if_neg (fun h => by have := h.2.1; omega)]))⟩
  go_wp2_with fail
  refine (qnodes_calls _ _ _ _ _ _ _ (by omega) (by omega)).mono ?_
  rintro e wB ⟨rfl, hbB⟩
  have hxB : Ext w1 wB := hxA.trans hbB
  by_cases h1 : node < m.w * m.h * m.l
  case neg =>
    go_wp2
    go_ret
    exact ⟨_, rfl, (hb1.trans hxB).mono_mk (Mk.cast (Mk.nil _) (by unfold nextO; rw [if_neg (fun h => by have := h.2.2; unfold MZ.n at this; omega)]))⟩
  go_wp2_with fail
  refine (qnext_calls m node _ (HMZ.out.below (hb1.trans hxB)) G.out.dim h0 h1).mono ?_
  rintro e wC ⟨v', rfl, hbC, hoC⟩
  have HM : Hid (Mk wB wC v' (nextL m node)) := ⟨hoC, hbC⟩
  clear hoC
  have hxC : Ext w1 wC := hxB.trans hbC
  go_wp2_with fail
  go_ret
  exact ⟨_, rfl, (hb1.trans hxB).mono_mk (HM.out.cast (by unfold nextO; rw [if_pos ⟨HC.out, h0, h1⟩]))⟩

set_option maxHeartbeats 4000000 in
set_option maxRecDepth 100000 in
theorem qReach_calls {ok ok1 ok2 : Nat → Prop} {v vf vu : Value} {m : MZ} {from_ used : List Int} (t : Int) (w : World) (hm : MazeV w ok v m) (hl : Lens m) (hf : Ints w ok1 vf from_) (hlf : from_.length ≤ 20000000000000) (hu : Ints w ok2 vu used) (hlu : used.length ≤ 20000000000000) :
    Calls Try.prog 21 #[v, .int .i64 t, vf, vu] w fun e w' => ∃ v', e = .returned v' ∧ Mk w w' v' (reachO m t from_ used) := by
  have hmz := hm
  obtain ⟨vfr, vup, vts, rfl, hfr, _, hts⟩ := hm
  obtain ⟨vst, ⟨At, ct, rfl, hct, _⟩, _⟩ := hts
  have HMZ := Lib.hid hmz; clear hmz
  have HL := Lib.hid hl
  obtain ⟨l1, l2, l3, l4⟩ := hl
  clear l4 hfr
  have HF := Lib.hid hf; clear hf
  have HU := Lib.hid hu; clear hu
  go_enter Try.func21, Try.ntmps21
  go_wp2_with fail
  generalize hw1 : w.alloc (.cells #[.int .i64 m.w, .int .i64 m.h, .int .i64 m.l, vfr, vup, .slice At m.tasks.length ct] 31) = w1
  have hb1 : Ext w w1 := by rw [← hw1]; exact (Ext.refl w).alloc _
  have hgm : Blk w1 w.heap.size 31 #[.int .i64 m.w, .int .i64 m.h, .int .i64 m.l, vfr, vup, .slice At m.tasks.length ct] := by rw [← hw1]; exact heap_alloc_new _ _
  clear hw1
  obtain ⟨m0, m1, m2, m3, m4, m5⟩ := cells6 hgm
  have r0 := Ext.rule m0
  have r1 := Ext.rule m1
  have r2 := Ext.rule m2
  have r3 := Ext.rule m3
  have r4 := Ext.rule m4
  have r5 := Ext.rule m5
  clear m0 m1 m2 m3 m4 m5 hgm
  have ra := ext_allocs w1
  have hx : Ext w1 w1 := Ext.refl w1
  go_wp2_with fail
  refine (qcheck_calls w1 (HMZ.out.below hb1) HL.out).mono ?_
  rintro e wA ⟨rfl, hbA⟩
  have hxA : Ext w1 wA := hbA
  clear hx
  by_cases hc : chk m = 0
  case neg =>
    have hd : (chk m != 0) = true := by simpa using hc
    have HC := Lib.hid hc; clear hc
    go_wp2
    go_ret
    exact ⟨_, rfl, (hb1.trans hxA).mono_mk (Mk.cast (Mk.nil _) (by unfold reachO; rw [if_neg (fun h => HC.out h.1)]))⟩
  have hd : (chk m != 0) = false := by simpa using hc
  have G := Lib.hid (Good.of hc)
  have HC := Lib.hid hc; clear hc
  obtain ⟨hl1, hl2⟩ := G.out.dim.layer
  have hn1 := G.out.dim.n1
  by_cases h0 : 0 ≤ t
  case neg =>
    go_wp2
    go_ret
    exact ⟨_, rfl, (hb1.trans hxA).mono_mk (Mk.cast (Mk.nil _) (by unfold reachO; rw [if_neg (fun h => by have := h.2.1; omega)]))⟩
  by_cases h1 : t < m.tasks.length
  case neg =>
    have h1' : (m.tasks.length : Int) ≤ t := by omega
    go_wp2
    go_ret
    exact ⟨_, rfl, (hb1.trans hxA).mono_mk (Mk.cast (Mk.nil _) (by unfold reachO; rw [if_neg (fun h => by have := h.2.2; omega)]))⟩
  obtain ⟨tn, rfl⟩ : ∃ tn : Nat, t = tn := ⟨t.toNat, by omega⟩
  have htn : tn < m.free.length := by have := G.out.fl; omega
  have htn2 : tn < m.tasks.length := by omega
  go_wp2_with fail
  refine (qreach_calls tn _ (HMZ.out.below (hb1.trans hxA)) G.out.dim htn G.out.fn (HF.out.below (hb1.trans hxA)) hlf (HU.out.below (hb1.trans hxA)) hlu).mono ?_
  rintro e wC ⟨v', rfl, hM⟩
  have HM := Lib.hid hM; clear hM
  have hxC : Ext w1 wC := hxA.trans HM.out.ext
  go_wp2_with fail
  go_ret
  exact ⟨_, rfl, (hb1.trans hxA).mono_mk (HM.out.cast (by unfold reachO; rw [if_pos ⟨HC.out, by omega, by omega⟩]; rfl))⟩

set_option maxHeartbeats 4000000 in
set_option maxRecDepth 100000 in
theorem rReach_calls {ok ok1 ok2 : Nat → Prop} {v vf vu : Value} {m : MZ} {from_ used : List Int} (t : Int) (w : World) (hm : MazeV w ok v m) (hl : Lens m) (hf : Ints w ok1 vf from_) (hlf : from_.length ≤ 20000000000000) (hu : Ints w ok2 vu used) (hlu : used.length ≤ 20000000000000) :
    Calls Try.prog 20 #[v, .int .i64 t, vf, vu] w fun e w' => ∃ v', e = .returned v' ∧ Mk w w' v' (reachO m t from_ used) := by
  have hmz := hm
  obtain ⟨vfr, vup, vts, rfl, hfr, _, hts⟩ := hm
  obtain ⟨vst, ⟨At, ct, rfl, hct, _⟩, _⟩ := hts
  have HMZ := Lib.hid hmz; clear hmz
  have HL := Lib.hid hl
  obtain ⟨l1, l2, l3, l4⟩ := hl
  clear l4 hfr
  have HF := Lib.hid hf; clear hf
  have HU := Lib.hid hu; clear hu
  go_enter Try.func20, Try.ntmps20
  go_wp2_with fail
  generalize hw1 : w.alloc (.cells #[.int .i64 m.w, .int .i64 m.h, .int .i64 m.l, vfr, vup, .slice At m.tasks.length ct] 31) = w1
  have hb1 : Ext w w1 := by rw [← hw1]; exact (Ext.refl w).alloc _
  have hgm : Blk w1 w.heap.size 31 #[.int .i64 m.w, .int .i64 m.h, .int .i64 m.l, vfr, vup, .slice At m.tasks.length ct] := by rw [← hw1]; exact heap_alloc_new _ _
  clear hw1
  obtain ⟨m0, m1, m2, m3, m4, m5⟩ := cells6 hgm
  have r0 := Ext.rule m0
  have r1 := Ext.rule m1
  have r2 := Ext.rule m2
  have r3 := Ext.rule m3
  have r4 := Ext.rule m4
  have r5 := Ext.rule m5
  clear m0 m1 m2 m3 m4 m5 hgm
  have ra := ext_allocs w1
  have hx : Ext w1 w1 := Ext.refl w1
  go_wp2_with fail
  refine (check_calls w1 (HMZ.out.below hb1) HL.out).mono ?_
  rintro e wA ⟨rfl, hbA⟩
  have hxA : Ext w1 wA := hbA
  clear hx
  by_cases hc : chk m = 0
  case neg =>
    have hd : (chk m != 0) = true := by simpa using hc
    have HC := Lib.hid hc; clear hc
    go_wp2
    go_ret
    exact ⟨_, rfl, (hb1.trans hxA).mono_mk (Mk.cast (Mk.nil _) (by unfold reachO; rw [if_neg (fun h => HC.out h.1)]))⟩
  have hd : (chk m != 0) = false := by simpa using hc
  have G := Lib.hid (Good.of hc)
  have HC := Lib.hid hc; clear hc
  obtain ⟨hl1, hl2⟩ := G.out.dim.layer
  have hn1 := G.out.dim.n1
  by_cases h0 : 0 ≤ t
  case neg =>
    go_wp2
    go_ret
    exact ⟨_, rfl, (hb1.trans hxA).mono_mk (Mk.cast (Mk.nil _) (by unfold reachO; rw [if_neg (fun h => by have := h.2.1; omega)]))⟩
  by_cases h1 : t < m.tasks.length
  case neg =>
    have h1' : (m.tasks.length : Int) ≤ t := by omega
    go_wp2
    go_ret
    exact ⟨_, rfl, (hb1.trans hxA).mono_mk (Mk.cast (Mk.nil _) (by unfold reachO; rw [if_neg (fun h => by have := h.2.2; omega)]))⟩
  obtain ⟨tn, rfl⟩ : ∃ tn : Nat, t = tn := ⟨t.toNat, by omega⟩
  have htn : tn < m.free.length := by have := G.out.fl; omega
  have htn2 : tn < m.tasks.length := by omega
  go_wp2_with fail
  have hxD := Lib.hid hxA
  go_region_held3 (fun w' => Ext w1 w' ∧ Ext wA w')
    (first | (exact held_drew hxA) | (exact held_ext (held_drew hxA) hb8) | (exact held_ext (held_ext (held_drew hxA) hb8) hb9))
    (first | ((go_at_call 58; refine (setOf_calls _ (HU.out.keep (Same.of_below (hb1.trans hxA.drew))) hlu).mono ?_; rintro e w8 ⟨s8, rfl, hb8, hs8, hss8⟩)) | ((go_at_call 57; refine (reach_calls tn _ (HMZ.out.keep (Same.of_below (hb1.trans (hxA.drew.trans hb8)))) G.out.dim htn G.out.fn (HF.out.keep (Same.of_below (hb1.trans (hxA.drew.trans hb8)))) hlf hs8).mono ?_; rintro e w9 ⟨s9, rfl, hb9, hs9, hss9⟩)))
  rename_i hS
  have hx9 := hS.1
  have HS9 := Lib.hid hs9; clear hs9
  have hE := Lib.hid (reachL_of (used := used) (fun x => (hss9 x).trans ⟨fun h => h.congr (fun _ => Iff.rfl) hss8, fun h => h.congr (fun _ => Iff.rfl) (fun y => (hss8 y).symm)⟩)); clear hss9
  have hgs : w8.heap.size + 1 < w9.heap.size := lt_of_some HS9.out
  obtain ⟨gs, hgs'⟩ : ∃ gs, gs = w8.heap.size + 1 := ⟨_, rfl⟩
  rw [← hgs'] at HS9 hgs
  have HG := Lib.hid hgs'
  clear hb8 hs8 hss8 hS
  go_wp2_with fail
  rw [← HG.out]
  clear hgs' hb9
  refine (rnodes_calls _ _ _ _ _ _ _ (by omega) (by omega)).mono ?_
  rintro e wB ⟨rfl, hbB⟩
  have hxB : Ext w1 wB := hx9.trans hbB
  have HSB := Lib.hid (HS9.out.below hbB)
  clear HS9 hgs hbB
  obtain ⟨N, hN⟩ : ∃ N : Nat, m.w * m.h * m.l = (N : Int) := ⟨(m.w * m.h * m.l).toNat, by omega⟩
  have HN := Lib.hid hN; clear hN
  have hN3 : N ≤ 300 := by have h := HN.out; have := G.out.dim.n1; omega
  have hMk := Lib.hid (Mk.nil wB)
  rw [HN.out]
  go_wp2_with fail
  go_loopw [9, 34] (fun v i wr => ∃ k : Nat, k ≤ N ∧ i = .int .i64 (k : Nat) ∧ Hid (Mk wB wr v (((List.range k).map Int.ofNat).filter (fun x => decide (x ∈ s9))))) (fun _ i _ => N - (intOf i).toNat)
  case atStart => exact ⟨0, by omega, rfl, hMk⟩
  clear hMk
  case round =>
    obtain ⟨j, hj, rfl, hM⟩ := hrel
    by_cases hjl : j < N
    · have hstep : ((List.range (j + 1)).map Int.ofNat).filter (fun x => decide (x ∈ s9)) = ((List.range j).map Int.ofNat).filter (fun x => decide (x ∈ s9)) ++ [(j : Int)].filter (fun x => decide (x ∈ s9)) := by
        rw [List.range_succ, List.map_append, List.filter_append]; rfl
      have HS := Lib.hid hstep; clear hstep
      have hset := HSB.out.below hM.out.ext
      by_cases hjs : (j : Int) ∈ s9
      · have hlk := look_t hset hjs
        have HJS := Lib.hid hjs; clear hjs
        have hlen : (((List.range j).map Int.ofNat).filter (fun x => decide (x ∈ s9))).length ≤ j := Nat.le_trans (List.length_filter_le _ _) (by simp)
        obtain ⟨lj, hlj⟩ : ∃ lj, lj = ((List.range j).map Int.ofNat).filter (fun x => decide (x ∈ s9)) := ⟨_, rfl⟩
        rw [← hlj] at hM hlen HS
        clear hlj
        have hzB := hM.out.ext.size
        go_wp2_with (at_builtin; refine wpAppAt rfl _ _ rfl _ lj (j : Int) wB.heap.size wr.heap.size 1 _ rfl rfl (hM.out.own.alloc _) ?d1 ?d2 ?d3 ?_)
        (try case d1 => exact cell_new _ _ _ (by simp))
        case d2 => (first | (simp; done) | (simp; omega) | omega)
        case d3 => omega
        intro v' wb hob hgb hbl
        have hM' := Lib.hid ((hM.out.alloc _).app hob hgb)
        clear hob hgb hbl
        go_wp2
        go_roundw
        case rel => exact ⟨j + 1, by omega, by go_num, by rw [HS.out, List.filter_cons_of_pos (by simpa using HJS.out)]; exact hM'⟩
        case measure => simp [intOf]; omega
      · have hlk := look_f hset hjs
        have HJS := Lib.hid hjs; clear hjs
        go_wp2
        go_roundw
        case rel => exact ⟨j + 1, by omega, by go_num, by rw [HS.out, List.filter_cons_of_neg (by simpa using HJS.out), List.filter_nil, List.append_nil]; exact hM⟩
        case measure => simp [intOf]; omega
    · have hjN : j = N := by omega
      subst hjN
      go_wp2_with fail
      go_ret
      refine ⟨_, rfl, (hb1.trans hxB).mono_mk (hM.out.cast ?_)⟩
      have hN' : m.n.toNat = j := by have : m.n = (j : Int) := HN.out; omega
      unfold reachO
      rw [if_pos ⟨HC.out, by omega, by omega⟩, Int.toNat_natCast, ← hE.out, hN']
end Go.Proofs.Ytgpjfpcjiebjiaa
