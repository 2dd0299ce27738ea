/- Walks: the router's small functions. -/
import Derived.Test.YtgpjfpcjiebjiaaRtN
namespace Go.Proofs.Ytgpjfpcjiebjiaa
open Go.RowKit
set_option linter.unusedVariables false
set_option linter.unusedSimpArgs false
attribute [local go_sem ↓] Go.wp_at_zero Go.wp_at_succ

set_option maxHeartbeats 1000000 in
set_option maxRecDepth 100000 in
theorem last_calls {g gr P cap n p : Nat} (w : World) (hc0 : w.cell? ⟨g, 0, none⟩ = some (.slice (some ⟨gr, 0, none⟩) P cap)) (hcl : w.cell? ⟨gr, n, none⟩ = some (ptrV p)) (hP : P = n + 1) (hcap : P ≤ cap) (hn : n ≤ 1000) :
    Calls Try.prog 62 #[.pointer (some ⟨g, 0, none⟩)] w fun e w' => e = .returned (ptrV p) ∧ Drew w w' := by
  have r0 := Ext.rule hc0
  have r1 := Ext.rule hcl
  have hq0 : (0 : Int) ≤ (n : Int) := by omega
  have hq1 : (n : Int) < (P : Int) := by omega
  have hqw : IntKind.i64.wrap ((P : Int) - 1) = (n : Int) := by rw [IntKind.wrap_i64]; omega
  clear hc0 hcl hP
  have hx := Ext.refl w
  go_enter Try.func62, Try.ntmps62
  go_wp2_with fail
  go_quiet (fail)
  go_wp2
  go_ret
  exact ⟨rfl, (Drew.refl w).more _⟩
theorem last_c {w w' : World} {X Y : Nat → Prop} {g gr cap p : Nat} {m : MZ} {s : RS} {ptrs : List Nat} (h : RtAt w X Y g gr cap m s ptrs) (hp : ptrs[s.ch.length]? = some p) (hn : s.ch.length ≤ 1000) :
    Calls Try.prog 62 #[.pointer (some ⟨g, 0, none⟩)] w fun e w' => e = .returned (.pointer (some ⟨p, 0, none⟩)) ∧ Drew w w' := by
  obtain ⟨p', hp', _, hc⟩ := h.row.last
  rw [hp] at hp'
  injection hp' with hp'
  subst hp'
  exact last_calls w (h.blk.cell (k := 0) rfl) hc h.row.2.1 (own_cap h.row.1) hn

set_option maxRecDepth 100000 in
theorem steps_c {X Y : Nat → Prop} {g gr cap : Nat} {m : MZ} {s : RS} {ptrs : List Nat} (w : World) (h : RtAt w X Y g gr cap m s ptrs) :
    Calls Try.prog 28 #[.pointer (some ⟨g, 0, none⟩)] w fun e w' => e = .returned (.int .i64 s.steps) ∧ w = w' := by
  have hc : w.cell? ⟨g, 2, none⟩ = some (.int .i64 s.steps) := h.blk.cell (k := 2) rfl
  clear h
  go_enter Try.func28, Try.ntmps28
  go_wp2
  go_ret
  exact ⟨rfl, rfl⟩

set_option maxHeartbeats 1000000 in
set_option maxRecDepth 100000 in
theorem choices_c {X Y : Nat → Prop} {g gr cap : Nat} {m : MZ} {s : RS} {ptrs : List Nat} (w : World) (h : RtAt w X Y g gr cap m s ptrs) (hn : s.ch.length ≤ 1000) :
    Calls Try.prog 29 #[.pointer (some ⟨g, 0, none⟩)] w fun e w' => ∃ v', e = .returned v' ∧ Mk w w' v' s.ch := by
  obtain ⟨p, hp, hst, hc1⟩ := h.row.last
  have HL := Lib.hid (last_c (w' := w) h hp hn)
  have hc0 : w.cell? ⟨g, 0, none⟩ = some (.slice (some ⟨gr, 0, none⟩) ptrs.length cap) := h.blk.cell (k := 0) rfl
  have hcap := own_cap h.row.1
  have hlen := h.row.2.1
  clear h hp hc1
  obtain ⟨us, f, u, t, vc, vp, gu, h1, h2⟩ := hst
  obtain ⟨r0, r1, r2, r3, r4, r5, r6, r7, r8⟩ := h2.rules
  have HS := Lib.hid h2.ch
  clear h1 h2
  generalize ptrs.length = P at *
  have hP0 : decide ((P : Int) = 0) = false := decide_eq_false (by omega)
  have hP1 : ((P : Int) == 0) = false := by rw [beq_eq_false_iff_ne]; omega
  have HN := Lib.hid hn
  clear hlen
  go_enter Try.func29, Try.ntmps29
  go_wp2_with fail
  refine HL.out.mono ?_
  rintro e w1 ⟨rfl, hd⟩
  have hx : Ext w w1 := hd.below _
  clear hd
  go_wp2_with fail
  refine (cloneJ_calls _ (HS.out.below hx) (by have := HN.out; omega)).mono ?_
  rintro e w2 ⟨v', rfl, hM⟩
  have HM := Lib.hid (hx.mono_mk hM)
  clear hM
  go_wp2_with fail
  go_ret
  exact ⟨_, rfl, HM.out⟩
end Go.Proofs.Ytgpjfpcjiebjiaa
