/- Walks: the closures. -/
import Derived.Test.YtgpjfpcjiebjiaaRtS
namespace Go.Proofs.Ytgpjfpcjiebjiaa
open Go.RowKit
set_option linter.unusedVariables false
set_option linter.unusedSimpArgs false
attribute [local go_sem ↓] Go.wp_at_zero Go.wp_at_succ

/-- What a state's maze says of a node for a task, as the walk wants it. -/
theorem StAt.freeCell {w : World} {ok : Nat → Prop} {g gu t : Nat} {m : MZ} {ch us : List Int} {ps : List (List Int)} {f u ts vc vp : Value} (h : StAt w ok g m ch ps us f u ts vc vp gu) (hfn : ∀ f ∈ m.free, (f.length : Int) = m.n) (ht : t < m.free.length) {n : Int} (h0 : 0 ≤ n) (h1 : n < m.n) :
    ∃ b off c b' off' l c', f = .slice (some ⟨b, off, none⟩) m.free.length c ∧ w.cell? ⟨b, off + t, none⟩ = some (.slice (some ⟨b', off', none⟩) l c') ∧ n < (l : Int) ∧ l ≤ c' ∧ m.free.length ≤ c ∧ w.cell? ⟨b', off' + n.toNat, none⟩ = some (.bool (freeAt m t n)) := by
  obtain ⟨fr', up', ts', he, hfr, _, _⟩ := h.maze
  injection he with he
  injection he with he
  simp only [List.cons.injEq, and_true, true_and] at he
  obtain ⟨rfl, rfl, rfl⟩ := he
  obtain ⟨vsf, ⟨Af, cf, rfl, hcf, hrf⟩, hef⟩ := hfr
  obtain ⟨bf, off3, uf, rfl, _, hcf1, hbf⟩ := eachAt hrf hef ht ht
  have hflen := hfn _ (List.getElem_mem ht)
  obtain ⟨A4, c4, rfl, hc4, hr4⟩ := hbf
  have hyl : n.toNat < (m.free[t]).length := by omega
  obtain ⟨b4, off4, rfl, _, hcf2⟩ := boolsAt hr4 hyl hyl
  have hfr : (m.free[t])[n.toNat] = freeAt m t n := by simp [freeAt, ht, hyl]
  rw [hfr] at hcf2
  exact ⟨bf, off3, cf, b4, off4, _, c4, rfl, hcf1, by omega, hc4, hcf, hcf2⟩

set_option maxHeartbeats 1000000 in
set_option maxRecDepth 100000 in
theorem cand1_calls {ok : Nat → Prop} {m : MZ} {ch us : List Int} {ps : List (List Int)} {g gu g1 g2 : Nat} {f u ts vc vp : Value} (t : Nat) (n : Int) (w : World) (h : StAt w ok g m ch ps us f u ts vc vp gu) (hfn : ∀ f ∈ m.free, (f.length : Int) = m.n) (ht : t < m.free.length)
    (hc1 : w.cell? ⟨g1, 0, none⟩ = some (.pointer (some ⟨g, 0, none⟩))) (hc2 : w.cell? ⟨g2, 0, none⟩ = some (.int .i64 t)) (h0 : 0 ≤ n) (h1 : n < m.n) :
    Calls Try.prog 88 #[.int .i64 n, .pointer (some ⟨g1, 0, none⟩), .pointer (some ⟨g2, 0, none⟩)] w fun e w' => e = .returned (.bool (freeAt m t n && !decide (n ∈ us))) ∧ Drew w w' := by
  obtain ⟨r0, r1, r2, r3, r4, r5, r6, r7, r8⟩ := h.rules
  obtain ⟨b, off, c, b', off', l, c', rfl, hcl1, hl, hlc, hfc, hcl2⟩ := h.freeCell hfn ht h0 h1
  have hus := h.us
  clear h hfn
  have hx := Ext.refl w
  have ht1 : (t : Int) < (m.free.length : Int) := by omega
  have ht0 : (0 : Int) ≤ (t : Int) := by omega
  obtain ⟨fb, hfb⟩ : ∃ fb, fb = freeAt m t n := ⟨_, rfl⟩
  rw [← hfb] at hcl2 ⊢
  clear hfb h1
  by_cases hu : n ∈ us
  · have hlk := fun q => look_t (hus.below ((Ext.refl w).drewN q)) hu
    have HU := Lib.hid hu; clear hu
    have hgoal : Hid ((fb && !decide (n ∈ us)) = false) := by show _ = false; rw [decide_eq_true HU.out]; cases fb <;> rfl
    cases fb with
    | false =>
      go_enter Try.func88, Try.ntmps88
      go_wp2_with fail
      go_quiet (fail)
      go_wp2
      go_ret
      exact ⟨ret_bool hgoal.out.symm, (Drew.refl w).more _⟩
    | true =>
      go_enter Try.func88, Try.ntmps88
      go_wp2_with fail
      go_quiet (fail)
      go_wp2
      go_ret
      exact ⟨ret_bool hgoal.out.symm, (Drew.refl w).more _⟩
  · have hlk := fun q => look_f (hus.below ((Ext.refl w).drewN q)) hu
    have HU := Lib.hid hu; clear hu
    have hgoal : Hid ((fb && !decide (n ∈ us)) = fb) := by show _ = fb; rw [decide_eq_false HU.out]; cases fb <;> rfl
    cases fb with
    | false =>
      go_enter Try.func88, Try.ntmps88
      go_wp2_with fail
      go_quiet (fail)
      go_wp2
      go_ret
      exact ⟨ret_bool hgoal.out.symm, (Drew.refl w).more _⟩
    | true =>
      go_enter Try.func88, Try.ntmps88
      go_wp2_with fail
      go_quiet (fail)
      go_wp2
      go_ret
      exact ⟨ret_bool hgoal.out.symm, (Drew.refl w).more _⟩

set_option maxHeartbeats 1000000 in
set_option maxRecDepth 100000 in
theorem left11_calls {ok : Nat → Prop} {m : MZ} {ch us : List Int} {ps : List (List Int)} {g gu g1 g2 : Nat} {f u ts vc vp : Value} (t : Nat) (n : Int) (w : World) (h : StAt w ok g m ch ps us f u ts vc vp gu) (hfn : ∀ f ∈ m.free, (f.length : Int) = m.n) (ht : t < m.free.length)
    (hc1 : w.cell? ⟨g1, 0, none⟩ = some (.pointer (some ⟨g, 0, none⟩))) (hc2 : w.cell? ⟨g2, 0, none⟩ = some (.int .i64 t)) (h0 : 0 ≤ n) (h1 : n < m.n) :
    Calls Try.prog 101 #[.int .i64 n, .pointer (some ⟨g1, 0, none⟩), .pointer (some ⟨g2, 0, none⟩)] w fun e w' => e = .returned (.bool (!freeAt m t n || decide (n ∈ us))) ∧ Drew w w' := by
  obtain ⟨r0, r1, r2, r3, r4, r5, r6, r7, r8⟩ := h.rules
  obtain ⟨b, off, c, b', off', l, c', rfl, hcl1, hl, hlc, hfc, hcl2⟩ := h.freeCell hfn ht h0 h1
  have hus := h.us
  clear h hfn
  have hx := Ext.refl w
  have ht1 : (t : Int) < (m.free.length : Int) := by omega
  have ht0 : (0 : Int) ≤ (t : Int) := by omega
  obtain ⟨fb, hfb⟩ : ∃ fb, fb = freeAt m t n := ⟨_, rfl⟩
  rw [← hfb] at hcl2 ⊢
  clear hfb h1
  by_cases hu : n ∈ us
  · have hlk := fun q => look_t (hus.below ((Ext.refl w).drewN q)) hu
    have HU := Lib.hid hu; clear hu
    have hgoal : Hid ((!fb || decide (n ∈ us)) = true) := by show _ = true; rw [decide_eq_true HU.out]; cases fb <;> rfl
    cases fb with
    | false =>
      go_enter Try.func101, Try.ntmps101
      go_wp2_with fail
      go_quiet (fail)
      go_wp2
      go_ret
      exact ⟨ret_bool hgoal.out.symm, (Drew.refl w).more _⟩
    | true =>
      go_enter Try.func101, Try.ntmps101
      go_wp2_with fail
      go_quiet (fail)
      go_wp2
      go_ret
      exact ⟨ret_bool hgoal.out.symm, (Drew.refl w).more _⟩
  · have hlk := fun q => look_f (hus.below ((Ext.refl w).drewN q)) hu
    have HU := Lib.hid hu; clear hu
    have hgoal : Hid ((!fb || decide (n ∈ us)) = !fb) := by show _ = !fb; rw [decide_eq_false HU.out]; cases fb <;> rfl
    cases fb with
    | false =>
      go_enter Try.func101, Try.ntmps101
      go_wp2_with fail
      go_quiet (fail)
      go_wp2
      go_ret
      exact ⟨ret_bool hgoal.out.symm, (Drew.refl w).more _⟩
    | true =>
      go_enter Try.func101, Try.ntmps101
      go_wp2_with fail
      go_quiet (fail)
      go_wp2
      go_ret
      exact ⟨ret_bool hgoal.out.symm, (Drew.refl w).more _⟩

set_option maxRecDepth 100000 in
theorem open1_calls {gs g5 : Nat} {s : List Int} (n : Int) (w : World) (hs : SetIs w gs s) (hc : w.cell? ⟨g5, 0, none⟩ = some (.map (some gs))) :
    Calls Try.prog 93 #[.int .i64 n, .pointer (some ⟨g5, 0, none⟩)] w fun e w' => e = .returned (.bool (decide (n ∈ s))) ∧ w = w' := by
  by_cases h : n ∈ s
  · have hlk := look_t hs h
    rw [decide_eq_true h]
    clear h hs
    go_enter Try.func93, Try.ntmps93
    go_wp2
    go_ret
    exact ⟨rfl, rfl⟩
  · have hlk := look_f hs h
    rw [decide_eq_false h]
    clear h hs
    go_enter Try.func93, Try.ntmps93
    go_wp2
    go_ret
    exact ⟨rfl, rfl⟩

set_option maxRecDepth 100000 in
theorem paths1_calls {ok : Nat → Prop} {v : Value} {l : List Int} (w : World) (h : Ints w ok v l) :
    Calls Try.prog 75 #[v] w fun e w' => e = .returned (.bool (decide (l = []))) ∧ w = w' := by
  obtain ⟨A, c, rfl, hc, _⟩ := h
  have hd : decide (l = []) = decide ((l.length : Int) = 0) := by
    rw [decide_eq_decide]
    constructor
    · rintro rfl; rfl
    · intro h; exact List.eq_nil_of_length_eq_zero (by omega)
  rw [hd]
  clear hd
  generalize l.length = n at *
  go_enter Try.func75, Try.ntmps75
  go_wp2
  go_ret
  refine ⟨?_, rfl⟩
  by_cases hn : n = 0
  · subst hn; rfl
  · simp [hn]
end Go.Proofs.Ytgpjfpcjiebjiaa
