/- Plain: what a router has can be loaded again. Words for laws: one router, two routers that lie apart, over the memory of a maze; their calls. -/
import Derived.Test.YtgpjfpcjiebjiaaRtSa
namespace Go.Proofs.Ytgpjfpcjiebjiaa
open Go.RowKit
set_option linter.unusedVariables false
set_option linter.unusedSimpArgs false

/-- What holds of a router's state at all times. -/
structure RInv (m : MZ) (s : RS) : Prop where
  ch : IsCh m s.ch
  st : 0 ≤ s.steps
  dn : s.done = (loadS m s.ch s.steps).done
  op : s.ch ≠ [] → openC m s.ch = true
theorem rinv_load {m : MZ} : RInv m (loadS m [] 0) := ⟨.nil, Int.le_refl _, rfl, fun h => absurd rfl h⟩
theorem RInv.one {m : MZ} {s : RS} (h : RInv m s) : RInv m (s.one m) := by
  unfold RS.one
  split
  · rename_i c hc
    obtain ⟨h1, h2, h3⟩ := stepC_some h.ch hc
    refine ⟨h1, by have := h.st; show 0 ≤ s.steps + 1; omega, ?_, fun _ => h3⟩
    show cmpC m c = (cmpC m c || (decide (c = []) && decide (0 < s.steps + 1)))
    have : decide (c = []) = false := decide_eq_false (by rintro rfl; simp at h2)
    rw [this, Bool.false_and, Bool.or_false]
  · refine ⟨.nil, by have := h.st; show 0 ≤ s.steps + 1; omega, ?_, fun h => absurd rfl h⟩
    show true = (cmpC m [] || (decide (([] : List Int) = []) && decide (0 < s.steps + 1)))
    have h1 : decide (0 < s.steps + 1) = true := decide_eq_true (by have := h.st; omega)
    rw [h1]; simp
theorem RInv.run {m : MZ} : ∀ (n : Nat) {s : RS}, RInv m s → RInv m (RS.run m n s)
  | 0, s, h => h
  | n + 1, s, h => by
    unfold RS.run
    split
    · exact h
    · exact RInv.run n h.one
theorem RInv.loadE {m : MZ} {s : RS} (h : RInv m s) (hc : chk m = 0) : loadE m s.ch s.steps = 0 := by
  unfold Go.Proofs.Ytgpjfpcjiebjiaa.loadE
  rw [hc, if_neg (by simp), if_neg (by have := h.st; omega), if_pos]
  rw [isChB_iff.2 h.ch, Bool.true_and, Bool.or_eq_true, decide_eq_true_eq]
  by_cases h0 : s.ch = []
  · exact .inl h0
  · exact .inr (h.op h0)
theorem RInv.loadS {m : MZ} {s : RS} (h : RInv m s) : loadS m s.ch s.steps = s := by
  obtain ⟨c, d, n⟩ := s
  have h1 : d = (cmpC m c || (decide (c = []) && decide (0 < n))) := h.dn
  show RS.mk c (cmpC m c || (decide (c = []) && decide (0 < n))) n = RS.mk c d n
  rw [← h1]
theorem RInv.open {m : MZ} {s : RS} (h : RInv m s) (hc : chk m = 0) (hn : s.ch ≠ []) : openO m s.ch = true := by
  unfold openO okC
  rw [isChB_iff.2 h.ch, h.op hn, decide_eq_true hc]; rfl
theorem RInv.done {m : MZ} {s : RS} (h : RInv m s) (hd : s.done = true) (hc : cmpC m s.ch = false) : s.ch = [] := by
  have h1 := h.dn
  rw [hd] at h1
  unfold Go.Proofs.Ytgpjfpcjiebjiaa.loadS at h1
  simp only [hc, Bool.false_or] at h1
  have h2 := h1.symm
  rw [Bool.and_eq_true, decide_eq_true_eq] at h2
  exact h2.1
theorem RInv.cmp {m : MZ} {s : RS} (h : RInv m s) (hc : cmpC m s.ch = true) : s.done = true := by
  rw [h.dn]
  unfold Go.Proofs.Ytgpjfpcjiebjiaa.loadS
  simp [hc]
/-- A router loaded. -/
theorem loadB_calls {Y okc : Nat → Prop} {v vc : Value} {m : MZ} {s : RS} (w : World) (hm : MazeV w Y v m) (hl : Lens m) (hch : Ints w okc vc s.ch) (hlc : s.ch.length ≤ 20000000000000) (hYb : ∀ b, Y b → b < w.heap.size) (hc : chk m = 0) (hI : RInv m s) :
    Calls Try.prog 32 #[v, vc, .int .i64 s.steps] w fun e w' => ∃ g, e = .returned (.tuple #[.pointer (some ⟨g, 0, none⟩), .int .i64 0]) ∧ Ext w w' ∧ RtB w' (fun k => w.heap.size ≤ k ∧ k < w'.heap.size) Y g m s := by
  refine (load_calls s.steps w hm hl hch hlc hYb).mono ?_
  have hle := hI.loadE hc
  rintro e w' ⟨v', rfl, hE, h | ⟨h1, h2, h3, g, gr, cap, pt, rfl, hr⟩⟩
  · exact absurd hle h.1
  · rw [hI.loadS] at hr
    exact ⟨g, by rw [hle]; rfl, hE, ⟨gr, cap, pt, hr.bound⟩, fun k hk => hk.2, fun k hk => Nat.lt_of_lt_of_le (hYb k hk) hE.size, h2, hl, h3, hI.st⟩

/-- A router made behind w. -/
structure OneX (w wr : World) (X : Nat → Prop) (g : Nat) (m : MZ) (s : RS) : Prop where
  ext : Ext w wr
  rt : RtB wr X (fun b => b < w.heap.size) g m s
  lo : ∀ k, X k → w.heap.size ≤ k
  inv : RInv m s
def OneR (w wr : World) (g : Nat) (m : MZ) (s : RS) : Prop := ∃ X, OneX w wr X g m s
/-- Two routers made behind w. -/
def TwoR (w wr : World) (g g' : Nat) (m : MZ) (s s' : RS) : Prop := ∃ X X', OneX w wr X g m s ∧ OneX w wr X' g' m s' ∧ ∀ k, X k → ¬ X' k
section
variable {w wr w' : World} {X X' : Nat → Prop} {g g' : Nat} {m : MZ} {s s' : RS}
theorem OneX.more (h : OneX w wr X g m s) (hE : Ext wr w') : OneX w w' X g m s := ⟨h.ext.trans hE, h.rt.ext hE, h.lo, h.inv⟩
theorem OneX.other (h : OneX w wr X g m s) (hX : ∀ k, X' k → w.heap.size ≤ k) (hd : ∀ k, X k → ¬ X' k) (hc : Chg X' wr w') : OneX w w' X g m s :=
  ⟨Below.trans h.ext (hc.below h.ext.size hX), h.rt.chg hc (fun k hk hx => hk.elim (fun hk => hd k hk hx) (fun hk => by have := hX k hx; omega)), h.lo, h.inv⟩
theorem OneX.step (h : OneX w wr X g m s) (n : Nat) (hn : n ≤ 1000000) (hs1 : s.steps ≤ 3000000000000000000) :
    Calls Try.prog 24 #[.pointer (some ⟨g, 0, none⟩), .int .i64 n] wr fun e w' => e = .returned (.bool (RS.run m n s).done) ∧ OneX w w' (fun k => X k ∨ (wr.heap.size ≤ k ∧ k < w'.heap.size)) g m (RS.run m n s) ∧ Chg X wr w' := by
  refine (h.rt.step n _ _ rfl rfl hn hs1).mono ?_
  rintro e w' ⟨rfl, hr, hc⟩
  exact ⟨rfl, ⟨Below.trans h.ext (hc.below h.ext.size h.lo), hr, fun k hk => hk.elim (h.lo k) (fun hk => Nat.le_trans h.ext.size hk.1), h.inv.run n⟩, hc⟩
theorem OneR.more (h : OneR w wr g m s) (hE : Ext wr w') : OneR w w' g m s := by
  obtain ⟨X, h⟩ := h
  exact ⟨X, h.more hE⟩
theorem OneR.ext (h : OneR w wr g m s) : Ext w wr := by
  obtain ⟨X, h⟩ := h
  exact h.ext
theorem OneR.inv (h : OneR w wr g m s) : RInv m s := by
  obtain ⟨X, h⟩ := h
  exact h.inv
theorem OneR.step (h : OneR w wr g m s) (n : Nat) (hn : n ≤ 1000000) (hs1 : s.steps ≤ 3000000000000000000) :
    Calls Try.prog 24 #[.pointer (some ⟨g, 0, none⟩), .int .i64 n] wr fun e w' => e = .returned (.bool (RS.run m n s).done) ∧ OneR w w' g m (RS.run m n s) := by
  obtain ⟨X, h⟩ := h
  refine (h.step n hn hs1).mono ?_
  rintro e w' ⟨rfl, hr, hc⟩
  exact ⟨rfl, _, hr⟩
/-- A step behind other work: what was made since lies apart. -/
theorem OneR.stepKeep {w2 : World} (h : OneR w wr g m s) (hE : Ext wr w2) (n : Nat) (hn : n ≤ 1000000) (hs1 : s.steps ≤ 3000000000000000000) :
    Calls Try.prog 24 #[.pointer (some ⟨g, 0, none⟩), .int .i64 n] w2 fun e w' => e = .returned (.bool (RS.run m n s).done) ∧ OneR w w' g m (RS.run m n s) ∧ Same (fun b => wr.heap.size ≤ b) w2 w' := by
  obtain ⟨X, h⟩ := h
  refine ((h.more hE).step n hn hs1).mono ?_
  rintro e w' ⟨rfl, hr, hc⟩
  exact ⟨rfl, ⟨_, hr⟩, hc.same fun b hb hx => by have := h.rt.xb b hx; omega⟩
theorem OneR.choices (h : OneR w wr g m s) : Calls Try.prog 29 #[.pointer (some ⟨g, 0, none⟩)] wr fun e w' => ∃ v', e = .returned v' ∧ Mk wr w' v' s.ch := by
  obtain ⟨X, h⟩ := h
  exact h.rt.choices
theorem OneR.stepsC (h : OneR w wr g m s) : Calls Try.prog 28 #[.pointer (some ⟨g, 0, none⟩)] wr fun e w' => e = .returned (.int .i64 s.steps) ∧ wr = w' := by
  obtain ⟨X, h⟩ := h
  exact h.rt.stepsC
theorem OneR.found (h : OneR w wr g m s) : Calls Try.prog 26 #[.pointer (some ⟨g, 0, none⟩)] wr (FoundPost wr m s.ch) := by
  obtain ⟨X, h⟩ := h
  exact h.rt.found
theorem OneR.len (h : OneR w wr g m s) : s.ch.length ≤ 300 := by
  obtain ⟨X, h⟩ := h
  exact h.rt.ch.len300 h.rt.good
theorem OneR.good (h : OneR w wr g m s) : Good m ∧ Lens m := by
  obtain ⟨X, h⟩ := h
  exact ⟨h.rt.good, h.rt.lens⟩

theorem TwoR.fst (h : TwoR w wr g g' m s s') : OneR w wr g m s := by
  obtain ⟨X, X', h1, h2, hd⟩ := h
  exact ⟨X, h1⟩
theorem TwoR.snd (h : TwoR w wr g g' m s s') : OneR w wr g' m s' := by
  obtain ⟨X, X', h1, h2, hd⟩ := h
  exact ⟨X', h2⟩
theorem TwoR.swap (h : TwoR w wr g g' m s s') : TwoR w wr g' g m s' s := by
  obtain ⟨X, X', h1, h2, hd⟩ := h
  exact ⟨X', X, h2, h1, fun k hk hx => hd k hx hk⟩
theorem TwoR.more (h : TwoR w wr g g' m s s') (hE : Ext wr w') : TwoR w w' g g' m s s' := by
  obtain ⟨X, X', h1, h2, hd⟩ := h
  exact ⟨X, X', h1.more hE, h2.more hE, hd⟩
theorem TwoR.step (h : TwoR w wr g g' m s s') (n : Nat) (hn : n ≤ 1000000) (hs1 : s.steps ≤ 3000000000000000000) :
    Calls Try.prog 24 #[.pointer (some ⟨g, 0, none⟩), .int .i64 n] wr fun e w' => e = .returned (.bool (RS.run m n s).done) ∧ TwoR w w' g g' m (RS.run m n s) s' := by
  obtain ⟨X, X', h1, h2, hd⟩ := h
  refine (h1.step n hn hs1).mono ?_
  rintro e w' ⟨rfl, hr, hc⟩
  refine ⟨rfl, _, X', hr, h2.other h1.lo (fun k hk hx => hd k hx hk) hc, fun k hk hx => ?_⟩
  rcases hk with hk | hk
  · exact hd k hk hx
  · have := h2.rt.xb k hx
    omega
/-- The first router. -/
theorem new1 {v : Value} {okm : Nat → Prop} (w wr : World) (hE : Ext w wr) (hm : MazeV w okm v m) (hl : Lens m) (hc : chk m = 0) :
    Calls Try.prog 22 #[v] wr fun e w' => ∃ g, e = .returned (.tuple #[.pointer (some ⟨g, 0, none⟩), .int .i64 0]) ∧ Ext wr w' ∧ OneR w w' g m (loadS m [] 0) := by
  refine (newB_calls (Y := fun b => b < w.heap.size) wr ((hm.bound.weaken fun b hb => hb.2).below hE) hl (fun b hb => Nat.lt_of_lt_of_le hb hE.size) hc).mono ?_
  rintro e w' ⟨g, rfl, hE', hR⟩
  exact ⟨g, rfl, hE', _, hE.trans hE', hR, fun k hk => Nat.le_trans hE.size hk.1, rinv_load⟩
/-- Another one. -/
theorem OneR.new2 {v : Value} {okm : Nat → Prop} (h : OneR w wr g m s) (hm : MazeV w okm v m) (hc : chk m = 0) :
    Calls Try.prog 22 #[v] wr fun e w' => ∃ g', e = .returned (.tuple #[.pointer (some ⟨g', 0, none⟩), .int .i64 0]) ∧ Ext wr w' ∧ TwoR w w' g g' m s (loadS m [] 0) := by
  obtain ⟨X, h⟩ := h
  refine (newB_calls (Y := fun b => b < w.heap.size) wr ((hm.bound.weaken fun b hb => hb.2).below h.ext) h.rt.lens (fun b hb => Nat.lt_of_lt_of_le hb h.ext.size) hc).mono ?_
  rintro e w' ⟨g', rfl, hE', hR⟩
  exact ⟨g', rfl, hE', X, _, h.more hE', ⟨h.ext.trans hE', hR, fun k hk => Nat.le_trans h.ext.size hk.1, rinv_load⟩, fun k hk hx => by have := h.rt.xb k hk; have := hx.1; omega⟩
/-- Another one, loaded. -/
theorem OneR.load2 {v vc : Value} {okm okc : Nat → Prop} (h : OneR w wr g m s) (hm : MazeV w okm v m) (hc : chk m = 0) (hch : Ints wr okc vc s'.ch) (hlc : s'.ch.length ≤ 20000000000000) (hI : RInv m s') :
    Calls Try.prog 32 #[v, vc, .int .i64 s'.steps] wr fun e w' => ∃ g', e = .returned (.tuple #[.pointer (some ⟨g', 0, none⟩), .int .i64 0]) ∧ Ext wr w' ∧ TwoR w w' g g' m s s' := by
  obtain ⟨X, h⟩ := h
  refine (loadB_calls (Y := fun b => b < w.heap.size) wr ((hm.bound.weaken fun b hb => hb.2).below h.ext) h.rt.lens hch hlc (fun b hb => Nat.lt_of_lt_of_le hb h.ext.size) hc hI).mono ?_
  rintro e w' ⟨g', rfl, hE', hR⟩
  exact ⟨g', rfl, hE', X, _, h.more hE', ⟨h.ext.trans hE', hR, fun k hk => Nat.le_trans h.ext.size hk.1, hI⟩, fun k hk hx => by have := h.rt.xb k hk; have := hx.1; omega⟩
end
theorem found_len {m : MZ} {ch : List Int} (g : Good m) (hl : Lens m) (hc : IsCh m ch) : (foundL m ch).length ≤ 1000 ∧ ∀ x ∈ foundL m ch, x.length ≤ 1000 := by
  have hs := hc.sok g hl
  unfold foundL
  split
  · exact ⟨by have := hs.pl; have := g.tk; omega, hs.pp⟩
  · exact ⟨by simp, fun x hx => by cases hx⟩
end Go.Proofs.Ytgpjfpcjiebjiaa
