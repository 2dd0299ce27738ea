/- A range over an iterator that hands out memory of its own making: the law of the loop, where each round is told what it is handed. -/
import Derived.Test.YtgpjfpcjiebjiaaRtY
import Derived.Test.YtgpjfpcjiebjiaaRtR
namespace Go.Proofs.Ytgpjfpcjiebjiaa
open Go.RowKit
set_option linter.unusedVariables false
set_option linter.unusedSimpArgs false

/-- The iterator g (bound to lb) makes N rounds, one after the other, or fewer, if a round says no; of the k-th round's values x and the world it knows G k x. What lay at its beginning it leaves as it is. -/
def GivesB {α : Type} (n : Nat) (P : Program) (g : Nat) (lb : Array Value) (encs : α → Array Value) (G : Nat → α → World → Prop) (N : Nat) (w : World) : Prop :=
  ∀ (l : Nat) (J : Nat → World → Prop) (Jx : World → Prop) (W : World), Ext w W → w.heap.size ≤ l → l < W.heap.size → (∀ k A B, J k A → Below W.heap.size A B → J k B) → (∀ A B, Jx A → Below W.heap.size A B → Jx B) →
    (∀ k x W1, k < N → J k W1 → G k x W1 → YieldAt Fence.wide (n - 1) P l (encs x) W1 fun e W' => (e = .returned (.bool true) ∧ J (k + 1) W' ∧ W1.grownBy W' (some l)) ∨ (e = .returned (.bool false) ∧ Jx W')) →
    J 0 W →
    CallsIn Fence.wide n P g (#[.func (.yield l) #[] #[]] ++ lb) W fun e W' => (∃ v, e = .returned v) ∧ (J N W' ∨ Jx W')

/-- How a round is left. -/
def postB (B k : Nat) (I : Nat → World → Prop) (Ix : Code → World → Prop) (W : World) : Exit → Act → World → Prop
  | .normal, _, W' => Ext W W' ∧ I (k + 1) W'
  | .ret, _, W' => (∀ b, B ≤ b → b < W.heap.size → W'.heap[b]? = W.heap[b]?) ∧ Ix .ret W'
  | .exit id, _, W' => (∀ b, B ≤ b → b < W.heap.size → W'.heap[b]? = W.heap[b]?) ∧ Ix (.exit id) W'
  | .goto t, _, W' => (∀ b, B ≤ b → b < W.heap.size → W'.heap[b]? = W.heap[b]?) ∧ Ix (.goto t) W'
  | .panic _, _, _ => False
  | .outgrown, _, _ => False

theorem below_putObj {B l : Nat} {W : World} (o : Obj) (h : B ≤ l) (hl : l < W.heap.size) : Below B W (W.putObj l o) :=
  (Below.refl B W).grown (grownBy_putObj' W l o) (by omega) (fun k e => by cases e; exact h)

theorem wpIn_loopB {P : Program} {n : Nat} {α : Type} {g : Operand} {ps : Array Tmp} {assign body : Code} {Q : Exit → Act → World → Prop} {a : Act} {w : World}
    {gf : Nat} {lb : Array Value} (hg : a.eval g = .func (.func gf) #[] lb) (eg : ∀ args w, (callFunc gf args).run P w = .ok (.enter gf args) w)
    {encs : α → Array Value} {G : Nat → α → World → Prop} {N : Nat} {w0 : World} (hseq : GivesB (n - 1) P gf lb encs G N w0) (hb0 : Ext w0 w) (hps : ∀ x, (encs x).size = ps.size)
    (I : Nat → World → Prop) (Ix : Code → World → Prop) (hI : ∀ k A B, I k A → Below w.heap.size A B → I k B) (hIx : ∀ c A B, Ix c A → Below w.heap.size A B → Ix c B)
    (hG : ∀ k x A l, G k x A → w.heap.size < l → l < A.heap.size → (∃ r, A.heap[l]? = some (.loop r)) → ∀ o, G k x (A.putObj l o)) (h0 : I 0 w) (a₁ : α → Act)
    (hassign : ∀ (l : Nat) (x : α) (W : World) (K : Act → World → Prop), K (a₁ x) W →
      assign.wpIn (Fence.wide.inRound l) (n - 1 - 1) P (Exit.then K (fun _ _ _ => False)) { tmps := (ps.zip (encs x)).foldl (fun t (p, v) => t.setIfInBounds p v) a.tmps, defers := [] } W)
    (hbody : ∀ (l k : Nat) (x : α) (W : World), k < N → I k W → G k x W → w.heap.size < W.heap.size → body.wpIn (Fence.wide.inRound l) (n - 1 - 1) P (postB w.heap.size k I Ix W) (a₁ x) W)
    (hdone : ∀ (D : Nat) (W : World), w.heap.size ≤ D → I N W → W.heap[D]? = some (.deferred (some [])) → Q .normal { a with defers := { target := .collected D, args := #[] } :: a.defers } W)
    (hstop : ∀ (D : Nat) (c : Code) (W : World), w.heap.size ≤ D → Ix c W → W.heap[D]? = some (.deferred (some [])) → c.wpIn Fence.wide n P Q { a with defers := { target := .collected D, args := #[] } :: a.defers } W) :
    (Code.rangeFunc g ps assign body).wpIn Fence.wide n P Q a w := by
  refine wpIn_rangeFunc ?_
  intro fn hfn
  obtain ⟨rec, hrec⟩ : ∃ rec : LoopState → Option Code → Loop, rec = fun st pe => { state := st, pending := pe, fn, tmps := a.tmps, params := ps, assign, body, defers := w.heap.size } := ⟨_, rfl⟩
  obtain ⟨W1, hW1⟩ : ∃ W1, (w.alloc (.deferred (some []))).alloc (.loop (rec .ready none)) = W1 := ⟨_, rfl⟩
  have hz1 : W1.heap.size = w.heap.size + 2 := by rw [← hW1]; simp
  have hL1 : W1.heap[w.heap.size + 1]? = some (.loop (rec .ready none)) := by
    rw [← hW1]
    have := World.alloc_heap_new (w.alloc (.deferred (some []))) (.loop (rec .ready none))
    rwa [World.size_alloc] at this
  have hD1 : W1.heap[w.heap.size]? = some (.deferred (some [])) := by
    rw [← hW1]
    exact (Below.heap_alloc _ _ _ (by simp)).trans (World.alloc_heap_new w _)
  have hE1 : Ext w W1 := by rw [← hW1]; exact ((Ext.refl w).alloc _).alloc _
  refine ⟨w.heap.size + 1, [{ target := .collected w.heap.size, args := #[] }], W1, { target := .fn (.func gf) lb, args := #[.func (.yield (w.heap.size + 1)) #[] #[]] }, W1, gf,
    #[.func (.yield (w.heap.size + 1)) #[] #[]] ++ lb, W1, ?_, ?_, fun _ _ => trivial, ?_, fun h => absurd h (by simp [Fence.wide]), ?_⟩
  · rw [← hW1, hrec]; exact run_enterLoop_outer _ _ _ _ _
  · simp only [resolve, hg]
    simp [go_sem]
  · simp [invoke, go_sem, eg]
  · refine (hseq (w.heap.size + 1)
      (fun k W => I k W ∧ W.heap[w.heap.size + 1]? = some (.loop (rec .ready none)) ∧ W.heap[w.heap.size]? = some (.deferred (some [])) ∧ w.heap.size + 1 < W.heap.size)
      (fun W => ∃ c, Ix c W ∧ W.heap[w.heap.size + 1]? = some (.loop (rec .done (some c))) ∧ W.heap[w.heap.size]? = some (.deferred (some [])))
      W1 (hb0.trans hE1) (by have := hb0.size; omega) (by omega) ?_ ?_ ?_ ⟨hI _ _ _ h0 hE1, hL1, hD1, by omega⟩).mono ?_
    · rintro k A B ⟨h1, h2, h3, h4⟩ hAB
      exact ⟨hI _ _ _ h1 (hAB.mono (by omega)), (hAB.block _ (by omega)).trans h2, (hAB.block _ (by omega)).trans h3, Nat.lt_of_lt_of_le h4 hAB.size⟩
    · rintro A B ⟨c, h1, h2, h3⟩ hAB
      exact ⟨c, hIx _ _ _ h1 (hAB.mono (by omega)), (hAB.block _ (by omega)).trans h2, (hAB.block _ (by omega)).trans h3⟩
    · -- one round
      rintro k x W hkN ⟨hi, hl, hD, hlt⟩ hgx
      have hy := run_yield (P := P) (args := encs x) hl (by rw [hrec]; exact hps x)
      rw [hrec] at hy
      refine ⟨fn, _, assign, body, hy, roundIn_of_wpIn hfn (hassign _ x W _ ⟨_, run_beginRound hl (by rw [hrec]), ?_⟩)⟩
      have hl2 : (W.putObj (w.heap.size + 1) (.loop { rec .ready none with state := .busy })).heap[w.heap.size + 1]? = some (.loop { rec .ready none with state := .busy }) := World.putObj_heap_same hlt
      have hD2 : (W.putObj (w.heap.size + 1) (.loop { rec .ready none with state := .busy })).heap[w.heap.size]? = some (.deferred (some [])) := (World.putObj_heap_other (by omega)).trans hD
      have hlt2 : w.heap.size + 1 < (W.putObj (w.heap.size + 1) (.loop { rec .ready none with state := .busy })).heap.size := (Array.getElem?_eq_some_iff.1 hl2).1
      have hg2 : W.grownBy (W.putObj (w.heap.size + 1) (.loop { rec .ready none with state := .busy })) (some (w.heap.size + 1)) := grownBy_putObj' _ _ _
      refine wpIn_mono (hbody _ k x _ hkN (hI _ _ _ hi (below_putObj _ (by omega) hlt)) (hG _ _ _ _ hgx (by omega) hlt ⟨_, hl⟩ _) (Nat.lt_trans (Nat.lt_succ_self _) hlt2)) ?_
      generalize W.putObj (w.heap.size + 1) (.loop { rec .ready none with state := .busy }) = W2 at *
      have fin : ∀ (jump : Option Code) (W3 : World), W3.heap[w.heap.size + 1]? = some (.loop { rec .ready none with state := .busy }) →
          (Instr.endRound (w.heap.size + 1) jump).run P W3 = .ok (.bool jump.isNone) (W3.putObj (w.heap.size + 1) (.loop (rec (if jump.isNone then .ready else .done) jump))) := fun jump W3 hl3 => by
        have := run_endRound (P := P) jump hl3
        rw [hrec] at this ⊢
        exact this
      rintro e a3 W3 hp
      cases e with
      | normal =>
        obtain ⟨hE3, hi3⟩ := hp
        have hl3 := (hE3.block _ hlt2).trans hl2
        have hlt3 := (Array.getElem?_eq_some_iff.1 hl3).1
        have hD3 := (hE3.block _ (by omega)).trans hD2
        refine ⟨_, _, fin none W3 hl3, .inl ⟨rfl, ⟨hI _ _ _ hi3 (below_putObj _ (by omega) hlt3), World.putObj_heap_same hlt3, (World.putObj_heap_other (by omega)).trans hD3, ?_⟩, ?_⟩⟩
        · exact (Array.getElem?_eq_some_iff.1 (World.putObj_heap_same hlt3)).1
        · exact (hg2.trans ⟨hE3.os, hE3.tape, hE3.output, hE3.size, fun i hi _ => hE3.block i hi⟩).trans (grownBy_putObj' _ _ _)
      | ret =>
        obtain ⟨hk3, hi3⟩ := hp
        have hl3 := (hk3 _ (by omega) hlt2).trans hl2
        have hlt3 := (Array.getElem?_eq_some_iff.1 hl3).1
        have hD3 := (hk3 _ (Nat.le_refl _) (by omega)).trans hD2
        exact ⟨_, _, fin (some .ret) W3 hl3, .inr ⟨rfl, .ret, hIx _ _ _ hi3 (below_putObj _ (by omega) hlt3), World.putObj_heap_same hlt3, (World.putObj_heap_other (by omega)).trans hD3⟩⟩
      | exit id =>
        obtain ⟨hk3, hi3⟩ := hp
        have hl3 := (hk3 _ (by omega) hlt2).trans hl2
        have hlt3 := (Array.getElem?_eq_some_iff.1 hl3).1
        have hD3 := (hk3 _ (Nat.le_refl _) (by omega)).trans hD2
        exact ⟨_, _, fin (some (.exit id)) W3 hl3, .inr ⟨rfl, .exit id, hIx _ _ _ hi3 (below_putObj _ (by omega) hlt3), World.putObj_heap_same hlt3, (World.putObj_heap_other (by omega)).trans hD3⟩⟩
      | goto t =>
        obtain ⟨hk3, hi3⟩ := hp
        have hl3 := (hk3 _ (by omega) hlt2).trans hl2
        have hlt3 := (Array.getElem?_eq_some_iff.1 hl3).1
        have hD3 := (hk3 _ (Nat.le_refl _) (by omega)).trans hD2
        exact ⟨_, _, fin (some (.goto t)) W3 hl3, .inr ⟨rfl, .goto t, hIx _ _ _ hi3 (below_putObj _ (by omega) hlt3), World.putObj_heap_same hlt3, (World.putObj_heap_other (by omega)).trans hD3⟩⟩
      | panic ch => exact hp.elim
      | outgrown => exact hp.elim
    · -- behind the iterator
      rintro e W2 ⟨⟨v, rfl⟩, (⟨hi, hl, hD, hlt⟩ | ⟨c, hi, hl, hD⟩)⟩
      · exact ⟨none, _, by have := run_endLoop (P := P) hl (by rw [hrec]; simp); rw [hrec] at this; exact this, hdone _ _ (Nat.le_refl _) (hI _ _ _ hi (below_putObj _ (by omega) hlt)) ((World.putObj_heap_other (by omega)).trans hD)⟩
      · have hlt := (Array.getElem?_eq_some_iff.1 hl).1
        exact ⟨some c, _, by have := run_endLoop (P := P) hl (by rw [hrec]; simp); rw [hrec] at this; exact this, hstop _ c _ (Nat.le_refl _) (hIx _ _ _ hi (below_putObj _ (by omega) hlt)) ((World.putObj_heap_other (by omega)).trans hD)⟩
end Go.Proofs.Ytgpjfpcjiebjiaa
