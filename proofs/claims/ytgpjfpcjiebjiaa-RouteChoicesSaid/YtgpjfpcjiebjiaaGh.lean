/- A range over an iterator that hands out memory of its own making: the law of the loop, where each round is told what it is handed. Walks: the closures. The shelf's contracts of Sort, Compact and DeleteFunc at this program, in plain words (printed by the kit's lay-plain; the numbers are this seat's). Walks: sorted and compact lists of numbers, by the library's contracts. A range over a set that is kept as a map: the iterator's step, wherever its block lies. -/
import Derived.Test.YtgpjfpcjiebjiaaGg
import Derived.Shelf.SlGeneric
import Derived.Shelf.SortM.Plain
import Derived.Shelf.SortM.SortNone
import Derived.Shelf.SlicesG.CompactI
import Derived.Shelf.SlicesE.DeleteFunc
import Derived.Ground.SlgmProg
import Derived.Ground.SlgnProg
import Derived.Test.YtgpjfpcjiebjiaaRows
import Derived.Lib.OwnBridge
import Derived.Sort.OwnSortedInts
import Derived.Test.YtgpjfpcjiebjiaaGa
import Derived.Laws.IdiomRangeMap
namespace Go.Proofs.Ytgpjfpcjiebjiaa
open Go.RowKit
set_option linter.unusedVariables false
set_option linter.unusedSimpArgs false

/-- The iterator g (bound to lb) makes N rounds, one after the other, or fewer, if a round says no; of the k-th round's values x and the world it knows G k x. What lay at its beginning it leaves as it is. -/
def GivesB {α : Type} (n : Nat) (P : Program) (g : Nat) (lb : Array Value) (encs : α → Array Value) (G : Nat → α → World → Prop) (N : Nat) (w : World) : Prop :=
 ∀ (l : Nat) (J : Nat → World → Prop) (Jx : World → Prop) (W : World), Ext w W → w.heap.size ≤ l → l < W.heap.size → (∀ k A B, J k A → Below W.heap.size A B → J k B) → (∀ A B, Jx A → Below W.heap.size A B → Jx B) →
  (∀ k x W1, k < N → J k W1 → G k x W1 → YieldAt Fence.wide (n - 1) P l (encs x) W1 fun e W' => (e = .returned (.bool true) ∧ J (k + 1) W' ∧ W1.grownBy W' (some l)) ∨ (e = .returned (.bool false) ∧ Jx W')) →
  J 0 W →
  CallsIn Fence.wide n P g (#[.func (.yield l) #[] #[]] ++ lb) W fun e W' => (∃ v, e = .returned v) ∧ (J N W' ∨ Jx W')

/-- How a round is left. -/
def postB (B k : Nat) (I : Nat → World → Prop) (Ix : Code → World → Prop) (W : World) : Exit → Act → World → Prop
 | .normal, _, W' => Ext W W' ∧ I (k + 1) W'
 | .ret, _, W' => (∀ b, B ≤ b → b < W.heap.size → W'.heap[b]? = W.heap[b]?) ∧ Ix .ret W'
 | .exit id, _, W' => (∀ b, B ≤ b → b < W.heap.size → W'.heap[b]? = W.heap[b]?) ∧ Ix (.exit id) W'
 | .goto t, _, W' => (∀ b, B ≤ b → b < W.heap.size → W'.heap[b]? = W.heap[b]?) ∧ Ix (.goto t) W'
 | .panic _, _, _ => False
 | .outgrown, _, _ => False

theorem below_putObj {B l : Nat} {W : World} (o : Obj) (h : B ≤ l) (hl : l < W.heap.size) : Below B W (W.putObj l o) :=
 (Below.refl B W).grown (grownBy_putObj' W l o) (by omega) (fun k e => by cases e; exact h)

theorem wpIn_loopB {P : Program} {n : Nat} {α : Type} {g : Operand} {ps : Array Tmp} {assign body : Code} {Q : Exit → Act → World → Prop} {a : Act} {w : World}
  {gf : Nat} {lb : Array Value} (hg : a.eval g = .func (.func gf) #[] lb) (eg : ∀ args w, (callFunc gf args).run P w = .ok (.enter gf args) w)
  {encs : α → Array Value} {G : Nat → α → World → Prop} {N : Nat} {w0 : World} (hseq : GivesB (n - 1) P gf lb encs G N w0) (hb0 : Ext w0 w) (hps : ∀ x, (encs x).size = ps.size)
  (I : Nat → World → Prop) (Ix : Code → World → Prop) (hI : ∀ k A B, I k A → Below w.heap.size A B → I k B) (hIx : ∀ c A B, Ix c A → Below w.heap.size A B → Ix c B)
  (hG : ∀ k x A l, G k x A → w.heap.size < l → l < A.heap.size → (∃ r, A.heap[l]? = some (.loop r)) → ∀ o, G k x (A.putObj l o)) (h0 : I 0 w) (a₁ : α → Act)
  (hassign : ∀ (l : Nat) (x : α) (W : World) (K : Act → World → Prop), K (a₁ x) W →
   assign.wpIn (Fence.wide.inRound l) (n - 1 - 1) P (Exit.then K (fun _ _ _ => False)) { tmps := (ps.zip (encs x)).foldl (fun t (p, v) => t.setIfInBounds p v) a.tmps, defers := [] } W)
  (hbody : ∀ (l k : Nat) (x : α) (W : World), k < N → I k W → G k x W → w.heap.size < W.heap.size → body.wpIn (Fence.wide.inRound l) (n - 1 - 1) P (postB w.heap.size k I Ix W) (a₁ x) W)
  (hdone : ∀ (D : Nat) (W : World), w.heap.size ≤ D → I N W → W.heap[D]? = some (.deferred (some [])) → Q .normal { a with defers := { target := .collected D, args := #[] } :: a.defers } W)
  (hstop : ∀ (D : Nat) (c : Code) (W : World), w.heap.size ≤ D → Ix c W → W.heap[D]? = some (.deferred (some [])) → c.wpIn Fence.wide n P Q { a with defers := { target := .collected D, args := #[] } :: a.defers } W) :
  (Code.rangeFunc g ps assign body).wpIn Fence.wide n P Q a w := by
 refine wpIn_rangeFunc ?_
 intro fn hfn
 obtain ⟨rec, hrec⟩ : ∃ rec : LoopState → Option Code → Loop, rec = fun st pe => { state := st, pending := pe, fn, tmps := a.tmps, params := ps, assign, body, defers := w.heap.size } := ⟨_, rfl⟩
 obtain ⟨W1, hW1⟩ : ∃ W1, (w.alloc (.deferred (some []))).alloc (.loop (rec .ready none)) = W1 := ⟨_, rfl⟩
 have hz1 : W1.heap.size = w.heap.size + 2 := by rw [← hW1]; simp
 have hL1 : W1.heap[w.heap.size + 1]? = some (.loop (rec .ready none)) := by
  rw [← hW1]
  have := World.alloc_heap_new (w.alloc (.deferred (some []))) (.loop (rec .ready none))
  rwa [World.size_alloc] at this
 have hD1 : W1.heap[w.heap.size]? = some (.deferred (some [])) := by
  rw [← hW1]
  exact (Below.heap_alloc _ _ _ (by simp)).trans (World.alloc_heap_new w _)
 have hE1 : Ext w W1 := by rw [← hW1]; exact ((Ext.refl w).alloc _).alloc _
 refine ⟨w.heap.size + 1, [{ target := .collected w.heap.size, args := #[] }], W1, { target := .fn (.func gf) lb, args := #[.func (.yield (w.heap.size + 1)) #[] #[]] }, W1, gf,
  #[.func (.yield (w.heap.size + 1)) #[] #[]] ++ lb, W1, ?_, ?_, fun _ _ => trivial, ?_, fun h => absurd h (by simp [Fence.wide]), ?_⟩
 ·rw [← hW1, hrec]; exact run_enterLoop_outer _ _ _ _ _
 ·simp only [resolve, hg]
  simp [go_sem]
 ·simp [invoke, go_sem, eg]
 ·refine (hseq (w.heap.size + 1)
   (fun k W => I k W ∧ W.heap[w.heap.size + 1]? = some (.loop (rec .ready none)) ∧ W.heap[w.heap.size]? = some (.deferred (some [])) ∧ w.heap.size + 1 < W.heap.size)
   (fun W => ∃ c, Ix c W ∧ W.heap[w.heap.size + 1]? = some (.loop (rec .done (some c))) ∧ W.heap[w.heap.size]? = some (.deferred (some [])))
   W1 (hb0.trans hE1) (by have := hb0.size; omega) (by omega) ?_ ?_ ?_ ⟨hI _ _ _ h0 hE1, hL1, hD1, by omega⟩).mono ?_
  ·rintro k A B ⟨h1, h2, h3, h4⟩ hAB
   exact ⟨hI _ _ _ h1 (hAB.mono (by omega)), (hAB.block _ (by omega)).trans h2, (hAB.block _ (by omega)).trans h3, Nat.lt_of_lt_of_le h4 hAB.size⟩
  ·rintro A B ⟨c, h1, h2, h3⟩ hAB
   exact ⟨c, hIx _ _ _ h1 (hAB.mono (by omega)), (hAB.block _ (by omega)).trans h2, (hAB.block _ (by omega)).trans h3⟩
  ·-- one round
   rintro k x W hkN ⟨hi, hl, hD, hlt⟩ hgx
   have hy := run_yield (P := P) (args := encs x) hl (by rw [hrec]; exact hps x)
   rw [hrec] at hy
   refine ⟨fn, _, assign, body, hy, roundIn_of_wpIn hfn (hassign _ x W _ ⟨_, run_beginRound hl (by rw [hrec]), ?_⟩)⟩
   have hl2 : (W.putObj (w.heap.size + 1) (.loop { rec .ready none with state := .busy })).heap[w.heap.size + 1]? = some (.loop { rec .ready none with state := .busy }) := World.putObj_heap_same hlt
   have hD2 : (W.putObj (w.heap.size + 1) (.loop { rec .ready none with state := .busy })).heap[w.heap.size]? = some (.deferred (some [])) := (World.putObj_heap_other (by omega)).trans hD
   have hlt2 : w.heap.size + 1 < (W.putObj (w.heap.size + 1) (.loop { rec .ready none with state := .busy })).heap.size := (Array.getElem?_eq_some_iff.1 hl2).1
   have hg2 : W.grownBy (W.putObj (w.heap.size + 1) (.loop { rec .ready none with state := .busy })) (some (w.heap.size + 1)) := grownBy_putObj' _ _ _
   refine wpIn_mono (hbody _ k x _ hkN (hI _ _ _ hi (below_putObj _ (by omega) hlt)) (hG _ _ _ _ hgx (by omega) hlt ⟨_, hl⟩ _) (Nat.lt_trans (Nat.lt_succ_self _) hlt2)) ?_
   generalize W.putObj (w.heap.size + 1) (.loop { rec .ready none with state := .busy }) = W2 at *
   have fin : ∀ (jump : Option Code) (W3 : World), W3.heap[w.heap.size + 1]? = some (.loop { rec .ready none with state := .busy }) →
     (Instr.endRound (w.heap.size + 1) jump).run P W3 = .ok (.bool jump.isNone) (W3.putObj (w.heap.size + 1) (.loop (rec (if jump.isNone then .ready else .done) jump))) := fun jump W3 hl3 => by
    have := run_endRound (P := P) jump hl3
    rw [hrec] at this ⊢
    exact this
   rintro e a3 W3 hp
   cases e with
   | normal =>
    obtain ⟨hE3, hi3⟩ := hp
    have hl3 := (hE3.block _ hlt2).trans hl2
    have hlt3 := (Array.getElem?_eq_some_iff.1 hl3).1
    have hD3 := (hE3.block _ (by omega)).trans hD2
    refine ⟨_, _, fin none W3 hl3, .inl ⟨rfl, ⟨hI _ _ _ hi3 (below_putObj _ (by omega) hlt3), World.putObj_heap_same hlt3, (World.putObj_heap_other (by omega)).trans hD3, ?_⟩, ?_⟩⟩
    ·exact (Array.getElem?_eq_some_iff.1 (World.putObj_heap_same hlt3)).1
    ·exact (hg2.trans ⟨hE3.os, hE3.tape, hE3.output, hE3.size, fun i hi _ => hE3.block i hi⟩).trans (grownBy_putObj' _ _ _)
   | ret =>
    obtain ⟨hk3, hi3⟩ := hp
    have hl3 := (hk3 _ (by omega) hlt2).trans hl2
    have hlt3 := (Array.getElem?_eq_some_iff.1 hl3).1
    have hD3 := (hk3 _ (Nat.le_refl _) (by omega)).trans hD2
    exact ⟨_, _, fin (some .ret) W3 hl3, .inr ⟨rfl, .ret, hIx _ _ _ hi3 (below_putObj _ (by omega) hlt3), World.putObj_heap_same hlt3, (World.putObj_heap_other (by omega)).trans hD3⟩⟩
   | exit id =>
    obtain ⟨hk3, hi3⟩ := hp
    have hl3 := (hk3 _ (by omega) hlt2).trans hl2
    have hlt3 := (Array.getElem?_eq_some_iff.1 hl3).1
    have hD3 := (hk3 _ (Nat.le_refl _) (by omega)).trans hD2
    exact ⟨_, _, fin (some (.exit id)) W3 hl3, .inr ⟨rfl, .exit id, hIx _ _ _ hi3 (below_putObj _ (by omega) hlt3), World.putObj_heap_same hlt3, (World.putObj_heap_other (by omega)).trans hD3⟩⟩
   | goto t =>
    obtain ⟨hk3, hi3⟩ := hp
    have hl3 := (hk3 _ (by omega) hlt2).trans hl2
    have hlt3 := (Array.getElem?_eq_some_iff.1 hl3).1
    have hD3 := (hk3 _ (Nat.le_refl _) (by omega)).trans hD2
    exact ⟨_, _, fin (some (.goto t)) W3 hl3, .inr ⟨rfl, .goto t, hIx _ _ _ hi3 (below_putObj _ (by omega) hlt3), World.putObj_heap_same hlt3, (World.putObj_heap_other (by omega)).trans hD3⟩⟩
   | panic ch => exact hp.elim
   | outgrown => exact hp.elim
  ·-- behind the iterator
   rintro e W2 ⟨⟨v, rfl⟩, (⟨hi, hl, hD, hlt⟩ | ⟨c, hi, hl, hD⟩)⟩
   ·exact ⟨none, _, by have := run_endLoop (P := P) hl (by rw [hrec]; simp); rw [hrec] at this; exact this, hdone _ _ (Nat.le_refl _) (hI _ _ _ hi (below_putObj _ (by omega) hlt)) ((World.putObj_heap_other (by omega)).trans hD)⟩
   ·have hlt := (Array.getElem?_eq_some_iff.1 hl).1
    exact ⟨some c, _, by have := run_endLoop (P := P) hl (by rw [hrec]; simp); rw [hrec] at this; exact this, hstop _ c _ (Nat.le_refl _) (hIx _ _ _ hi (below_putObj _ (by omega) hlt)) ((World.putObj_heap_other (by omega)).trans hD)⟩
end Go.Proofs.Ytgpjfpcjiebjiaa

namespace Go.Proofs.Ytgpjfpcjiebjiaa
open Go.RowKit
set_option linter.unusedVariables false
set_option linter.unusedSimpArgs false
attribute [local go_sem ↓] Go.wp_at_zero Go.wp_at_succ

/-- What a state's maze says of a node for a task, as the walk wants it. -/
theorem StAt.freeCell {w : World} {ok : Nat → Prop} {g gu t : Nat} {m : MZ} {ch us : List Int} {ps : List (List Int)} {f u ts vc vp : Value} (h : StAt w ok g m ch ps us f u ts vc vp gu) (hfn : ∀ f ∈ m.free, (f.length : Int) = m.n) (ht : t < m.free.length) {n : Int} (h0 : 0 ≤ n) (h1 : n < m.n) :
  ∃ b off c b' off' l c', f = .slice (some ⟨b, off, none⟩) m.free.length c ∧ w.cell? ⟨b, off + t, none⟩ = some (.slice (some ⟨b', off', none⟩) l c') ∧ n < (l : Int) ∧ l ≤ c' ∧ m.free.length ≤ c ∧ w.cell? ⟨b', off' + n.toNat, none⟩ = some (.bool (freeAt m t n)) := by
 obtain ⟨fr', up', ts', he, hfr, _, _⟩ := h.maze
 injection he with he
 injection he with he
 simp only [List.cons.injEq, and_true, true_and] at he
 obtain ⟨rfl, rfl, rfl⟩ := he
 obtain ⟨vsf, ⟨Af, cf, rfl, hcf, hrf⟩, hef⟩ := hfr
 obtain ⟨bf, off3, uf, rfl, _, hcf1, hbf⟩ := eachAt hrf hef ht ht
 have hflen := hfn _ (List.getElem_mem ht)
 obtain ⟨A4, c4, rfl, hc4, hr4⟩ := hbf
 have hyl : n.toNat < (m.free[t]).length := by omega
 obtain ⟨b4, off4, rfl, _, hcf2⟩ := boolsAt hr4 hyl hyl
 have hfr : (m.free[t])[n.toNat] = freeAt m t n := by simp [freeAt, ht, hyl]
 rw [hfr] at hcf2
 exact ⟨bf, off3, cf, b4, off4, _, c4, rfl, hcf1, by omega, hc4, hcf, hcf2⟩

set_option maxHeartbeats 1000000 in
set_option maxRecDepth 100000 in
theorem cand1_calls {ok : Nat → Prop} {m : MZ} {ch us : List Int} {ps : List (List Int)} {g gu g1 g2 : Nat} {f u ts vc vp : Value} (t : Nat) (n : Int) (w : World) (h : StAt w ok g m ch ps us f u ts vc vp gu) (hfn : ∀ f ∈ m.free, (f.length : Int) = m.n) (ht : t < m.free.length)
  (hc1 : w.cell? ⟨g1, 0, none⟩ = some (.pointer (some ⟨g, 0, none⟩))) (hc2 : w.cell? ⟨g2, 0, none⟩ = some (.int .i64 t)) (h0 : 0 ≤ n) (h1 : n < m.n) :
  Calls Try.prog 88 #[.int .i64 n, .pointer (some ⟨g1, 0, none⟩), .pointer (some ⟨g2, 0, none⟩)] w fun e w' => e = .returned (.bool (freeAt m t n && !decide (n ∈ us))) ∧ Drew w w' := by
 obtain ⟨r0, r1, r2, r3, r4, r5, r6, r7, r8⟩ := h.rules
 obtain ⟨b, off, c, b', off', l, c', rfl, hcl1, hl, hlc, hfc, hcl2⟩ := h.freeCell hfn ht h0 h1
 have hus := h.us
 clear h hfn
 have hx := Ext.refl w
 have ht1 : (t : Int) < (m.free.length : Int) := by omega
 have ht0 : (0 : Int) ≤ (t : Int) := by omega
 obtain ⟨fb, hfb⟩ : ∃ fb, fb = freeAt m t n := ⟨_, rfl⟩
 rw [← hfb] at hcl2 ⊢
 clear hfb h1
 by_cases hu : n ∈ us
 ·have hlk := fun q => look_t (hus.below ((Ext.refl w).drewN q)) hu
  have HU := Lib.hid hu; clear hu
  have hgoal : Hid ((fb && !decide (n ∈ us)) = false) := by show _ = false; rw [decide_eq_true HU.out]; cases fb <;> rfl
  cases fb with
  | false =>
   go_enter Try.func88, Try.ntmps88
   go_wp2_with fail
   go_quiet (fail)
   go_wp2
   go_ret
   exact ⟨ret_bool hgoal.out.symm, (Drew.refl w).more _⟩
  | true =>
   go_enter Try.func88, Try.ntmps88
   go_wp2_with fail
   go_quiet (fail)
   go_wp2
   go_ret
   exact ⟨ret_bool hgoal.out.symm, (Drew.refl w).more _⟩
 ·have hlk := fun q => look_f (hus.below ((Ext.refl w).drewN q)) hu
  have HU := Lib.hid hu; clear hu
  have hgoal : Hid ((fb && !decide (n ∈ us)) = fb) := by show _ = fb; rw [decide_eq_false HU.out]; cases fb <;> rfl
  cases fb with
  | false =>
   go_enter Try.func88, Try.ntmps88
   go_wp2_with fail
   go_quiet (fail)
   go_wp2
   go_ret
   exact ⟨ret_bool hgoal.out.symm, (Drew.refl w).more _⟩
  | true =>
   go_enter Try.func88, Try.ntmps88
   go_wp2_with fail
   go_quiet (fail)
   go_wp2
   go_ret
   exact ⟨ret_bool hgoal.out.symm, (Drew.refl w).more _⟩

set_option maxHeartbeats 1000000 in
set_option maxRecDepth 100000 in
theorem left11_calls {ok : Nat → Prop} {m : MZ} {ch us : List Int} {ps : List (List Int)} {g gu g1 g2 : Nat} {f u ts vc vp : Value} (t : Nat) (n : Int) (w : World) (h : StAt w ok g m ch ps us f u ts vc vp gu) (hfn : ∀ f ∈ m.free, (f.length : Int) = m.n) (ht : t < m.free.length)
  (hc1 : w.cell? ⟨g1, 0, none⟩ = some (.pointer (some ⟨g, 0, none⟩))) (hc2 : w.cell? ⟨g2, 0, none⟩ = some (.int .i64 t)) (h0 : 0 ≤ n) (h1 : n < m.n) :
  Calls Try.prog 101 #[.int .i64 n, .pointer (some ⟨g1, 0, none⟩), .pointer (some ⟨g2, 0, none⟩)] w fun e w' => e = .returned (.bool (!freeAt m t n || decide (n ∈ us))) ∧ Drew w w' := by
 obtain ⟨r0, r1, r2, r3, r4, r5, r6, r7, r8⟩ := h.rules
 obtain ⟨b, off, c, b', off', l, c', rfl, hcl1, hl, hlc, hfc, hcl2⟩ := h.freeCell hfn ht h0 h1
 have hus := h.us
 clear h hfn
 have hx := Ext.refl w
 have ht1 : (t : Int) < (m.free.length : Int) := by omega
 have ht0 : (0 : Int) ≤ (t : Int) := by omega
 obtain ⟨fb, hfb⟩ : ∃ fb, fb = freeAt m t n := ⟨_, rfl⟩
 rw [← hfb] at hcl2 ⊢
 clear hfb h1
 by_cases hu : n ∈ us
 ·have hlk := fun q => look_t (hus.below ((Ext.refl w).drewN q)) hu
  have HU := Lib.hid hu; clear hu
  have hgoal : Hid ((!fb || decide (n ∈ us)) = true) := by show _ = true; rw [decide_eq_true HU.out]; cases fb <;> rfl
  cases fb with
  | false =>
   go_enter Try.func101, Try.ntmps101
   go_wp2_with fail
   go_quiet (fail)
   go_wp2
   go_ret
   exact ⟨ret_bool hgoal.out.symm, (Drew.refl w).more _⟩
  | true =>
   go_enter Try.func101, Try.ntmps101
   go_wp2_with fail
   go_quiet (fail)
   go_wp2
   go_ret
   exact ⟨ret_bool hgoal.out.symm, (Drew.refl w).more _⟩
 ·have hlk := fun q => look_f (hus.below ((Ext.refl w).drewN q)) hu
  have HU := Lib.hid hu; clear hu
  have hgoal : Hid ((!fb || decide (n ∈ us)) = !fb) := by show _ = !fb; rw [decide_eq_false HU.out]; cases fb <;> rfl
  cases fb with
  | false =>
   go_enter Try.func101, Try.ntmps101
   go_wp2_with fail
   go_quiet (fail)
   go_wp2
   go_ret
   exact ⟨ret_bool hgoal.out.symm, (Drew.refl w).more _⟩
  | true =>
   go_enter Try.func101, Try.ntmps101
   go_wp2_with fail
   go_quiet (fail)
   go_wp2
   go_ret
   exact ⟨ret_bool hgoal.out.symm, (Drew.refl w).more _⟩

set_option maxRecDepth 100000 in
theorem open1_calls {gs g5 : Nat} {s : List Int} (n : Int) (w : World) (hs : SetIs w gs s) (hc : w.cell? ⟨g5, 0, none⟩ = some (.map (some gs))) :
  Calls Try.prog 93 #[.int .i64 n, .pointer (some ⟨g5, 0, none⟩)] w fun e w' => e = .returned (.bool (decide (n ∈ s))) ∧ w = w' := by
 by_cases h : n ∈ s
 ·have hlk := look_t hs h
  rw [decide_eq_true h]
  clear h hs
  go_enter Try.func93, Try.ntmps93
  go_wp2
  go_ret
  exact ⟨rfl, rfl⟩
 ·have hlk := look_f hs h
  rw [decide_eq_false h]
  clear h hs
  go_enter Try.func93, Try.ntmps93
  go_wp2
  go_ret
  exact ⟨rfl, rfl⟩

set_option maxRecDepth 100000 in
theorem paths1_calls {ok : Nat → Prop} {v : Value} {l : List Int} (w : World) (h : Ints w ok v l) :
  Calls Try.prog 75 #[v] w fun e w' => e = .returned (.bool (decide (l = []))) ∧ w = w' := by
 obtain ⟨A, c, rfl, hc, _⟩ := h
 have hd : decide (l = []) = decide ((l.length : Int) = 0) := by
  rw [decide_eq_decide]
  constructor
  ·rintro rfl; rfl
  ·intro h; exact List.eq_nil_of_length_eq_zero (by omega)
 rw [hd]
 clear hd
 generalize l.length = n at *
 go_enter Try.func75, Try.ntmps75
 go_wp2
 go_ret
 refine ⟨?_, rfl⟩
 by_cases hn : n = 0
 ·subst hn; rfl
 ·simp [hn]
end Go.Proofs.Ytgpjfpcjiebjiaa

namespace Go.Proofs.Ytgpjfpcjiebjiaa
open Go.Shelf
def sortA_ren : Go.Shelf.Ren := ⟨fun | 5 => 97 | 8 => 104 | 7 => 103 | 19 => 114 | 20 => 115 | 10 => 105 | 11 => 106 | 12 => 107 | 13 => 108 | 14 => 109 | 15 => 110 | 16 => 111 | 17 => 112 | 18 => 113 | 30 => 116 | 31 => 117 | 32 => 118 | 33 => 119 | 34 => 120 | 35 => 121 | 40 => 122 | n => n, fun | 23 => 24 | 25 => 3 | 3 => 3 | 32 => 127 | 22 => 24 | 0 => 0 | 44 => 138 | 46 => 140 | 4 => 4 | 36 => 130 | 35 => 129 | 41 => 135 | 5 => 5 | 9 => 9 | 53 => 141 | 57 => 145 | 63 => 147 | 64 => 148 | n => n, fun | n => n⟩
theorem sortA : Go.Proofs.SlLaysM.n5 Try.prog sortA_ren := {
 mixed := by kernel_rfl
 f5 := ⟨Try.f97.name, by decide, Try.func97.trans (congrArg some (by kernel_rfl))⟩
 f7 := ⟨Try.f103.name, by decide, Try.func103.trans (congrArg some (by kernel_rfl))⟩
 f8 := Try.func104.trans (congrArg some (by kernel_rfl))
 f10 := ⟨Try.f105.name, by decide, Try.func105.trans (congrArg some (by kernel_rfl))⟩
 f11 := ⟨Try.f106.name, by decide, Try.func106.trans (congrArg some (by kernel_rfl))⟩
 f12 := ⟨Try.f107.name, by decide, Try.func107.trans (congrArg some (by kernel_rfl))⟩
 f13 := ⟨Try.f108.name, by decide, Try.func108.trans (congrArg some (by kernel_rfl))⟩
 f14 := ⟨Try.f109.name, by decide, Try.func109.trans (congrArg some (by kernel_rfl))⟩
 f15 := ⟨Try.f110.name, by decide, Try.func110.trans (congrArg some (by kernel_rfl))⟩
 f16 := ⟨Try.f111.name, by decide, Try.func111.trans (congrArg some (by kernel_rfl))⟩
 f17 := ⟨Try.f112.name, by decide, Try.func112.trans (congrArg some (by kernel_rfl))⟩
 f18 := ⟨Try.f113.name, by decide, Try.func113.trans (congrArg some (by kernel_rfl))⟩
 f19 := Try.func114.trans (congrArg some (by kernel_rfl))
 f20 := Try.func115.trans (congrArg some (by kernel_rfl))
 f30 := ⟨Try.f116.name, by decide, Try.func116.trans (congrArg some (by kernel_rfl))⟩
 f31 := Try.func117.trans (congrArg some (by kernel_rfl))
 f32 := Try.func118.trans (congrArg some (by kernel_rfl))
 f33 := ⟨Try.f119.name, by decide, Try.func119.trans (congrArg some (by kernel_rfl))⟩
 f34 := ⟨Try.f120.name, by decide, Try.func120.trans (congrArg some (by kernel_rfl))⟩
 f35 := ⟨Try.f121.name, by decide, Try.func121.trans (congrArg some (by kernel_rfl))⟩
 f40 := ⟨Try.f122.name, by decide, Try.func122.trans (congrArg some (by kernel_rfl))⟩
 t0 := Try.underlying0
 a0 := Try.isAgg0
 z0 := Try.sizeOf0
 v0 := Try.zeroValue0
 t3 := Try.underlying3
 a3 := Try.isAgg3
 z3 := Try.sizeOf3
 v3 := Try.zeroValue3
 t4 := Try.underlying4
 a4 := Try.isAgg4
 z4 := Try.sizeOf4
 v4 := Try.zeroValue4
 t5 := Try.underlying5
 a5 := Try.isAgg5
 z5 := Try.sizeOf5
 v5 := Try.zeroValue5
 t9 := Try.underlying9
 a9 := Try.isAgg9
 z9 := Try.sizeOf9
 v9 := Try.zeroValue9
 t22 := Try.underlying24
 a22 := Try.isAgg24
 z22 := Try.sizeOf24
 v22 := Try.zeroValue24
 t23 := Try.underlying24
 a23 := Try.isAgg24
 z23 := Try.sizeOf24
 v23 := Try.zeroValue24
 t25 := Try.underlying3
 a25 := Try.isAgg3
 z25 := Try.sizeOf3
 v25 := Try.zeroValue3
 t32 := Try.underlying127
 a32 := Try.isAgg127
 z32 := Try.sizeOf127
 v32 := Try.zeroValue127
 t35 := Try.underlying129
 a35 := Try.isAgg129
 z35 := Try.sizeOf129
 v35 := Try.zeroValue129
 t36 := Try.underlying130
 a36 := Try.isAgg130
 z36 := Try.sizeOf130
 v36 := Try.zeroValue130
 t41 := Try.underlying135
 a41 := Try.isAgg135
 z41 := Try.sizeOf135
 v41 := Try.zeroValue135
 t44 := Try.underlying138
 a44 := Try.isAgg138
 z44 := Try.sizeOf138
 v44 := Try.zeroValue138
 t46 := Try.underlying140
 a46 := Try.isAgg140
 z46 := Try.sizeOf140
 v46 := Try.zeroValue140
 t53 := Try.underlying141
 a53 := Try.isAgg141
 z53 := Try.sizeOf141
 v53 := Try.zeroValue141
 t57 := Try.underlying145
 a57 := Try.isAgg145
 z57 := Try.sizeOf145
 v57 := Try.zeroValue145
 t63 := Try.underlying147
 a63 := Try.isAgg147
 z63 := Try.sizeOf147
 v63 := Try.zeroValue147
 t64 := Try.underlying148
 a64 := Try.isAgg148
 z64 := Try.sizeOf148
 v64 := Try.zeroValue148 }
def compactA_ren : Go.Shelf.Ren := ⟨fun | 43 => 89 | n => n, fun | 22 => 24 | 23 => 3 | 3 => 3 | 4 => 4 | 0 => 0 | n => n, fun | n => n⟩
theorem compactA : Go.Proofs.SlLaysN.n43 Try.prog compactA_ren := {
 mixed := by kernel_rfl
 f43 := ⟨Try.f89.name, by decide, Try.func89.trans (congrArg some (by kernel_rfl))⟩
 t0 := Try.underlying0
 a0 := Try.isAgg0
 z0 := Try.sizeOf0
 v0 := Try.zeroValue0
 t3 := Try.underlying3
 a3 := Try.isAgg3
 z3 := Try.sizeOf3
 v3 := Try.zeroValue3
 t4 := Try.underlying4
 a4 := Try.isAgg4
 z4 := Try.sizeOf4
 v4 := Try.zeroValue4
 t22 := Try.underlying24
 a22 := Try.isAgg24
 z22 := Try.sizeOf24
 v22 := Try.zeroValue24
 t23 := Try.underlying3
 a23 := Try.isAgg3
 z23 := Try.sizeOf3
 v23 := Try.zeroValue3
 i23 := by kernel_rfl }
def dfIA_ren : Go.Shelf.Ren := ⟨fun | 10 => 100 | 6 => 82 | n => n, fun | 22 => 24 | 23 => 3 | 25 => 52 | 3 => 3 | 4 => 4 | 0 => 0 | n => n, fun | n => n⟩
theorem dfIA : Go.Proofs.SlLaysH.n10 Try.prog dfIA_ren := {
 mixed := by kernel_rfl
 f6 := ⟨Try.f82.name, by decide, Try.func82.trans (congrArg some (by kernel_rfl))⟩
 f10 := ⟨Try.f100.name, by decide, Try.func100.trans (congrArg some (by kernel_rfl))⟩
 t0 := Try.underlying0
 a0 := Try.isAgg0
 z0 := Try.sizeOf0
 v0 := Try.zeroValue0
 t3 := Try.underlying3
 a3 := Try.isAgg3
 z3 := Try.sizeOf3
 v3 := Try.zeroValue3
 t4 := Try.underlying4
 a4 := Try.isAgg4
 z4 := Try.sizeOf4
 v4 := Try.zeroValue4
 t22 := Try.underlying24
 a22 := Try.isAgg24
 z22 := Try.sizeOf24
 v22 := Try.zeroValue24
 a23 := Try.isAgg3
 z23 := Try.sizeOf3
 t25 := Try.underlying52
 a25 := Try.isAgg52
 z25 := Try.sizeOf52
 v25 := Try.zeroValue52 }
end Go.Proofs.Ytgpjfpcjiebjiaa

namespace Go.Proofs.Ytgpjfpcjiebjiaa
open Go.RowKit Go.Sort Go.Shelf
set_option linter.unusedVariables false
set_option linter.unusedSimpArgs false

theorem holds_own {w : World} {B g cap : Nat} {l : List Int} (h : OwnI w B (.slice (some ⟨g, 0, none⟩) l.length cap) l) : Holds (Value.int .i64) w g 0 l.toArray := by
 intro j hj
 have hj' : j < l.length := by simpa using hj
 refine ⟨?_, by have := World.ownsRow.frozenAt h j; simpa using this⟩
 have := World.ownsRow.cellAt h j (by omega)
 rw [Nat.zero_add, this]
 simp [getElem!_pos, hj']

/-- A list, sorted. -/
def sortL (l : List Int) : List Int := l.mergeSort fun x y => decide (x ≤ y)
theorem sort_calls {w1 w : World} {v : Value} {l : List Int} (h : Mk w1 w v l) (hl : l.length ≤ 1000000000000) : Calls Try.prog 97 #[v] w fun e w' => e = .returned (.tuple #[]) ∧ Mk w1 w' v (sortL l) := by
 have hlen : (sortL l).length = l.length := by unfold sortL; rw [List.length_mergeSort]
 rcases Nat.eq_zero_or_pos l.length with h0 | h0
 ·have hnil := List.eq_nil_of_length_eq_zero h0
  subst hnil
  obtain ⟨A, c, rfl, _⟩ := h.slice
  have hc := AnyM.slices_Sort_int_none sortA A c w
  change Calls Try.prog 97 _ _ _ at hc
  refine Calls.mono hc ?_
  rintro e w' ⟨rfl, rfl⟩
  exact ⟨rfl, h.cast (by simp [sortL])⟩
 ·obtain ⟨g, cap, rfl, hg, hlt⟩ := World.ownsRow.form h.own h0
  have hc := AnyM.slices_Sort_int sortA g 0 cap l w (holds_own h.own) hlt (by omega)
  change Calls Try.prog 97 _ _ _ at hc
  refine Calls.mono hc ?_
  rintro e w' ⟨rfl, n, os, rfl⟩
  refine ⟨rfl, ?_, ?_⟩
  ·obtain ⟨_, ⟨e0, _⟩ | ⟨g', cap', cur, e0, hb, hgb, hn, hm, hs, ht⟩⟩ := h.own
   ·cases e0
   ·injection e0 with e1 _ e3
    injection e1 with e1
    injection e1 with e1
    subst e1; subst e3
    have := ownsRow_sortedI (n := n) (os := os) (w := w) (ss := l) (ts := sortL l) hlen hb hgb hn hm hs
    unfold OwnI
    rw [hlen]
    exact this
  ·exact Below.grown h.ext (grownBy_sortedI _) h.ext.size (fun k hk => by injection hk with hk; omega)

theorem compact_calls {w1 w : World} {v : Value} {l : List Int} (h : Mk w1 w v l) (hl : l.length ≤ 1000000000000) : Calls Try.prog 89 #[v] w fun e w' => ∃ v', e = .returned v' ∧ Mk w1 w' v' (Lib.compact l) := by
 rcases Nat.eq_zero_or_pos l.length with h0 | h0
 ·have hnil := List.eq_nil_of_length_eq_zero h0
  subst hnil
  obtain ⟨A, c, rfl, _⟩ := h.slice
  have hc := AnyG.slices_Compact_int_empty compactA A c w
  change Calls Try.prog 89 _ _ _ at hc
  refine Calls.mono hc ?_
  rintro e w' ⟨rfl, rfl⟩
  exact ⟨_, rfl, h⟩
 ·obtain ⟨g, cap, rfl, hg, hlt⟩ := World.ownsRow.form h.own h0
  have hcap := own_cap h.own
  have hc := AnyG.slices_Compact_int compactA g 0 cap l w (holds_own h.own) (by omega) hcap
  change Calls Try.prog 89 _ _ _ at hc
  refine Calls.mono hc ?_
  rintro e w' ⟨rfl, q, rfl⟩
  have hcl : (Lib.compact l).length ≤ l.length := by
   unfold Lib.compact Lib.compactUpTo
   rw [List.length_map]
   exact Nat.le_trans (List.length_filter_le _ _) (by simp)
  refine ⟨_, rfl, ?_, ?_⟩
  ·have := Lib.ownsRow_putRow (enc := Value.int .i64) (q := q) (k := (Lib.compact l).length) (ys := Lib.compact l ++ List.replicate (l.length - (Lib.compact l).length) 0) h.own (by simp; omega) hcl
   rw [List.take_left'] at this
   ·exact this
   ·rfl
  ·exact Lib.below_putRow h.ext hg

theorem values_calls (A : Option Addr) (n c : Nat) (w : World) : Calls Try.prog 91 #[.slice A n c] w fun e w' => e = .returned (.func (.func 98) #[] #[.pointer (some ⟨w.heap.size, 0, none⟩)]) ∧ w' = w.alloc (.cells #[.slice A n c] 24) := by
 go_enter Try.func91, Try.ntmps91
 go_wp2_with fail
 go_ret
 exact ⟨rfl, rfl⟩

set_option maxRecDepth 100000 in
theorem collect_calls {ok : Nat → Prop} {v : Value} {l : List Int} (Bs : Nat) (w : World) (hc : w.cell? ⟨Bs, 0, none⟩ = some v) (h : Ints w ok v l) (hlen : l.length ≤ 1000000000000) :
  Calls Try.prog 96 #[.func (.func 98) #[] #[.pointer (some ⟨Bs, 0, none⟩)]] w fun e w' => ∃ v', e = .returned v' ∧ Mk w w' v' l := by
 have H := Lib.hid (appendSeq_calls Bs w hc h hlen); clear h hc
 go_enter Try.func96, Try.ntmps96
 go_wp2_with fail
 refine H.out.mono ?_
 rintro e w' ⟨v', rfl, hM⟩
 have HM := Lib.hid hM; clear hM
 go_wp2_with fail
 go_ret
 exact ⟨_, rfl, HM.out⟩

set_option maxRecDepth 100000 in
theorem sorted_calls {ok : Nat → Prop} {v : Value} {l : List Int} (Bs : Nat) (w : World) (hc : w.cell? ⟨Bs, 0, none⟩ = some v) (h : Ints w ok v l) (hlen : l.length ≤ 1000000000000) :
  Calls Try.prog 90 #[.func (.func 98) #[] #[.pointer (some ⟨Bs, 0, none⟩)]] w fun e w' => ∃ v', e = .returned v' ∧ Mk w w' v' (sortL l) := by
 have H := Lib.hid (collect_calls Bs w hc h hlen); clear h hc
 go_enter Try.func90, Try.ntmps90
 go_wp2_with fail
 refine H.out.mono ?_
 rintro e w' ⟨v', rfl, hM⟩
 have HS := Lib.hid (sort_calls hM hlen)
 clear hM
 go_wp2_with fail
 refine HS.out.mono ?_
 rintro e w2 ⟨rfl, hM2⟩
 have HM := Lib.hid hM2; clear hM2
 go_wp2_with fail
 go_ret
 exact ⟨_, rfl, HM.out⟩
end Go.Proofs.Ytgpjfpcjiebjiaa

namespace Go.Proofs.Ytgpjfpcjiebjiaa
open Go.RowKit
open Go.ChangeMaps (setBlock)
set_option linter.unusedVariables false
set_option linter.unusedSimpArgs false

/-- The iterator at r over the map at g, the entries of the stamps seen having come. -/
def IterIs (w : World) (r g since : Nat) (seen : Array Nat) (c0 : Nat) : Prop := w.heap[r]? = some (.mapIter (some g) since seen c0)

theorem run_next_at {P : Program} (w : World) (ty : TypeId) (bm r since c0 : Nat) (seen : Array Nat) (es : Array MapEntry) (clock : Nat) (hr : IterIs w r bm since seen c0) (hb : w.heap[bm]? = some (.map es clock)) (hold : ∀ x ∈ es.toList, x.born < since) (hsc : since ≤ c0) :
  ((leftOf es seen).size = 0 ∧ (Instr.next (.pointer (some ⟨r, 0, none⟩)) false ty).run P w = .ok (.tuple #[.bool false]) w) ∨
  ∃ e ∈ (leftOf es seen).toList, ∃ w1 : World, (w1 = w ∨ w1 = w.drew) ∧ (Instr.next (.pointer (some ⟨r, 0, none⟩)) false ty).run P w = .ok (.tuple #[.bool true, e.key, e.val]) (setBlock w1 r (.mapIter (some bm) since (seen.push e.born) clock)) := by
 unfold IterIs at hr
 simp only [Instr.next, getObj, Sem.run_bind, Sem.run, hr, hb, Result.andThen, next_test_false seen es since c0 hold hsc, Bool.false_eq_true, if_false]
 unfold leftOf
 have hmem : ∀ x ∈ (Array.filter (fun e => !seen.contains e.born) es).toList, x.born < since := fun x hx => hold x (by simp at hx ⊢; exact hx.1)
 generalize Array.filter (fun e => !seen.contains e.born) es = L at hmem ⊢
 have e1 : L.filter (fun x => decide (x.born < since)) = L := Array.filter_eq_self.2 (fun x hx => by simpa using hmem x (by simpa using hx))
 have e2 : L.filter (fun x => decide (x.born ≥ since)) = #[] := by
  rw [Array.filter_eq_empty_iff]
  intro x hx
  have := hmem x (by simpa using hx)
  simp
  omega
 simp only [e1, e2, Array.append_empty]
 by_cases h0 : L.size = 0
 ·left
  have : L = #[] := Array.eq_empty_of_size_eq_zero h0
  subst this
  refine ⟨rfl, ?_⟩
  simp [choose, Sem.run, Question.forced]
 ·right
  have hne : L.isEmpty = false := by simp [Array.isEmpty, h0]
  simp only [hne, Bool.false_eq_true, if_false, Array.empty_append, Array.size_map]
  have hch : ∃ (j : Nat) (w1 : World), j < L.size ∧ (w1 = w ∨ w1 = w.drew) ∧ (choose (Question.mapNext L.size)).run P w = .ok j w1 := by
   by_cases hf : L.size ≤ 1
   ·exact ⟨0, w, by omega, .inl rfl, by simp [choose, Sem.run, Question.forced, hf]⟩
   ·exact ⟨_, w.drew, Nat.mod_lt _ (by omega), .inr rfl, by
     simp only [choose, Sem.run, Question.forced, decide_eq_true_eq, hf, if_false, Question.cut]
     rfl⟩
  obtain ⟨j, w1, hj, hal, hrun⟩ := hch
  refine ⟨L[j], by simp, w1, hal, ?_⟩
  have hr1 : w1.heap[r]? = some (.mapIter (some bm) since seen c0) := by
   rcases hal with rfl | rfl <;> exact hr
  have hset : ∀ (o' : Obj), (setObj r o').run P w1 = .ok () (setBlock w1 r o') := fun o' => by
   simp only [setObj, Sem.run, hr1]
   rfl
  simp only [hrun, Array.getElem?_map, Array.getElem?_eq_getElem hj, Option.map_some, Sem.run_bind, hset, Result.andThen]
  rfl
theorem run_entry_at {P : Program} (w : World) (bm r since : Nat) (seen : Array Nat) (es : Array MapEntry) (clock : Nat) (e : MapEntry) (hr : w.heap[r]? = some (.mapIter (some bm) since (seen.push e.born) clock)) (hb : w.heap[bm]? = some (.map es clock)) (he : e ∈ es.toList) (hn : (es.toList.map (·.born)).Nodup) :
  (Instr.entry (.pointer (some ⟨r, 0, none⟩))).run P w = .ok (.tuple #[e.key, e.val]) w := by
 have hf : es.find? (·.born == e.born) = some e := by rw [← Array.find?_toList]; exact find_born e es.toList hn he
 simp only [Instr.entry, getObj, Sem.run_bind, Sem.run, hr, hb, Result.andThen, Array.back?_push, bne_self_eq_false, Bool.false_eq_true, if_false, hf]
 rfl

theorem entFrom_born : ∀ (l : List Int) (b : Nat), (entFrom l b).map (·.born) = List.range' b l.length
 | [], _ => rfl
 | _ :: l, b => by simp [entFrom, entFrom_born l (b + 1), List.range'_succ]
theorem setBlock_same {w : World} {g : Nat} (o : Obj) (h : g < w.heap.size) : (setBlock w g o).heap[g]? = some o := by simp [setBlock, h]

/-- How many elements have not come yet. -/
def leftN (n : Nat) (seen : Array Nat) : Nat := ((List.range n).filter fun i => !seen.contains i).length
theorem leftN_step {n i : Nat} {seen : Array Nat} (hi : i < n) (hs : seen.contains i = false) : leftN n (seen.push i) < leftN n seen := by
 unfold leftN
 refine filter_lt (fun j => !seen.contains j) (fun j => !(seen.push i).contains j) (fun x hx => ?_) i (by simp only [hs]; rfl) (by simp) _ (List.mem_range.2 hi)
 simp at hx ⊢
 exact hx.1

/-- The iterator's step over the set l. -/
theorem set_next {P : Program} {w : World} {g r c0 : Nat} {l : List Int} {seen : Array Nat} (hs : SetIs w g l) (hi : IterIs w r g l.length seen c0) (hc : l.length ≤ c0) :
  ((∀ i, i < l.length → seen.contains i = true) ∧ ∀ ty, (Instr.next (.pointer (some ⟨r, 0, none⟩)) false ty).run P w = .ok (.tuple #[.bool false]) w) ∨
  ∃ i, ∃ (h : i < l.length), seen.contains i = false ∧ ∃ w1 : World, (w1 = w ∨ w1 = w.drew) ∧ (∀ ty, (Instr.next (.pointer (some ⟨r, 0, none⟩)) false ty).run P w = .ok (.tuple #[.bool true, .int .i64 l[i], .bool true]) (setBlock w1 r (.mapIter (some g) l.length (seen.push i) l.length))) ∧
   ((Instr.entry (.pointer (some ⟨r, 0, none⟩))).run P (setBlock w1 r (.mapIter (some g) l.length (seen.push i) l.length)) = .ok (.tuple #[.int .i64 l[i], .bool true]) (setBlock w1 r (.mapIter (some g) l.length (seen.push i) l.length))) := by
 have hborn : ∀ x ∈ (entFrom l 0).toArray.toList, x.born < l.length := by
  intro x hx
  have h1 : x.born ∈ (entFrom l 0).map (·.born) := List.mem_map.2 ⟨x, by simpa using hx, rfl⟩
  rw [entFrom_born] at h1
  have := List.mem_range'_1.1 h1
  omega
 have hget : ∀ x ∈ (entFrom l 0), ∃ (h : x.born < l.length), x.key = .int .i64 (l[x.born]) ∧ x.val = .bool true := by
  intro x hx
  obtain ⟨k, hk, rfl⟩ := List.getElem_of_mem hx
  have h1 := entFrom_get l 0 k
  rw [List.getElem?_eq_getElem hk] at h1
  rw [entFrom_length] at hk
  rw [List.getElem?_eq_getElem hk] at h1
  simp only [Option.map_some, Option.some.injEq, Nat.zero_add] at h1
  rw [h1]
  exact ⟨hk, rfl, rfl⟩
 have hgr : g ≠ r := by
  rintro rfl
  unfold IterIs at hi
  unfold SetIs mapObj at hs
  rw [hs] at hi
  cases hi
 have hrl : r < w.heap.size := lt_of_some hi
 have hlaw : ∀ ty, _ := fun ty => run_next_at (P := P) w ty g r l.length c0 seen (entFrom l 0).toArray l.length hi hs hborn hc
 by_cases hz : (leftOf (entFrom l 0).toArray seen).size = 0
 ·refine .inl ⟨fun i hi' => ?_, fun ty => ?_⟩
  ·cases hv : seen.contains i with
   | true => rfl
   | false =>
    exfalso
    have hk : i < (entFrom l 0).length := by rw [entFrom_length]; exact hi'
    have hb : (entFrom l 0)[i].born = i := by
     have h1 := entFrom_get l 0 i
     rw [List.getElem?_eq_getElem hk, List.getElem?_eq_getElem hi'] at h1
     simp only [Option.map_some, Option.some.injEq, Nat.zero_add] at h1
     rw [h1]
    have hm : (entFrom l 0)[i] ∈ (leftOf (entFrom l 0).toArray seen) := by
     unfold leftOf
     rw [Array.mem_filter]
     exact ⟨by simp, by rw [hb, hv]; rfl⟩
    rw [Array.eq_empty_of_size_eq_zero hz] at hm
    simp at hm
  ·rcases hlaw ty with ⟨_, h⟩ | ⟨e, he, _⟩
   ·exact h
   ·rw [Array.eq_empty_of_size_eq_zero hz] at he
    simp at he
 ·rcases hlaw 0 with ⟨h0, _⟩ | ⟨e, he, w1, hal, hrun⟩
  ·exact absurd h0 hz
  ·have hel : e ∈ entFrom l 0 := by
    have := (mem_left he).1
    simpa using this
   obtain ⟨hlt, hk, hv⟩ := hget e hel
   have hns : seen.contains e.born = false := by
    have h1 : e ∈ (entFrom l 0).toArray.filter (fun e => !seen.contains e.born) := by simpa [leftOf] using he
    rw [Array.mem_filter] at h1
    simpa using h1.2
   rw [hk, hv] at hrun
   refine .inr ⟨e.born, hlt, hns, w1, hal, fun ty => hrun, ?_⟩
   have h1 : w1.heap = w.heap := by rcases hal with rfl | rfl <;> rfl
   have hsz : r < w1.heap.size := by rw [h1]; exact hrl
   have := run_entry_at (P := P) (setBlock w1 r (.mapIter (some g) l.length (seen.push e.born) l.length)) g r l.length seen (entFrom l 0).toArray l.length e (setBlock_same _ hsz) (by rw [setBlk_other _ hgr, h1]; exact hs) (by simpa using hel) (by
    show ((entFrom l 0).map (·.born)).Nodup
    rw [entFrom_born]
    exact List.nodup_range')
   rw [hk, hv] at this
   exact this
end Go.Proofs.Ytgpjfpcjiebjiaa
