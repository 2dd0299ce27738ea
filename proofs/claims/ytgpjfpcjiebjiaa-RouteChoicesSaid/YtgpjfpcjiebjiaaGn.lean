/- Words for the memory of a maze that is made of numbers. What the statement that makes a task has made, as far as it has come. Words for Made: the row of vertical ways; the maze that was made. -/
import Derived.Test.YtgpjfpcjiebjiaaGm
import Derived.Test.YtgpjfpcjiebjiaaGi
import Derived.StillTailTactics
namespace Go.Proofs.Ytgpjfpcjiebjiaa
open Go.RowKit
set_option linter.unusedVariables false
set_option linter.unusedSimpArgs false

theorem Try.infoTask : (Try.prog.info? 75).map (fun i => (i.zero, i.size, i.bytes)) = some (some (.agg #[.string ⟨#[]⟩, .slice none 0 0, .slice none 0 0]), 3, 64) := by kernel_rfl
theorem Try.infoBools : (Try.prog.info? 28).map (fun i => (i.zero, i.size, i.bytes)) = some (some (.slice none 0 0), 1, 24) := by kernel_rfl

/-- A draw's memory: its list lies ahead of B. -/
def DrawAt (B : Nat) (w : World) (g : Nat) : Prop := B ≤ g ∧ ∃ (v : Value) (k : Nat) (l : List Int), Blk w g 104 #[v, .int .i64 k] ∧ Ints w (fun b => b < B) v l ∧ l.length ≤ 9223372036854775807 ∧ k ≤ l.length
section
variable {B : Nat} {w w' : World} {g : Nat}
theorem DrawAt.keep (h : DrawAt B w g) (hE : Below B w w') (hb : w'.heap[g]? = w.heap[g]?) : DrawAt B w' g := by
 obtain ⟨h0, v, k, l, h1, h2, h3⟩ := h
 exact ⟨h0, v, k, l, hb.trans h1, h2.keep fun b hb hlt => hE.block b hb, h3⟩
theorem DrawAt.ext (h : DrawAt B w g) (hE : Ext w w') (hB : B ≤ w.heap.size) : DrawAt B w' g := by
 obtain ⟨h0, v, k, l, h1, h2, h3⟩ := h
 exact ⟨h0, v, k, l, (hE.block g (lt_of_some h1)).trans h1, h2.below hE, h3⟩
theorem DrawAt.lt (h : DrawAt B w g) : g < w.heap.size := by
 obtain ⟨h0, v, k, l, h1, h2, h3⟩ := h
 exact lt_of_some h1
theorem DrawAt.blk (h : DrawAt B w g) : ∃ cs, Blk w g 104 cs := by
 obtain ⟨h0, v, k, l, h1, h2, h3⟩ := h
 exact ⟨_, h1⟩
theorem drawE_calls (n : Int) (h : DrawAt B w g) (hn : 0 < n) (hn2 : n ≤ 1000000) :
  Calls Try.prog 80 #[.pointer (some ⟨g, 0, none⟩), .int .i64 n] w fun e w' => ∃ x, e = .returned (.int .i64 x) ∧ 0 ≤ x ∧ x < n ∧ DrawAt B w' g ∧ w.grownBy w' (some g) := by
 obtain ⟨h0, v, k, l, h1, h2, h3, h4⟩ := h
 refine (draw_calls g k n w h1 h2 (by omega) h3 h4 hn hn2).mono ?_
 rintro e w' ⟨rfl, hb, hg⟩
 refine ⟨_, rfl, ?_, ?_, ⟨h0, v, drawK l k, l, hb, h2.keep fun b hb hlt => hg.block b hlt (fun e => by injection e with e; omega), h3, ?_⟩, hg⟩
 ·unfold drawV
  split
  ·exact Int.emod_nonneg _ (by omega)
  ·exact Int.le_refl _
 ·unfold drawV
  split
  ·exact Int.emod_lt_of_pos _ hn
  ·exact hn
 ·unfold drawK
  split <;> omega
end

theorem own_keep {w w' : World} {B : Nat} {e : TypeId} {sz n : Nat} {v : Value} {xs : List Value} (h : w.ownsRow B e sz v n xs) (hk : ∀ g, v.ownBlock = some g → w'.heap[g]? = w.heap[g]?) : w'.ownsRow B e sz v n xs := by
 obtain ⟨hl, h0 | ⟨g, cap, cur, rfl, h1, h2, h3⟩⟩ := h
 ·exact ⟨hl, .inl h0⟩
 ·exact ⟨hl, .inr ⟨g, cap, cur, rfl, h1, (hk g rfl).trans h2, h3⟩⟩
theorem own_lt {w : World} {B : Nat} {e : TypeId} {sz n : Nat} {v : Value} {xs : List Value} (h : w.ownsRow B e sz v n xs) {g : Nat} (hg : v.ownBlock = some g) : B ≤ g ∧ g < w.heap.size := h.lt g hg
/-- A row of booleans of the call's own. -/
def OwnB (w : World) (B : Nat) (v : Value) (l : List Bool) : Prop := w.ownsRow B 4 1 v l.length (l.map Value.bool)
theorem OwnB.bools {w : World} {B : Nat} {v : Value} {l : List Bool} (h : OwnB w B v l) : Bools w (fun b => B ≤ b) v l := Row.of_own h
/-- Some n booleans, in a block below S. -/
def BoolD (w : World) (B S n : Nat) (u : Value) : Prop := ∃ l, OwnB w B u l ∧ l.length = n ∧ ∀ g, u.ownBlock = some g → g < S
/-- A task's two lists of nodes, in blocks below S. -/
def TaskD (w : World) (B S n : Nat) (u1 u2 : Value) : Prop :=
 ∃ l1 l2, OwnI w B u1 l1 ∧ OwnI w B u2 l2 ∧ (l1 ≠ [] ∧ l2 ≠ []) ∧ (l1.length ≤ 2 ∧ l2.length ≤ 2) ∧ (∀ x, x ∈ l1 ∨ x ∈ l2 → 0 ≤ x ∧ x < n) ∧ (∀ g, u1.ownBlock = some g ∨ u2.ownBlock = some g → g < S)
section
variable {w w' : World} {B S S' n : Nat} {u u1 u2 : Value}
theorem BoolD.keep (h : BoolD w B S n u) (hk : ∀ g cs, g < S → Blk w g 4 cs → w'.heap[g]? = w.heap[g]?) (hS : S ≤ S') : BoolD w' B S' n u := by
 obtain ⟨l, h1, h2, h3⟩ := h
 refine ⟨l, ?_, h2, fun g hg => Nat.lt_of_lt_of_le (h3 g hg) hS⟩
 obtain ⟨hl, h0 | ⟨g, cap, cur, rfl, h4, h5, h6⟩⟩ := h1
 ·exact ⟨hl, .inl h0⟩
 ·exact ⟨hl, .inr ⟨g, cap, cur, rfl, h4, (hk g cur (h3 g rfl) h5).trans h5, h6⟩⟩
theorem ownI_keepT {v : Value} {l : List Int} (h : OwnI w B v l) (hk : ∀ g cs, v.ownBlock = some g → Blk w g 3 cs → w'.heap[g]? = w.heap[g]?) : OwnI w' B v l := by
 obtain ⟨hl, h0 | ⟨g, cap, cur, rfl, h4, h5, h6⟩⟩ := h
 ·exact ⟨hl, .inl h0⟩
 ·exact ⟨hl, .inr ⟨g, cap, cur, rfl, h4, (hk g cur rfl h5).trans h5, h6⟩⟩
theorem TaskD.keep (h : TaskD w B S n u1 u2) (hk : ∀ g cs, g < S → Blk w g 3 cs → w'.heap[g]? = w.heap[g]?) (hS : S ≤ S') : TaskD w' B S' n u1 u2 := by
 obtain ⟨l1, l2, h1, h2, h3, h4, h5, h6⟩ := h
 exact ⟨l1, l2, ownI_keepT h1 (fun g cs hg hb => hk g cs (h6 g (.inl hg)) hb), ownI_keepT h2 (fun g cs hg hb => hk g cs (h6 g (.inr hg)) hb), h3, h4, h5, fun g hg => Nat.lt_of_lt_of_le (h6 g hg) hS⟩
/-- A boolean stored into a row of booleans: it stays one. -/
theorem BoolD.store (h : BoolD w B S n u) (p : Addr) (hp : p.spot = none) (b : Bool) : BoolD (w.setCell p (.bool b)) B S n u := by
 obtain ⟨l, h1, h2, h3⟩ := h
 obtain ⟨pb, po, ps⟩ := p
 obtain rfl : ps = none := hp
 obtain ⟨hl, ⟨rfl, h0⟩ | ⟨g, cap, cur, rfl, h4, h5, h6, h7, h8, h9⟩⟩ := h1
 ·exact ⟨l, ⟨hl, .inl ⟨rfl, h0⟩⟩, h2, h3⟩
 ·by_cases hg : g = pb
  ·subst hg
   refine ⟨l.set po b, ?_, by simpa using h2, h3⟩
   have h10 : w.ownsRow B 4 1 (.slice (some ⟨g, 0, none⟩) l.length cap) l.length (l.map Value.bool) := ⟨hl, .inr ⟨g, cap, cur, rfl, h4, h5, h6, h7, h8, h9⟩⟩
   have h11 := (h10.stored po (.bool b)).1
   unfold OwnB
   rw [List.length_set, List.map_set]
   exact h11
  ·exact ⟨l, ⟨hl, .inr ⟨g, cap, cur, rfl, h4, (Below.heap_setCell w ⟨pb, po, none⟩ _ g hg).trans h5, h6, h7, h8, h9⟩⟩, h2, h3⟩
end

/-- The maze while it is made: t tasks are there. -/
structure MS (B : Nat) (w : World) (S gm gd : Nat) (W H L : Int) (n tF tT : Nat) (vF vU vT : Value) (fs ts : List Value) : Prop where
 hB : B ≤ w.heap.size
 hS : S ≤ w.heap.size
 mz : Blk w gm 31 #[.int .i64 W, .int .i64 H, .int .i64 L, vF, vU, vT]
 gm0 : B ≤ gm
 dr : DrawAt B w gd
 F : w.ownsRow B 28 1 vF tF fs
 T : w.ownsRow B 75 3 vT tT ts
 fd : ∀ j, j < tF → ∃ u, fs[j]? = some u ∧ BoolD w B S n u
 td : ∀ j, j < tT → ∃ s u1 u2, ts[j * 3]? = some (.string s) ∧ ts[j * 3 + 1]? = some u1 ∧ ts[j * 3 + 2]? = some u2 ∧ TaskD w B S n u1 u2
section
variable {B : Nat} {w w' : World} {S S' gm gd : Nat} {W H L : Int} {n tF tT : Nat} {vF vU vU' vT : Value} {fs ts : List Value}
/-- Other blocks changed. -/
theorem MS.keep (h : MS B w S gm gd W H L n tF tT vF vU vT fs ts) (hsz : w.heap.size ≤ w'.heap.size) (hm : w'.heap[gm]? = w.heap[gm]?) (hd : DrawAt B w' gd)
  (hk : ∀ g ty cs, g < w.heap.size → Blk w g ty cs → ty = 28 ∨ ty = 75 → g ∉ ([] : List Nat) → w'.heap[g]? = w.heap[g]?) (hk2 : ∀ g ty cs, g < S → Blk w g ty cs → ty = 4 ∨ ty = 3 → w'.heap[g]? = w.heap[g]?) (hS : S ≤ S') (hS' : S' ≤ w'.heap.size) :
  MS B w' S' gm gd W H L n tF tT vF vU vT fs ts := by
 refine ⟨Nat.le_trans h.hB hsz, hS', hm.trans h.mz, h.gm0, hd, ?_, ?_, fun j hj => ?_, fun j hj => ?_⟩
 ·obtain ⟨hl, h0 | ⟨g, cap, cur, rfl, h4, h5, h6⟩⟩ := h.F
  ·exact ⟨hl, .inl h0⟩
  ·exact ⟨hl, .inr ⟨g, cap, cur, rfl, h4, (hk g _ cur (lt_of_some h5) h5 (.inl rfl) (by simp)).trans h5, h6⟩⟩
 ·obtain ⟨hl, h0 | ⟨g, cap, cur, rfl, h4, h5, h6⟩⟩ := h.T
  ·exact ⟨hl, .inl h0⟩
  ·exact ⟨hl, .inr ⟨g, cap, cur, rfl, h4, (hk g _ cur (lt_of_some h5) h5 (.inr rfl) (by simp)).trans h5, h6⟩⟩
 ·obtain ⟨u, h1, h2⟩ := h.fd j hj
  exact ⟨u, h1, h2.keep (fun g cs hg hb => hk2 g _ cs hg hb (.inl rfl)) hS⟩
 ·obtain ⟨s, u1, u2, h1, h2, h3, h4⟩ := h.td j hj
  exact ⟨s, u1, u2, h1, h2, h3, h4.keep (fun g cs hg hb => hk2 g _ cs hg hb (.inr rfl)) hS⟩
theorem MS.ext (h : MS B w S gm gd W H L n tF tT vF vU vT fs ts) (hE : Ext w w') : MS B w' w'.heap.size gm gd W H L n tF tT vF vU vT fs ts :=
 h.keep hE.size (hE.block gm (lt_of_some h.mz)) (h.dr.ext hE h.hB) (fun g _ _ hg _ _ _ => hE.block g hg) (fun g _ _ hg _ _ => hE.block g (Nat.lt_of_lt_of_le hg h.hS)) (Nat.le_trans h.hS hE.size) (Nat.le_refl _)
theorem MS.extS (h : MS B w S gm gd W H L n tF tT vF vU vT fs ts) (hE : Ext w w') : MS B w' S gm gd W H L n tF tT vF vU vT fs ts :=
 h.keep hE.size (hE.block gm (lt_of_some h.mz)) (h.dr.ext hE h.hB) (fun g _ _ hg _ _ _ => hE.block g hg) (fun g _ _ hg _ _ => hE.block g (Nat.lt_of_lt_of_le hg h.hS)) (Nat.le_refl _) (Nat.le_trans h.hS hE.size)
/-- A number drawn. -/
theorem MS.drawn (h : MS B w S gm gd W H L n tF tT vF vU vT fs ts) (hd : DrawAt B w' gd) (hg : w.grownBy w' (some gd)) : MS B w' S gm gd W H L n tF tT vF vU vT fs ts := by
 obtain ⟨cs, hb⟩ := h.dr.blk
 have hne : ∀ g ty cs', Blk w g ty cs' → ty ≠ 104 → w'.heap[g]? = w.heap[g]? := fun g ty cs' hb' hty => hg.block g (lt_of_some hb') (fun e => by
  injection e with e
  exact Blk.ne_ hb' hb hty e)
 refine h.keep hg.size (hne gm _ _ h.mz (by decide)) hd (fun g ty cs' _ hb' ht _ => hne g ty cs' hb' (by rcases ht with rfl | rfl <;> decide)) (fun g ty cs' _ hb' ht => hne g ty cs' hb' (by rcases ht with rfl | rfl <;> decide)) (Nat.le_refl _) (Nat.le_trans h.hS hg.size)
/-- A boolean stored into one of the rows. -/
theorem MS.store (h : MS B w S gm gd W H L n tF tT vF vU vT fs ts) {g k : Nat} {cs : Array Value} (hb : Blk w g 4 cs) (hgB : B ≤ g) (b : Bool) : MS B (w.setCell ⟨g, k, none⟩ (.bool b)) S gm gd W H L n tF tT vF vU vT fs ts := by
 have hne : ∀ g' ty cs', Blk w g' ty cs' → ty ≠ 4 → (w.setCell ⟨g, k, none⟩ (.bool b)).heap[g']? = w.heap[g']? := fun g' ty cs' hb' hty => Below.heap_setCell w ⟨g, k, none⟩ _ g' (Blk.ne_ hb' hb hty)
 have hsz : (w.setCell ⟨g, k, none⟩ (.bool b)).heap.size = w.heap.size := by simp [World.setCell]
 refine ⟨by rw [hsz]; exact h.hB, by rw [hsz]; exact h.hS, (hne gm _ _ h.mz (by decide)).trans h.mz, h.gm0, ?_, ?_, ?_, fun j hj => ?_, fun j hj => ?_⟩
 ·obtain ⟨cs', hb'⟩ := h.dr.blk
  obtain ⟨h0, v, k', l, h1, h2, h3⟩ := h.dr
  refine ⟨h0, v, k', l, (hne gd _ _ hb' (by decide)).trans h1, ?_, h3⟩
  exact h2.keep fun b' hb'' hlt => Below.heap_setCell w ⟨g, k, none⟩ _ b' (by
   show b' ≠ g
   omega)
 ·exact own_keep h.F fun g' hg' => by
   obtain ⟨hl, ⟨rfl, _⟩ | ⟨g2, cap, cur, rfl, h4, h5, h6⟩⟩ := h.F
   ·cases hg'
   ·have : g2 = g' := by simpa [Value.ownBlock] using hg'
    subst this
    exact hne g2 _ _ h5 (by decide)
 ·exact own_keep h.T fun g' hg' => by
   obtain ⟨hl, ⟨rfl, _⟩ | ⟨g2, cap, cur, rfl, h4, h5, h6⟩⟩ := h.T
   ·cases hg'
   ·have : g2 = g' := by simpa [Value.ownBlock] using hg'
    subst this
    exact hne g2 _ _ h5 (by decide)
 ·obtain ⟨u, h1, h2⟩ := h.fd j hj
  exact ⟨u, h1, h2.store _ rfl b⟩
 ·obtain ⟨s, u1, u2, h1, h2, h3, h4⟩ := h.td j hj
  exact ⟨s, u1, u2, h1, h2, h3, h4.keep (fun g' cs' _ hb' => hne g' _ cs' hb' (by decide)) (Nat.le_refl _)⟩
/-- A task appended. -/
theorem MS.addT (h : MS B w S gm gd W H L n tF tT vF vU vT fs ts) {s : ByteArray} {u1 u2 vT' : Value} {w5 : World} {o : Obj} (hd : TaskD w B S n u1 u2) (ho : w5.ownsRow B 75 3 vT' (tT + 1) (ts ++ [.string s, u1, u2])) (hg : (w.alloc o).grownBy w5 vT.ownBlock) :
  MS B (w5.setCell ⟨gm, 5, none⟩ vT') S gm gd W H L n tF (tT + 1) vF vU vT' fs (ts ++ [.string s, u1, u2]) ∧
   (∀ g ty cs, Blk w g ty cs → ty ≠ 75 → ty ≠ 31 → (w5.setCell ⟨gm, 5, none⟩ vT').heap[g]? = w.heap[g]?) ∧ Below B w (w5.setCell ⟨gm, 5, none⟩ vT') := by
 have h1 : ∀ g ty cs, Blk w g ty cs → ty ≠ 75 → w5.heap[g]? = w.heap[g]? := fun g ty cs hb hty => (hg.block g (by have := lt_of_some hb; simp; omega) (fun e => own_blk_ne h.T hb (Ne.symm hty) e.symm)).trans (Below.heap_alloc _ _ _ (lt_of_some hb))
 have hm5 : Blk w5 gm 31 #[.int .i64 W, .int .i64 H, .int .i64 L, vF, vU, vT] := (h1 gm _ _ h.mz (by decide)).trans h.mz
 have h2 : ∀ g ty cs, Blk w g ty cs → ty ≠ 75 → ty ≠ 31 → (w5.setCell ⟨gm, 5, none⟩ vT').heap[g]? = w.heap[g]? := fun g ty cs hb hty hty2 => (Below.heap_setCell w5 ⟨gm, 5, none⟩ _ g (Blk.ne_ hb h.mz hty2)).trans (h1 g ty cs hb hty)
 have hsz : w.heap.size ≤ (w5.setCell ⟨gm, 5, none⟩ vT').heap.size := by have := hg.size; simp [World.setCell] at this ⊢; omega
 have hbel : Below B w (w5.setCell ⟨gm, 5, none⟩ vT') := by
  have h3 : Below B w (w.alloc o) := (Below.refl B w).alloc h.hB _
  have h4 : Below B w w5 := h3.grown hg (by simp; have := h.hB; omega) (fun k hk => (h.T.lt k hk).1)
  exact h4.setCell (p := ⟨gm, 5, none⟩) h.gm0 _
 refine ⟨⟨Nat.le_trans h.hB hsz, Nat.le_trans h.hS hsz, hm5.set (k := 5) vT', h.gm0, ?_, ?_, ?_, fun j hj => ?_, fun j hj => ?_⟩, h2, hbel⟩
 ·obtain ⟨cs, hb⟩ := h.dr.blk
  exact h.dr.keep hbel (h2 gd _ _ hb (by decide) (by decide))
 ·exact own_keep h.F fun g hg' => by
   obtain ⟨hl, ⟨e, _⟩ | ⟨g2, cap, cur, e, h4, h5, h6⟩⟩ := h.F
   ·rw [e] at hg'; cases hg'
   ·rw [e] at hg'
    have : g2 = g := by simpa [Value.ownBlock] using hg'
    subst this
    exact h2 g2 _ _ h5 (by decide) (by decide)
 ·exact own_keep ho fun g hg' => Below.heap_setCell w5 ⟨gm, 5, none⟩ _ g (fun e => by
   have e' : g = gm := e
   subst e'
   exact own_blk_ne ho hm5 (by decide) hg')
 ·obtain ⟨u, h3, h4⟩ := h.fd j hj
  exact ⟨u, h3, h4.keep (fun g cs _ hb => h2 g _ cs hb (by decide) (by decide)) (Nat.le_refl _)⟩
 ·have hlen : ts.length = tT * 3 := h.T.1
  have hkp : ∀ {a b : Value}, TaskD w B S n a b → TaskD (w5.setCell ⟨gm, 5, none⟩ vT') B S n a b := fun hh => hh.keep (fun g cs _ hb => h2 g _ cs hb (by decide) (by decide)) (Nat.le_refl _)
  rcases Nat.lt_or_ge j tT with hj2 | hj2
  ·obtain ⟨s', a, b, h3, h4, h5, h6⟩ := h.td j hj2
   exact ⟨s', a, b, by rw [List.getElem?_append_left (by omega)]; exact h3, by rw [List.getElem?_append_left (by omega)]; exact h4, by rw [List.getElem?_append_left (by omega)]; exact h5, hkp h6⟩
  ·have hjt : j = tT := by omega
   subst hjt
   refine ⟨s, u1, u2, ?_, ?_, ?_, hkp hd⟩
   ·rw [List.getElem?_append_right (by omega), show j * 3 - ts.length = 0 from by omega]; rfl
   ·rw [List.getElem?_append_right (by omega), show j * 3 + 1 - ts.length = 1 from by omega]; rfl
   ·rw [List.getElem?_append_right (by omega), show j * 3 + 2 - ts.length = 2 from by omega]; rfl
/-- A row of free nodes appended. -/
theorem MS.addF (h : MS B w S gm gd W H L n tF tT vF vU vT fs ts) {u vF' : Value} {w5 : World} {o : Obj} (hd : BoolD w B S n u) (ho : w5.ownsRow B 28 1 vF' (tF + 1) (fs ++ [u])) (hg : (w.alloc o).grownBy w5 vF.ownBlock) :
  MS B (w5.setCell ⟨gm, 3, none⟩ vF') S gm gd W H L n (tF + 1) tT vF' vU vT (fs ++ [u]) ts ∧ Below B w (w5.setCell ⟨gm, 3, none⟩ vF') := by
 have h1 : ∀ g ty cs, Blk w g ty cs → ty ≠ 28 → w5.heap[g]? = w.heap[g]? := fun g ty cs hb hty => (hg.block g (by have := lt_of_some hb; simp; omega) (fun e => own_blk_ne h.F hb (Ne.symm hty) e.symm)).trans (Below.heap_alloc _ _ _ (lt_of_some hb))
 have hm5 : Blk w5 gm 31 #[.int .i64 W, .int .i64 H, .int .i64 L, vF, vU, vT] := (h1 gm _ _ h.mz (by decide)).trans h.mz
 have h2 : ∀ g ty cs, Blk w g ty cs → ty ≠ 28 → ty ≠ 31 → (w5.setCell ⟨gm, 3, none⟩ vF').heap[g]? = w.heap[g]? := fun g ty cs hb hty hty2 => (Below.heap_setCell w5 ⟨gm, 3, none⟩ _ g (Blk.ne_ hb h.mz hty2)).trans (h1 g ty cs hb hty)
 have hsz : w.heap.size ≤ (w5.setCell ⟨gm, 3, none⟩ vF').heap.size := by have := hg.size; simp [World.setCell] at this ⊢; omega
 have hbel : Below B w (w5.setCell ⟨gm, 3, none⟩ vF') := by
  have h3 : Below B w (w.alloc o) := (Below.refl B w).alloc h.hB _
  have h4 : Below B w w5 := h3.grown hg (by simp; have := h.hB; omega) (fun k hk => (h.F.lt k hk).1)
  exact h4.setCell (p := ⟨gm, 3, none⟩) h.gm0 _
 refine ⟨⟨Nat.le_trans h.hB hsz, Nat.le_trans h.hS hsz, hm5.set (k := 3) vF', h.gm0, ?_, ?_, ?_, fun j hj => ?_, fun j hj => ?_⟩, hbel⟩
 ·obtain ⟨cs, hb⟩ := h.dr.blk
  exact h.dr.keep hbel (h2 gd _ _ hb (by decide) (by decide))
 ·exact own_keep ho fun g hg' => Below.heap_setCell w5 ⟨gm, 3, none⟩ _ g (fun e => by
   have e' : g = gm := e
   subst e'
   exact own_blk_ne ho hm5 (by decide) hg')
 ·exact own_keep h.T fun g hg' => by
   obtain ⟨hl, ⟨e, _⟩ | ⟨g2, cap, cur, e, h4, h5, h6⟩⟩ := h.T
   ·rw [e] at hg'; cases hg'
   ·rw [e] at hg'
    have : g2 = g := by simpa [Value.ownBlock] using hg'
    subst this
    exact h2 g2 _ _ h5 (by decide) (by decide)
 ·have hlen : fs.length = tF := by have := h.F.1; omega
  have hkp : ∀ {a : Value}, BoolD w B S n a → BoolD (w5.setCell ⟨gm, 3, none⟩ vF') B S n a := fun hh => hh.keep (fun g cs _ hb => h2 g _ cs hb (by decide) (by decide)) (Nat.le_refl _)
  rcases Nat.lt_or_ge j tF with hj2 | hj2
  ·obtain ⟨a, h3, h4⟩ := h.fd j hj2
   exact ⟨a, by rw [List.getElem?_append_left (by omega)]; exact h3, hkp h4⟩
  ·have hjt : j = tF := by omega
   subst hjt
   exact ⟨u, by rw [List.getElem?_append_right (by omega), show j - fs.length = 0 from by omega]; rfl, hkp hd⟩
 ·obtain ⟨s, u1, u2, h3, h4, h5, h6⟩ := h.td j hj
  exact ⟨s, u1, u2, h3, h4, h5, h6.keep (fun g cs _ hb => h2 g _ cs hb (by decide) (by decide)) (Nat.le_refl _)⟩
/-- A boolean appended to the row of vertical ways. -/
theorem MS.addU (h : MS B w S gm gd W H L n tF tT vF vU vT fs ts) {x : Bool} {us : List Bool} {w5 : World} {o : Obj} (hBS : B ≤ S) (hu : OwnB w S vU us) (ho : w5.ownsRow S 4 1 vU' (us.length + 1) (us.map Value.bool ++ [.bool x])) (hg : (w.alloc o).grownBy w5 vU.ownBlock) :
  MS B (w5.setCell ⟨gm, 4, none⟩ vU') S gm gd W H L n tF tT vF vU' vT fs ts ∧ OwnB (w5.setCell ⟨gm, 4, none⟩ vU') S vU' (us ++ [x]) ∧ Below B w (w5.setCell ⟨gm, 4, none⟩ vU') := by
 have h1 : ∀ g ty cs, Blk w g ty cs → ty ≠ 4 ∨ g < S → w5.heap[g]? = w.heap[g]? := fun g ty cs hb hty => (hg.block g (by have := lt_of_some hb; simp; omega) (fun e => by
  rcases hty with hty | hty
  ·exact own_blk_ne hu hb (Ne.symm hty) e.symm
  ·have := (World.ownsRow.lt hu g e.symm).1; omega)).trans (Below.heap_alloc _ _ _ (lt_of_some hb))
 have hm5 : Blk w5 gm 31 #[.int .i64 W, .int .i64 H, .int .i64 L, vF, vU, vT] := (h1 gm _ _ h.mz (.inl (by decide))).trans h.mz
 have h2 : ∀ g ty cs, Blk w g ty cs → ty ≠ 4 ∨ g < S → ty ≠ 31 → (w5.setCell ⟨gm, 4, none⟩ vU').heap[g]? = w.heap[g]? := fun g ty cs hb hty hty2 => (Below.heap_setCell w5 ⟨gm, 4, none⟩ _ g (Blk.ne_ hb h.mz hty2)).trans (h1 g ty cs hb hty)
 have hsz : w.heap.size ≤ (w5.setCell ⟨gm, 4, none⟩ vU').heap.size := by have := hg.size; simp [World.setCell] at this ⊢; omega
 have hbel : Below B w (w5.setCell ⟨gm, 4, none⟩ vU') := by
  have h3 : Below B w (w.alloc o) := (Below.refl B w).alloc h.hB _
  have h4 : Below B w w5 := h3.grown hg (by simp; have := h.hB; omega) (fun k hk => by have := (World.ownsRow.lt hu k hk).1; omega)
  exact h4.setCell (p := ⟨gm, 4, none⟩) h.gm0 _
 have hrow : ∀ {e : TypeId} {sz k : Nat} {v : Value} {xs : List Value}, w.ownsRow B e sz v k xs → e ≠ 4 → e ≠ 31 → (w5.setCell ⟨gm, 4, none⟩ vU').ownsRow B e sz v k xs := fun hr he he2 => own_keep hr fun g hg' => by
  obtain ⟨hl, ⟨e, _⟩ | ⟨g2, cap, cur, e, h4, h5, h6⟩⟩ := hr
  ·rw [e] at hg'; cases hg'
  ·rw [e] at hg'
   have : g2 = g := by simpa [Value.ownBlock] using hg'
   subst this
   exact h2 g2 _ _ h5 (.inl he) he2
 refine ⟨⟨Nat.le_trans h.hB hsz, Nat.le_trans h.hS hsz, hm5.set (k := 4) vU', h.gm0, ?_, hrow h.F (by decide) (by decide), hrow h.T (by decide) (by decide), fun j hj => ?_, fun j hj => ?_⟩, ?_, hbel⟩
 ·obtain ⟨cs, hb⟩ := h.dr.blk
  exact h.dr.keep hbel (h2 gd _ _ hb (.inl (by decide)) (by decide))
 ·obtain ⟨u, h3, h4⟩ := h.fd j hj
  exact ⟨u, h3, h4.keep (fun g cs hgS hb => h2 g _ cs hb (.inr hgS) (by decide)) (Nat.le_refl _)⟩
 ·obtain ⟨s, u1, u2, h3, h4, h5, h6⟩ := h.td j hj
  exact ⟨s, u1, u2, h3, h4, h5, h6.keep (fun g cs _ hb => h2 g _ cs hb (.inl (by decide)) (by decide)) (Nat.le_refl _)⟩
 ·unfold OwnB
  rw [List.length_append, List.length_singleton, List.map_append]
  exact own_keep ho fun g hg' => Below.heap_setCell w5 ⟨gm, 4, none⟩ _ g (fun e => by
   have e' : g = gm := e
   subst e'
   exact own_blk_ne ho hm5 (by decide) hg')
end

/-- What a round has made, ahead of its end: a draw, a task. -/
structure R1 (B : Nat) (w : World) (S ge gt n : Nat) (s : ByteArray) (u1 u2 : Value) (l1 l2 : List Int) : Prop where
 hB : B ≤ S
 hS : S ≤ w.heap.size
 dr : DrawAt B w ge
 hge : S ≤ ge
 tk : Blk w gt 75 #[.string s, u1, u2]
 hgt : S ≤ gt
 o1 : OwnI w S u1 l1
 o2 : OwnI w S u2 l2
 ne : u1.ownBlock = none ∨ u1.ownBlock ≠ u2.ownBlock
 e1 : l1 ≠ []
 e2 : l2 ≠ []
 rg : ∀ x, x ∈ l1 ∨ x ∈ l2 → 0 ≤ x ∧ x < (n : Int)
section
variable {B : Nat} {w w' : World} {S ge gt n : Nat} {s : ByteArray} {u1 u2 : Value} {l1 l2 : List Int}
theorem R1.keep (h : R1 B w S ge gt n s u1 u2 l1 l2) (hE : Below B w w') (hk : ∀ g ty cs, Blk w g ty cs → ty = 104 ∨ ty = 75 ∨ ty = 3 → w'.heap[g]? = w.heap[g]?) : R1 B w' S ge gt n s u1 u2 l1 l2 := by
 obtain ⟨cs, hb⟩ := h.dr.blk
 exact ⟨h.hB, Nat.le_trans h.hS hE.size, h.dr.keep hE (hk ge _ _ hb (.inl rfl)), h.hge, (hk gt _ _ h.tk (.inr (.inl rfl))).trans h.tk, h.hgt, ownI_keepT h.o1 (fun g cs _ hb => hk g _ cs hb (.inr (.inr rfl))), ownI_keepT h.o2 (fun g cs _ hb => hk g _ cs hb (.inr (.inr rfl))), h.ne, h.e1, h.e2, h.rg⟩
theorem R1.ext (h : R1 B w S ge gt n s u1 u2 l1 l2) (hE : Ext w w') : R1 B w' S ge gt n s u1 u2 l1 l2 :=
 h.keep (hE.mono (Nat.le_trans h.hB h.hS)) (fun g _ _ hb _ => hE.block g (lt_of_some hb))
theorem R1.drawn (h : R1 B w S ge gt n s u1 u2 l1 l2) (hd : DrawAt B w' ge) (hg : w.grownBy w' (some ge)) : R1 B w' S ge gt n s u1 u2 l1 l2 := by
 obtain ⟨cs, hb⟩ := h.dr.blk
 have hne : ∀ g ty cs', Blk w g ty cs' → ty ≠ 104 → w'.heap[g]? = w.heap[g]? := fun g ty cs' hb' hty => hg.block g (lt_of_some hb') (fun e => by
  injection e with e
  exact Blk.ne_ hb' hb hty e)
 exact ⟨h.hB, Nat.le_trans h.hS hg.size, hd, h.hge, (hne gt _ _ h.tk (by decide)).trans h.tk, h.hgt, ownI_keepT h.o1 (fun g cs _ hb => hne g _ cs hb (by decide)), ownI_keepT h.o2 (fun g cs _ hb => hne g _ cs hb (by decide)), h.ne, h.e1, h.e2, h.rg⟩
theorem R1.drawnExt {wR : World} (h : R1 B w wR.heap.size ge gt n s u1 u2 l1 l2) (hE : Ext wR w) (hg : w.grownBy w' (some ge)) : Ext wR w' :=
 Below.grown hE hg hE.size (fun k hk => by injection hk with hk; have := h.hge; omega)
/-- A node appended to the first list. -/
theorem R1.add1 (h : R1 B w S ge gt n s u1 u2 l1 l2) {u1' : Value} {x : Int} {w5 : World} {o : Obj} (hx : 0 ≤ x ∧ x < (n : Int)) (ho : w5.ownsRow S 3 1 u1' (l1.length + 1) (l1.map (Value.int .i64) ++ [.int .i64 x])) (hg : (w.alloc o).grownBy w5 u1.ownBlock)
  (hv : u1'.ownBlock = u1.ownBlock ∨ u1'.ownBlock = some (w.heap.size + 1)) : R1 B (w5.setCell ⟨gt, 1, none⟩ u1') S ge gt n s u1' u2 (l1 ++ [x]) l2 ∧ Below S w (w5.setCell ⟨gt, 1, none⟩ u1') := by
 obtain ⟨cs, hb⟩ := h.dr.blk
 have h1 : ∀ g ty cs, Blk w g ty cs → u1.ownBlock ≠ some g → w5.heap[g]? = w.heap[g]? := fun g ty cs hb hne => (hg.block g (by have := lt_of_some hb; simp; omega) (fun e => hne e.symm)).trans (Below.heap_alloc _ _ _ (lt_of_some hb))
 have ht5 : Blk w5 gt 75 #[.string s, u1, u2] := (h1 gt _ _ h.tk (own_blk_ne h.o1 h.tk (by decide))).trans h.tk
 have h2 : ∀ g ty cs, Blk w g ty cs → u1.ownBlock ≠ some g → ty ≠ 75 → (w5.setCell ⟨gt, 1, none⟩ u1').heap[g]? = w.heap[g]? := fun g ty cs hb hne hty => (Below.heap_setCell w5 ⟨gt, 1, none⟩ _ g (Blk.ne_ hb h.tk hty)).trans (h1 g ty cs hb hne)
 have hsz : w.heap.size ≤ (w5.setCell ⟨gt, 1, none⟩ u1').heap.size := by have := hg.size; simp [World.setCell] at this ⊢; omega
 have hbel : Below S w (w5.setCell ⟨gt, 1, none⟩ u1') := by
  have h3 : Below S w (w.alloc o) := (Below.refl S w).alloc h.hS _
  have h4 : Below S w w5 := h3.grown hg (by simp; have := h.hS; omega) (fun k hk => (World.ownsRow.lt h.o1 k hk).1)
  exact h4.setCell (p := ⟨gt, 1, none⟩) h.hgt _
 refine ⟨⟨h.hB, Nat.le_trans h.hS hsz, h.dr.keep (hbel.mono h.hB) (h2 ge _ _ hb (own_blk_ne h.o1 hb (by decide)) (by decide)), h.hge, ht5.set (k := 1) u1', h.hgt, ?_, ?_, ?_, by simp, h.e2, ?_⟩, hbel⟩
 ·show World.ownsRow _ _ _ _ _ (l1 ++ [x]).length _
  rw [List.length_append, List.length_singleton, List.map_append]
  exact own_keep ho fun g hg' => Below.heap_setCell w5 ⟨gt, 1, none⟩ _ g (fun e => by
   have e' : g = gt := e
   subst e'
   exact own_blk_ne ho ht5 (by decide) hg')
 ·exact ownI_keepT h.o2 (fun g cs hg' hb' => h2 g _ cs hb' (fun e => by
   rcases h.ne with hn | hn
   ·rw [hn] at e; cases e
   ·exact hn (e.trans hg'.symm)) (by decide))
 ·right
  rcases hv with hv | hv
  ·rw [hv]
   rcases h.ne with hn | hn
   ·rw [hn] at hv
    obtain ⟨g, c, e, _, _⟩ := World.ownsRow.form ho (by omega)
    rw [e] at hv
    cases hv
   ·exact hn
  ·rw [hv]
   intro e
   have := (World.ownsRow.lt h.o2 _ e.symm).2
   omega
 ·intro y hy
  rcases hy with hy | hy
  ·rcases List.mem_append.1 hy with hy | hy
   ·exact h.rg y (.inl hy)
   ·rw [List.mem_singleton] at hy; rw [hy]; exact hx
  ·exact h.rg y (.inr hy)
theorem R1.add2 (h : R1 B w S ge gt n s u1 u2 l1 l2) {u2' : Value} {x : Int} {w5 : World} {o : Obj} (hx : 0 ≤ x ∧ x < (n : Int)) (ho : w5.ownsRow S 3 1 u2' (l2.length + 1) (l2.map (Value.int .i64) ++ [.int .i64 x])) (hg : (w.alloc o).grownBy w5 u2.ownBlock)
  (hv : u2'.ownBlock = u2.ownBlock ∨ u2'.ownBlock = some (w.heap.size + 1)) : R1 B (w5.setCell ⟨gt, 2, none⟩ u2') S ge gt n s u1 u2' l1 (l2 ++ [x]) ∧ Below S w (w5.setCell ⟨gt, 2, none⟩ u2') := by
 obtain ⟨cs, hb⟩ := h.dr.blk
 have h1 : ∀ g ty cs, Blk w g ty cs → u2.ownBlock ≠ some g → w5.heap[g]? = w.heap[g]? := fun g ty cs hb hne => (hg.block g (by have := lt_of_some hb; simp; omega) (fun e => hne e.symm)).trans (Below.heap_alloc _ _ _ (lt_of_some hb))
 have ht5 : Blk w5 gt 75 #[.string s, u1, u2] := (h1 gt _ _ h.tk (own_blk_ne h.o2 h.tk (by decide))).trans h.tk
 have h2 : ∀ g ty cs, Blk w g ty cs → u2.ownBlock ≠ some g → ty ≠ 75 → (w5.setCell ⟨gt, 2, none⟩ u2').heap[g]? = w.heap[g]? := fun g ty cs hb hne hty => (Below.heap_setCell w5 ⟨gt, 2, none⟩ _ g (Blk.ne_ hb h.tk hty)).trans (h1 g ty cs hb hne)
 have hsz : w.heap.size ≤ (w5.setCell ⟨gt, 2, none⟩ u2').heap.size := by have := hg.size; simp [World.setCell] at this ⊢; omega
 have hbel : Below S w (w5.setCell ⟨gt, 2, none⟩ u2') := by
  have h3 : Below S w (w.alloc o) := (Below.refl S w).alloc h.hS _
  have h4 : Below S w w5 := h3.grown hg (by simp; have := h.hS; omega) (fun k hk => (World.ownsRow.lt h.o2 k hk).1)
  exact h4.setCell (p := ⟨gt, 2, none⟩) h.hgt _
 refine ⟨⟨h.hB, Nat.le_trans h.hS hsz, h.dr.keep (hbel.mono h.hB) (h2 ge _ _ hb (own_blk_ne h.o2 hb (by decide)) (by decide)), h.hge, ht5.set (k := 2) u2', h.hgt, ?_, ?_, ?_, h.e1, by simp, ?_⟩, hbel⟩
 ·exact ownI_keepT h.o1 (fun g cs hg' hb' => h2 g _ cs hb' (fun e => by
   rcases h.ne with hn | hn
   ·rw [hn] at hg'; cases hg'
   ·exact hn (hg'.trans e.symm)) (by decide))
 ·show World.ownsRow _ _ _ _ _ (l2 ++ [x]).length _
  rw [List.length_append, List.length_singleton, List.map_append]
  exact own_keep ho fun g hg' => Below.heap_setCell w5 ⟨gt, 2, none⟩ _ g (fun e => by
   have e' : g = gt := e
   subst e'
   exact own_blk_ne ho ht5 (by decide) hg')
 ·rcases hv with hv | hv
  ·rw [hv]; exact h.ne
  ·by_cases h0 : u1.ownBlock = none
   ·exact .inl h0
   ·right
    rw [hv]
    intro e
    have := (World.ownsRow.lt h.o1 _ e).2
    omega
 ·intro y hy
  rcases hy with hy | hy
  ·exact h.rg y (.inl hy)
  ·rcases List.mem_append.1 hy with hy | hy
   ·exact h.rg y (.inr hy)
   ·rw [List.mem_singleton] at hy; rw [hy]; exact hx
theorem R1.taskD (h : R1 B w S ge gt n s u1 u2 l1 l2) (k1 : l1.length ≤ 2) (k2 : l2.length ≤ 2) : TaskD w B w.heap.size n u1 u2 :=
 ⟨l1, l2, World.ownsRow.mono h.o1 h.hB, World.ownsRow.mono h.o2 h.hB, ⟨h.e1, h.e2⟩, ⟨k1, k2⟩, h.rg, fun g hg => by
  rcases hg with hg | hg
  ·exact (World.ownsRow.lt h.o1 g hg).2
  ·exact (World.ownsRow.lt h.o2 g hg).2⟩
end
/-- A row of booleans grows. -/
theorem OwnB.app {w5 : World} {S : Nat} {v' : Value} {l : List Bool} {x : Bool} (ho : w5.ownsRow S 4 1 v' (l.length + 1) (l.map Value.bool ++ [.bool x])) : OwnB w5 S v' (l ++ [x]) := by
 unfold OwnB
 rw [List.length_append, List.length_singleton, List.map_append]
 exact ho
theorem R1.grownB {B : Nat} {w w5 : World} {S S2 ge gt n : Nat} {s : ByteArray} {u1 u2 v : Value} {l1 l2 : List Int} {l : List Bool} {o : Obj} (h : R1 B w S ge gt n s u1 u2 l1 l2) (hv : OwnB w S2 v l) (hS : S ≤ S2) (hg : (w.alloc o).grownBy w5 v.ownBlock) : R1 B w5 S ge gt n s u1 u2 l1 l2 ∧ Below S w w5 := by
 have hbel : Below S w w5 := by
  have h3 : Below S w (w.alloc o) := (Below.refl S w).alloc h.hS _
  exact h3.grown hg (by simp; have := h.hS; omega) (fun k hk => Nat.le_trans hS (World.ownsRow.lt hv k hk).1)
 refine ⟨h.keep (hbel.mono h.hB) fun g ty cs hb hty => ?_, hbel⟩
 exact (hg.block g (by have := lt_of_some hb; simp; omega) (fun e => own_blk_ne hv hb (by rcases hty with rfl | rfl | rfl <;> decide) e.symm)).trans (Below.heap_alloc _ _ _ (lt_of_some hb))
theorem cells3n (w : World) (a b c : Value) (t : TypeId) : ∀ j u, [a, b, c][j]? = some u → (w.alloc (.cells #[a, b, c] t)).cell? ((⟨w.heap.size, 0, none⟩ : Addr).add j) = some u := by
 intro j u hj
 have hb : Blk (w.alloc (.cells #[a, b, c] t)) w.heap.size t #[a, b, c] := Blk.new _ _ _ rfl
 match j, hj with
 | 0, hj => exact hb.cell (k := 0) hj
 | 1, hj => exact hb.cell (k := 1) hj
 | 2, hj => exact hb.cell (k := 2) hj
section
variable {B : Nat} {w : World} {S S2 gm gd ge gt : Nat} {W H L : Int} {n t : Nat} {vF vU vT vf : Value} {fs ts : List Value} {s : ByteArray} {u1 u2 : Value} {l1 l2 : List Int} {lf : List Bool}
theorem MS.end1 (h : MS B w w.heap.size gm gd W H L n t t vF vU vT fs ts) (hr : R1 B w S ge gt n s u1 u2 l1 l2) (k1 : l1.length ≤ 2) (k2 : l2.length ≤ 2) (hO : OwnB w S2 vf lf) {vT' : Value} {w9 : World} {o : Obj} (ho : w9.ownsRow B 75 3 vT' (t + 1) (ts ++ [.string s, u1, u2])) (hg : (w.alloc o).grownBy w9 vT.ownBlock) :
  MS B (w9.setCell ⟨gm, 5, none⟩ vT') w.heap.size gm gd W H L n t (t + 1) vF vU vT' fs (ts ++ [.string s, u1, u2]) ∧ OwnB (w9.setCell ⟨gm, 5, none⟩ vT') S2 vf lf ∧ Below B w (w9.setCell ⟨gm, 5, none⟩ vT') := by
 obtain ⟨h1, h2, h3⟩ := h.addT (hr.taskD k1 k2) ho hg
 refine ⟨h1, own_keep hO fun g hg' => ?_, h3⟩
 obtain ⟨hl, ⟨e, _⟩ | ⟨g2, cap, cur, e, h4, h5, h6⟩⟩ := hO
 ·rw [e] at hg'; cases hg'
 ·rw [e] at hg'
  have : g2 = g := by simpa [Value.ownBlock] using hg'
  subst this
  exact h2 g2 _ _ h5 (by decide) (by decide)
theorem MS.end2 (h : MS B w S gm gd W H L n t (t + 1) vF vU vT fs ts) (hO : OwnB w S2 vf lf) (hlen : lf.length = n) (hB2 : B ≤ S2) (hlt : ∀ g, vf.ownBlock = some g → g < S) {vF' : Value} {w9 : World} {o : Obj} (ho : w9.ownsRow B 28 1 vF' (t + 1) (fs ++ [vf])) (hg : (w.alloc o).grownBy w9 vF.ownBlock) :
  MS B (w9.setCell ⟨gm, 3, none⟩ vF') (w9.setCell ⟨gm, 3, none⟩ vF').heap.size gm gd W H L n (t + 1) (t + 1) vF' vU vT (fs ++ [vf]) ts ∧ Below B w (w9.setCell ⟨gm, 3, none⟩ vF') := by
 obtain ⟨h1, h2⟩ := h.addF ⟨lf, World.ownsRow.mono hO hB2, hlen, hlt⟩ ho hg
 exact ⟨h1.ext (Ext.refl _), h2⟩
theorem MS.c5 (h : MS B w S gm gd W H L n t (t + 1) vF vU vT fs ts) : w.cell? ⟨gm, 3, none⟩ = some vF := h.mz.cell (k := 3) rfl
end
theorem hasB {w : World} {B : Nat} {u : Value} {l : List Int} (k : Int) (o : OwnI w B u l) (hl : l.length ≤ 1000) : ∃ b, ∀ W, Ext w W → Calls Try.prog 36 #[u, .int .i64 k] W fun e w' => e = .returned (.bool b) ∧ W = w' :=
 ⟨_, fun W hE => has_calls k W (Ints.below (Row.of_own o) hE) (by omega)⟩
theorem own_blkB {w : World} {B n g c : Nat} {e : TypeId} {sz : Nat} {xs : List Value} (h : w.ownsRow B e sz (.slice (some ⟨g, 0, none⟩) n c) n xs) : ∃ cs, Blk w g e cs := by
 obtain ⟨_, ⟨e, _⟩ | ⟨g2, cap, cur, e, _, h5, _⟩⟩ := h
 ·cases e
 ·injection e with e _ _
  injection e with e
  injection e with e
  subst e
  exact ⟨cur, h5⟩
theorem MS.stored {B : Nat} {w1 w : World} {S gm gd g k : Nat} {W H L : Int} {n tF tT : Nat} {vF vU vT : Value} {fs ts : List Value} (h : MS B w S gm gd W H L n tF tT vF vU vT fs ts) (hE : Ext w1 w) (hB : B = w1.heap.size) (hb : ∃ cs, Blk w g 4 cs) (hg : B ≤ g) (b : Bool) :
  MS B (w.drew.setCell ⟨g, k, none⟩ (.bool b)) (w.drew.setCell ⟨g, k, none⟩ (.bool b)).heap.size gm gd W H L n tF tT vF vU vT fs ts ∧ Ext w1 (w.drew.setCell ⟨g, k, none⟩ (.bool b)) := by
 obtain ⟨cs, hb⟩ := hb
 have h1 := h.extS ((Ext.refl w).drew)
 have hb1 : Blk w.drew g 4 cs := hb
 have h2 := h1.store (k := k) hb1 hg b
 exact ⟨h2.ext (Ext.refl _), hE.drew.setCell (p := ⟨g, k, none⟩) (by show w1.heap.size ≤ g; omega) _⟩
end Go.Proofs.Ytgpjfpcjiebjiaa

namespace Go.Proofs.Ytgpjfpcjiebjiaa
open Go.RowKit
set_option linter.unusedVariables false
set_option linter.unusedSimpArgs false

structure J6 (B : Nat) (w0 : World) (ge n t : Nat) (e : Nat → Bool) (v : Nat → Value) (W : World) : Prop where
 gb : w0.grownBy W (some ge)
 dr : DrawAt B W ge
 v0 : e 0 = true → ∃ g a b c, v 0 = .slice (some ⟨g, 0, none⟩) 3 3 ∧ w0.heap.size ≤ g ∧ Blk W g 9 #[.string a, .string b, .string c]
 v1 : e 1 = true → v 1 = .int .i64 (t : Int)
 v2 : e 2 = true → ∃ g a b c, v 2 = .pointer (some ⟨g, t, none⟩) ∧ w0.heap.size ≤ g ∧ Blk W g 9 #[.string a, .string b, .string c]
 v3 : e 3 = true → ∃ s, v 3 = .string s
 v4 : e 4 = true → v 4 = .pointer (some ⟨ge, 0, none⟩)
 v5 : e 5 = true → v 5 = .int .i64 (n : Int)
 v6 : e 6 = true → ∃ x, v 6 = .int .i64 x ∧ 0 ≤ x ∧ x < (n : Int)
 v7 : e 7 = true → ∃ g x, v 7 = .slice (some ⟨g, 0, none⟩) 1 1 ∧ w0.heap.size ≤ g ∧ Blk W g 3 #[.int .i64 x] ∧ 0 ≤ x ∧ x < (n : Int)
 v8 : e 8 = true → v 8 = .pointer (some ⟨ge, 0, none⟩)
 v9 : e 9 = true → v 9 = .int .i64 (n : Int)
 v10 : e 10 = true → ∃ x, v 10 = .int .i64 x ∧ 0 ≤ x ∧ x < (n : Int)
 v11 : e 11 = true → ∃ g x, v 11 = .slice (some ⟨g, 0, none⟩) 1 1 ∧ w0.heap.size ≤ g ∧ Blk W g 3 #[.int .i64 x] ∧ 0 ≤ x ∧ x < (n : Int)
 ne : e 7 = true → e 11 = true → (v 7).ownBlock ≠ (v 11).ownBlock
 v12 : e 12 = true → v 12 = .agg #[v 3, v 7, v 11] ∧ e 3 = true ∧ e 7 = true ∧ e 11 = true
 v13 : e 13 = true → ∃ g, v 13 = .pointer (some ⟨g, 0, none⟩) ∧ w0.heap.size ≤ g ∧ (e 14 = false → Blk W g 75 #[.string ⟨#[]⟩, .slice none 0 0, .slice none 0 0]) ∧ (e 14 = true → Blk W g 75 #[v 3, v 7, v 11])
 d14 : e 14 = true → e 12 = true ∧ e 13 = true
section
variable {B : Nat} {w0 W W' : World} {ge n t : Nat} {e : Nat → Bool} {v : Nat → Value}
theorem J6.init (hd : DrawAt B w0 ge) (he : ∀ j ∈ [0, 1, 2, 3, 4, 5, 6, 7, 8, 9, 10, 11, 12, 13, 14], e j = false) : J6 B w0 ge n t e v w0.drew :=
 ⟨⟨rfl, rfl, rfl, Nat.le_refl _, fun _ _ _ => rfl⟩, hd, fun a => ff (he 0 (by simp)) a, fun a => ff (he 1 (by simp)) a, fun a => ff (he 2 (by simp)) a, fun a => ff (he 3 (by simp)) a, fun a => ff (he 4 (by simp)) a, fun a => ff (he 5 (by simp)) a, fun a => ff (he 6 (by simp)) a, fun a => ff (he 7 (by simp)) a, fun a => ff (he 8 (by simp)) a, fun a => ff (he 9 (by simp)) a, fun a => ff (he 10 (by simp)) a, fun a => ff (he 11 (by simp)) a, fun a => ff (he 7 (by simp)) a, fun a => ff (he 12 (by simp)) a, fun a => ff (he 13 (by simp)) a, fun a => ff (he 14 (by simp)) a⟩
theorem J6.move (h : J6 B w0 ge n t e v W) (gb : W.grownBy W' (some ge)) (dr : DrawAt B W' ge) (hk : ∀ g ty cs, w0.heap.size ≤ g → Blk W g ty cs → Blk W' g ty cs) : J6 B w0 ge n t e v W' :=
 ⟨h.gb.trans gb, dr, fun a => let ⟨g, x, y, z, h1, h2, h3⟩ := h.v0 a; ⟨g, x, y, z, h1, h2, hk _ _ _ h2 h3⟩, h.v1, fun a => let ⟨g, x, y, z, h1, h2, h3⟩ := h.v2 a; ⟨g, x, y, z, h1, h2, hk _ _ _ h2 h3⟩, h.v3, h.v4, h.v5, h.v6,
  fun a => let ⟨g, x, h1, h2, h3, h4⟩ := h.v7 a; ⟨g, x, h1, h2, hk _ _ _ h2 h3, h4⟩, h.v8, h.v9, h.v10, fun a => let ⟨g, x, h1, h2, h3, h4⟩ := h.v11 a; ⟨g, x, h1, h2, hk _ _ _ h2 h3, h4⟩, h.ne, h.v12,
  fun a => let ⟨g, h1, h2, h3, h4⟩ := h.v13 a; ⟨g, h1, h2, fun b => hk _ _ _ h2 (h3 b), fun b => hk _ _ _ h2 (h4 b)⟩, h.d14⟩
theorem J6.hge (h : J6 B w0 ge n t e v W) (hl : ge < w0.heap.size) : w0.heap.size ≤ W.heap.size := h.gb.size
theorem J6.alloc (h : J6 B w0 ge n t e v W) (hB : B ≤ w0.heap.size) (o : Obj) : J6 B w0 ge n t e v (W.alloc o) :=
 h.move ⟨rfl, rfl, rfl, by simp, fun i hi _ => Below.heap_alloc _ _ _ hi⟩ (h.dr.ext ((Ext.refl _).alloc _) (Nat.le_trans hB h.gb.size)) (fun g ty cs _ hb => hb.alloc o)
theorem J6.call (h : J6 B w0 ge n t e v W) (hl : ge < w0.heap.size) (gb : W.grownBy W' (some ge)) (dr : DrawAt B W' ge) : J6 B w0 ge n t e v W' :=
 h.move gb dr (fun g ty cs hg hb => (gb.block g (lt_of_some hb) (fun e => by injection e with e; omega)).trans hb)
theorem J6.n12 (h : J6 B w0 ge n t e v W) (h12 : e 12 = false) : e 14 = false := notT (fun a => (h.d14 a).1) h12
theorem J6.n13 (h : J6 B w0 ge n t e v W) (h13 : e 13 = false) : e 14 = false := notT (fun a => (h.d14 a).2) h13
theorem J6.n3 (h : J6 B w0 ge n t e v W) (h3 : e 3 = false) : e 12 = false := notT (fun a => (h.v12 a).2.1) h3
theorem J6.n7 (h : J6 B w0 ge n t e v W) (h3 : e 7 = false) : e 12 = false := notT (fun a => (h.v12 a).2.2.1) h3
theorem J6.n11 (h : J6 B w0 ge n t e v W) (h3 : e 11 = false) : e 12 = false := notT (fun a => (h.v12 a).2.2.2) h3
theorem J6.s0 (h : J6 B w0 ge n t e v W) (hB : B ≤ w0.heap.size) (a b c : ByteArray) : J6 B w0 ge n t (upd e 0 true) (upd v 0 (.slice (some ⟨W.heap.size, 0, none⟩) 3 3)) (W.alloc (.cells #[.string a, .string b, .string c] 9)) :=
 let k := h.alloc hB (.cells #[.string a, .string b, .string c] 9)
 ⟨k.gb, k.dr, fun _ => ⟨_, a, b, c, rfl, h.gb.size, Blk.new _ _ _ rfl⟩, k.v1, k.v2, k.v3, k.v4, k.v5, k.v6, k.v7, k.v8, k.v9, k.v10, k.v11, k.ne, k.v12, k.v13, k.d14⟩
theorem J6.s1 (h : J6 B w0 ge n t e v W) : J6 B w0 ge n t (upd e 1 true) (upd v 1 (.int .i64 (t : Int))) W :=
 ⟨h.gb, h.dr, h.v0, fun _ => rfl, h.v2, h.v3, h.v4, h.v5, h.v6, h.v7, h.v8, h.v9, h.v10, h.v11, h.ne, h.v12, h.v13, h.d14⟩
theorem J6.s2 (h : J6 B w0 ge n t e v W) {g : Nat} {a b c : ByteArray} (hg : w0.heap.size ≤ g) (hb : Blk W g 9 #[.string a, .string b, .string c]) : J6 B w0 ge n t (upd e 2 true) (upd v 2 (.pointer (some ⟨g, t, none⟩))) W :=
 ⟨h.gb, h.dr, h.v0, h.v1, fun _ => ⟨g, a, b, c, rfl, hg, hb⟩, h.v3, h.v4, h.v5, h.v6, h.v7, h.v8, h.v9, h.v10, h.v11, h.ne, h.v12, h.v13, h.d14⟩
theorem J6.s3 (h : J6 B w0 ge n t e v W) (h3 : e 3 = false) (s : ByteArray) : J6 B w0 ge n t (upd e 3 true) (upd v 3 (.string s)) W :=
 ⟨h.gb, h.dr, h.v0, h.v1, h.v2, fun _ => ⟨s, rfl⟩, h.v4, h.v5, h.v6, h.v7, h.v8, h.v9, h.v10, h.v11, h.ne, fun a => ff (b := e 12) (h.n3 h3) a, fun a => let ⟨g, h1, h2, h3', h4⟩ := h.v13 a; ⟨g, h1, h2, h3', fun b => ff (b := e 14) (h.n12 (h.n3 h3)) b⟩, h.d14⟩
theorem J6.s4 (h : J6 B w0 ge n t e v W) : J6 B w0 ge n t (upd e 4 true) (upd v 4 (.pointer (some ⟨ge, 0, none⟩))) W :=
 ⟨h.gb, h.dr, h.v0, h.v1, h.v2, h.v3, fun _ => rfl, h.v5, h.v6, h.v7, h.v8, h.v9, h.v10, h.v11, h.ne, h.v12, h.v13, h.d14⟩
theorem J6.s5 (h : J6 B w0 ge n t e v W) : J6 B w0 ge n t (upd e 5 true) (upd v 5 (.int .i64 (n : Int))) W :=
 ⟨h.gb, h.dr, h.v0, h.v1, h.v2, h.v3, h.v4, fun _ => rfl, h.v6, h.v7, h.v8, h.v9, h.v10, h.v11, h.ne, h.v12, h.v13, h.d14⟩
theorem J6.s6 (h : J6 B w0 ge n t e v W) (hl : ge < w0.heap.size) (gb : W.grownBy W' (some ge)) (dr : DrawAt B W' ge) {x : Int} (hx : 0 ≤ x) (hx2 : x < (n : Int)) : J6 B w0 ge n t (upd e 6 true) (upd v 6 (.int .i64 x)) W' :=
 let k := h.call hl gb dr
 ⟨k.gb, k.dr, k.v0, k.v1, k.v2, k.v3, k.v4, k.v5, fun _ => ⟨x, rfl, hx, hx2⟩, k.v7, k.v8, k.v9, k.v10, k.v11, k.ne, k.v12, k.v13, k.d14⟩
theorem J6.s7 (h : J6 B w0 ge n t e v W) (hB : B ≤ w0.heap.size) (h7 : e 7 = false) {x : Int} (hx : 0 ≤ x) (hx2 : x < (n : Int)) : J6 B w0 ge n t (upd e 7 true) (upd v 7 (.slice (some ⟨W.heap.size, 0, none⟩) 1 1)) (W.alloc (.cells #[.int .i64 x] 3)) :=
 let k := h.alloc hB (.cells #[.int .i64 x] 3)
 ⟨k.gb, k.dr, k.v0, k.v1, k.v2, k.v3, k.v4, k.v5, k.v6, fun _ => ⟨_, x, rfl, h.gb.size, Blk.new _ _ _ rfl, hx, hx2⟩, k.v8, k.v9, k.v10, k.v11, fun _ b => by
  obtain ⟨g, y, h1, _, h3, _⟩ := h.v11 b
  show (Value.slice (some ⟨W.heap.size, 0, none⟩) 1 1).ownBlock ≠ (v 11).ownBlock
  rw [h1]
  intro e
  have := lt_of_some h3
  have e : some W.heap.size = some g := e
  injection e with e
  omega, fun a => ff (b := e 12) (h.n7 h7) a, fun a => let ⟨g, h1, h2, h3', h4⟩ := k.v13 a; ⟨g, h1, h2, h3', fun b => ff (b := e 14) (h.n12 (h.n7 h7)) b⟩, k.d14⟩
theorem J6.s8 (h : J6 B w0 ge n t e v W) : J6 B w0 ge n t (upd e 8 true) (upd v 8 (.pointer (some ⟨ge, 0, none⟩))) W :=
 ⟨h.gb, h.dr, h.v0, h.v1, h.v2, h.v3, h.v4, h.v5, h.v6, h.v7, fun _ => rfl, h.v9, h.v10, h.v11, h.ne, h.v12, h.v13, h.d14⟩
theorem J6.s9 (h : J6 B w0 ge n t e v W) : J6 B w0 ge n t (upd e 9 true) (upd v 9 (.int .i64 (n : Int))) W :=
 ⟨h.gb, h.dr, h.v0, h.v1, h.v2, h.v3, h.v4, h.v5, h.v6, h.v7, h.v8, fun _ => rfl, h.v10, h.v11, h.ne, h.v12, h.v13, h.d14⟩
theorem J6.s10 (h : J6 B w0 ge n t e v W) (hl : ge < w0.heap.size) (gb : W.grownBy W' (some ge)) (dr : DrawAt B W' ge) {x : Int} (hx : 0 ≤ x) (hx2 : x < (n : Int)) : J6 B w0 ge n t (upd e 10 true) (upd v 10 (.int .i64 x)) W' :=
 let k := h.call hl gb dr
 ⟨k.gb, k.dr, k.v0, k.v1, k.v2, k.v3, k.v4, k.v5, k.v6, k.v7, k.v8, k.v9, fun _ => ⟨x, rfl, hx, hx2⟩, k.v11, k.ne, k.v12, k.v13, k.d14⟩
theorem J6.s11 (h : J6 B w0 ge n t e v W) (hB : B ≤ w0.heap.size) (h7 : e 11 = false) {x : Int} (hx : 0 ≤ x) (hx2 : x < (n : Int)) : J6 B w0 ge n t (upd e 11 true) (upd v 11 (.slice (some ⟨W.heap.size, 0, none⟩) 1 1)) (W.alloc (.cells #[.int .i64 x] 3)) :=
 let k := h.alloc hB (.cells #[.int .i64 x] 3)
 ⟨k.gb, k.dr, k.v0, k.v1, k.v2, k.v3, k.v4, k.v5, k.v6, k.v7, k.v8, k.v9, k.v10, fun _ => ⟨_, x, rfl, h.gb.size, Blk.new _ _ _ rfl, hx, hx2⟩, fun a _ => by
  obtain ⟨g, y, h1, _, h3, _⟩ := h.v7 a
  show (v 7).ownBlock ≠ (Value.slice (some ⟨W.heap.size, 0, none⟩) 1 1).ownBlock
  rw [h1]
  intro e
  have := lt_of_some h3
  have e : some g = some W.heap.size := e
  injection e with e
  omega, fun a => ff (b := e 12) (h.n11 h7) a, fun a => let ⟨g, h1, h2, h3', h4⟩ := k.v13 a; ⟨g, h1, h2, h3', fun b => ff (b := e 14) (h.n12 (h.n11 h7)) b⟩, k.d14⟩
theorem J6.s12 (h : J6 B w0 ge n t e v W) (h3 : e 3 = true) (h7 : e 7 = true) (h11 : e 11 = true) : J6 B w0 ge n t (upd e 12 true) (upd v 12 (.agg #[v 3, v 7, v 11])) W :=
 ⟨h.gb, h.dr, h.v0, h.v1, h.v2, h.v3, h.v4, h.v5, h.v6, h.v7, h.v8, h.v9, h.v10, h.v11, h.ne, fun _ => ⟨rfl, h3, h7, h11⟩, h.v13, fun a => ⟨rfl, (h.d14 a).2⟩⟩
theorem J6.s13 (h : J6 B w0 ge n t e v W) (hB : B ≤ w0.heap.size) (h13 : e 13 = false) : J6 B w0 ge n t (upd e 13 true) (upd v 13 (.pointer (some ⟨W.heap.size, 0, none⟩))) (W.alloc (.cells #[.string ⟨#[]⟩, .slice none 0 0, .slice none 0 0] 75)) :=
 let k := h.alloc hB (.cells #[.string ⟨#[]⟩, .slice none 0 0, .slice none 0 0] 75)
 ⟨k.gb, k.dr, k.v0, k.v1, k.v2, k.v3, k.v4, k.v5, k.v6, k.v7, k.v8, k.v9, k.v10, k.v11, k.ne, k.v12, fun _ => ⟨_, rfl, h.gb.size, fun _ => Blk.new _ _ _ rfl, fun b => ff (b := e 14) (h.n13 h13) b⟩, fun a => ff (b := e 14) (h.n13 h13) a⟩
theorem J6.s14 (h : J6 B w0 ge n t e v W) (hB : B ≤ w0.heap.size) (h12 : e 12 = true) (h13 : e 13 = true) {g : Nat} {x : Value} (hv : v 13 = .pointer (some ⟨g, 0, none⟩)) (hg : w0.heap.size ≤ g) (hb : Blk W g 75 #[.string ⟨#[]⟩, .slice none 0 0, .slice none 0 0]) (hl : ge < w0.heap.size) :
  J6 B w0 ge n t (upd e 14 true) (upd v 14 x) (((W.setCell ⟨g, 0, none⟩ (v 3)).setCell ⟨g, 1, none⟩ (v 7)).setCell ⟨g, 2, none⟩ (v 11)) := by
 have hne : ∀ g', g' ≠ g → (((W.setCell ⟨g, 0, none⟩ (v 3)).setCell ⟨g, 1, none⟩ (v 7)).setCell ⟨g, 2, none⟩ (v 11)).heap[g']? = W.heap[g']? := fun g' hg' =>
  (Below.heap_setCell _ ⟨g, 2, none⟩ _ g' hg').trans ((Below.heap_setCell _ ⟨g, 1, none⟩ _ g' hg').trans (Below.heap_setCell _ ⟨g, 0, none⟩ _ g' hg'))
 have hk : ∀ g' ty cs, ty ≠ 75 → Blk W g' ty cs → Blk (((W.setCell ⟨g, 0, none⟩ (v 3)).setCell ⟨g, 1, none⟩ (v 7)).setCell ⟨g, 2, none⟩ (v 11)) g' ty cs := fun g' ty cs hty hb' => (hne g' (Blk.ne_ hb' hb hty)).trans hb'
 have hbel : Below B W (((W.setCell ⟨g, 0, none⟩ (v 3)).setCell ⟨g, 1, none⟩ (v 7)).setCell ⟨g, 2, none⟩ (v 11)) := (((Below.refl B W).setCell (p := ⟨g, 0, none⟩) (by show B ≤ g; omega) _).setCell (p := ⟨g, 1, none⟩) (by show B ≤ g; omega) _).setCell (p := ⟨g, 2, none⟩) (by show B ≤ g; omega) _
 refine ⟨⟨h.gb.os, h.gb.tape, h.gb.output, Nat.le_trans h.gb.size hbel.size, fun i hi hne' => (hne i (by omega)).trans (h.gb.block i hi hne')⟩, h.dr.keep hbel (hne ge (by omega)), fun a => ?_, h.v1, fun a => ?_, h.v3, h.v4, h.v5, h.v6, fun a => ?_, h.v8, h.v9, h.v10, fun a => ?_, h.ne, h.v12, fun _ => ⟨g, hv, hg, fun a => (by cases a), fun _ => ?_⟩, fun _ => ⟨h12, h13⟩⟩
 ·obtain ⟨g', a1, b1, c1, h1, h2, h3⟩ := h.v0 a
  exact ⟨g', a1, b1, c1, h1, h2, hk _ _ _ (by decide) h3⟩
 ·obtain ⟨g', a1, b1, c1, h1, h2, h3⟩ := h.v2 a
  exact ⟨g', a1, b1, c1, h1, h2, hk _ _ _ (by decide) h3⟩
 ·obtain ⟨g', x', h1, h2, h3, h4⟩ := h.v7 a
  exact ⟨g', x', h1, h2, hk _ _ _ (by decide) h3, h4⟩
 ·obtain ⟨g', x', h1, h2, h3, h4⟩ := h.v11 a
  exact ⟨g', x', h1, h2, hk _ _ _ (by decide) h3, h4⟩
 ·exact ((hb.set (k := 0) (v 3)).set (k := 1) (v 7)).set (k := 2) (v 11)
theorem own1 {W : World} {S g : Nat} {x : Int} (hb : Blk W g 3 #[.int .i64 x]) (hg : S ≤ g) : OwnI W S (.slice (some ⟨g, 0, none⟩) 1 1) [x] :=
 ⟨rfl, .inr ⟨g, 1, #[.int .i64 x], rfl, hg, hb, Nat.le_refl _, by unfold maxLen; omega, rfl, rfl⟩⟩
theorem J6.fin {S : Nat} (h : J6 B w0 ge n t (fun _ => true) v W) (hB : B ≤ S) (hS : S ≤ w0.heap.size) (hge : S ≤ ge) : ∃ s g7 g11 gt x1 x2, v 3 = .string s ∧ v 7 = .slice (some ⟨g7, 0, none⟩) 1 1 ∧ v 11 = .slice (some ⟨g11, 0, none⟩) 1 1 ∧ v 13 = .pointer (some ⟨gt, 0, none⟩) ∧
  R1 B W S ge gt n s (.slice (some ⟨g7, 0, none⟩) 1 1) (.slice (some ⟨g11, 0, none⟩) 1 1) [x1] [x2] := by
 obtain ⟨s, hs⟩ := h.v3 rfl
 obtain ⟨g7, x1, h71, h72, h73, h74⟩ := h.v7 rfl
 obtain ⟨g11, x2, h81, h82, h83, h84⟩ := h.v11 rfl
 obtain ⟨gt, h131, h132, _, h134⟩ := h.v13 rfl
 have h134 := h134 rfl
 have hne := h.ne rfl rfl
 rw [hs, h71, h81] at h134
 rw [h71, h81] at hne
 refine ⟨s, g7, g11, gt, x1, x2, hs, h71, h81, h131, hB, Nat.le_trans hS h.gb.size, h.dr, hge, h134, by omega, own1 h73 (by omega), own1 h83 (by omega), .inr hne, by simp, by simp, fun y hy => ?_⟩
 rcases hy with hy | hy
 ·rw [List.mem_singleton] at hy; rw [hy]; exact h74
 ·rw [List.mem_singleton] at hy; rw [hy]; exact h84
end
end Go.Proofs.Ytgpjfpcjiebjiaa

namespace Go.Proofs.Ytgpjfpcjiebjiaa
open Go.RowKit
set_option linter.unusedVariables false
set_option linter.unusedSimpArgs false

/-- What is known of a made maze. -/
structure MadeM (m : MZ) : Prop where
 good : Good m
 w : 2 ≤ m.w ∧ m.w ≤ 4
 h : 1 ≤ m.h ∧ m.h ≤ 4
 l : 1 ≤ m.l ∧ m.l ≤ 2
 n : 2 ≤ m.n ∧ m.n ≤ 16
 tk : 1 ≤ m.tasks.length ∧ m.tasks.length ≤ 3
 te : ∀ t ∈ m.tasks, (t.1 ≠ [] ∧ t.2 ≠ []) ∧ t.1.length ≤ 2 ∧ t.2.length ≤ 2
 lens : Lens m
theorem dims {W H L : Int} (hW : 2 ≤ W ∧ W ≤ 4) (hH : 1 ≤ H ∧ H ≤ 4) (hL : L = 1 ∨ (L = 2 ∧ W ≤ 3 ∧ H ≤ 2)) : 2 ≤ W * H ∧ W * H ≤ 16 ∧ 2 ≤ W * H * L ∧ W * H * L ≤ 16 := by
 have h1 : W = 2 ∨ W = 3 ∨ W = 4 := by omega
 have h2 : H = 1 ∨ H = 2 ∨ H = 3 ∨ H = 4 := by omega
 rcases h1 with rfl | rfl | rfl <;> rcases h2 with rfl | rfl | rfl | rfl <;> rcases hL with rfl | ⟨rfl, h3, h4⟩ <;> omega


theorem chooseL {β : Type} {p : Nat → β → Prop} : ∀ (n : Nat), (∀ i, i < n → ∃ b, p i b) → ∃ l : List β, l.length = n ∧ ∀ i b, l[i]? = some b → p i b
 | 0, _ => ⟨[], rfl, fun i b h => by simp at h⟩
 | n + 1, h => by
  obtain ⟨l, hl, h1⟩ := chooseL n (fun i hi => h i (by omega))
  obtain ⟨b, hb⟩ := h n (by omega)
  refine ⟨l ++ [b], by simp [hl], fun i x hx => ?_⟩
  rcases Nat.lt_or_ge i l.length with hi | hi
  ·rw [List.getElem?_append_left hi] at hx; exact h1 i x hx
  ·have hi2 : i = l.length := by
    rcases Nat.lt_or_ge i (l ++ [b]).length with h2 | h2
    ·simp at h2; omega
    ·rw [List.getElem?_eq_none h2] at hx; cases hx
   subst hi2
   rw [List.getElem?_append_right (Nat.le_refl _), Nat.sub_self] at hx
   have : b = x := by simpa using hx
   subst this
   rw [hl]; exact hb
/-- The row of vertical ways while it is made. -/
structure RU (w1 : World) (B : Nat) (w : World) (S gm gd : Nat) (W H L : Int) (n tF tT : Nat) (vF vU vT : Value) (fs ts : List Value) (us : List Bool) : Prop where
 hB : B = w1.heap.size
 hBS : B ≤ S
 ms : MS B w S gm gd W H L n tF tT vF vU vT fs ts
 ow : OwnB w S vU us
 ex : Ext w1 w
section
variable {w1 w w' : World} {B S gm gd : Nat} {W H L : Int} {n tF tT : Nat} {vF vU vU' vT : Value} {fs ts : List Value} {us : List Bool}
theorem RU.ext (h : RU w1 B w S gm gd W H L n tF tT vF vU vT fs ts us) (hE : Ext w w') : RU w1 B w' S gm gd W H L n tF tT vF vU vT fs ts us :=
 ⟨h.hB, h.hBS, h.ms.extS hE, own_keep h.ow fun g hg => hE.block g (World.ownsRow.lt h.ow g hg).2, h.ex.trans hE⟩
theorem RU.drawn (h : RU w1 B w S gm gd W H L n tF tT vF vU vT fs ts us) (hd : DrawAt B w' gd) (hg : w.grownBy w' (some gd)) : RU w1 B w' S gm gd W H L n tF tT vF vU vT fs ts us := by
 obtain ⟨cs, hb⟩ := h.ms.dr.blk
 refine ⟨h.hB, h.hBS, h.ms.drawn hd hg, own_keep h.ow fun g hg' => hg.block g (World.ownsRow.lt h.ow g hg').2 (fun e => ?_), Below.grown h.ex hg h.ex.size (fun k hk => by injection hk with hk; have := h.ms.dr.1; have := h.hB; omega)⟩
 injection e with e
 exact own_blk_ne h.ow hb (by decide) (hg'.trans (congrArg some e))
theorem RU.add (h : RU w1 B w S gm gd W H L n tF tT vF vU vT fs ts us) {x : Bool} {w5 : World} {o : Obj} (ho : w5.ownsRow S 4 1 vU' (us.length + 1) (us.map Value.bool ++ [.bool x])) (hg : (w.alloc o).grownBy w5 vU.ownBlock) :
  RU w1 B (w5.setCell ⟨gm, 4, none⟩ vU') S gm gd W H L n tF tT vF vU' vT fs ts (us ++ [x]) := by
 obtain ⟨h1, h2, h3⟩ := h.ms.addU h.hBS h.ow ho hg
 exact ⟨h.hB, h.hBS, h1, h2, Below.trans h.ex (h.hB ▸ h3)⟩
/-- The maze that was made. -/
theorem RU.maze {t : Nat} (h : RU w1 B w S gm gd W H L n t t vF vU vT fs ts us) (hW : 2 ≤ W ∧ W ≤ 4) (hH : 1 ≤ H ∧ H ≤ 4) (hL : L = 1 ∨ (L = 2 ∧ W ≤ 3 ∧ H ≤ 2)) (hn : (n : Int) = W * H * L) (ht : 1 ≤ t ∧ t ≤ 3) (hu : us.length = n) :
  ∃ m, MazeV w (fun b => B ≤ b) (.agg #[.int .i64 W, .int .i64 H, .int .i64 L, vF, vU, vT]) m ∧ MadeM m := by
 obtain ⟨d1, d2, d3, d4⟩ := dims hW hH hL
 obtain ⟨fr, hfl, hfp⟩ := chooseL (p := fun j (l : List Bool) => ∃ u, fs[j]? = some u ∧ Bools w (fun b => B ≤ b) u l ∧ l.length = n) t (fun j hj => by
  obtain ⟨u, h1, l, h2, h3, _⟩ := h.ms.fd j hj
  exact ⟨l, u, h1, h2.bools, h3⟩)
 obtain ⟨tk, htl, htp⟩ := chooseL (p := fun j (l : List Int × List Int) => ∃ s u1 u2, ts[j * 3]? = some (.string s) ∧ ts[j * 3 + 1]? = some u1 ∧ ts[j * 3 + 2]? = some u2 ∧ Ints w (fun b => B ≤ b) u1 l.1 ∧ Ints w (fun b => B ≤ b) u2 l.2 ∧ (l.1 ≠ [] ∧ l.2 ≠ []) ∧ (l.1.length ≤ 2 ∧ l.2.length ≤ 2) ∧ (∀ x, x ∈ l.1 ∨ x ∈ l.2 → 0 ≤ x ∧ x < (n : Int))) t (fun j hj => by
  obtain ⟨s, u1, u2, h1, h2, h3, l1, l2, h4, h5, h6, h7, h8, _⟩ := h.ms.td j hj
  exact ⟨(l1, l2), s, u1, u2, h1, h2, h3, Row.of_own h4, Row.of_own h5, h6, h7, h8⟩)
 have hte : ∀ x ∈ tk, ∃ j, tk[j]? = some x := fun x hx => by
  obtain ⟨j, hj, rfl⟩ := List.getElem_of_mem hx
  exact ⟨j, List.getElem?_eq_getElem hj⟩
 have hg : Good ⟨W, H, L, fr, us, tk⟩ := by
  refine ⟨⟨by show 1 ≤ W; omega, by show W ≤ 300; omega, by show 1 ≤ H; omega, by show H ≤ 300; omega, by show 1 ≤ L; omega, by show L ≤ 300; omega, by show W * H * L ≤ 300; omega, ?_⟩, ?_, ?_, ?_, ?_⟩
  ·show (us.length : Int) = W * H * L
   rw [hu, hn]
  ·show fr.length = tk.length
   omega
  ·intro f hf
   obtain ⟨j, hj, rfl⟩ := List.getElem_of_mem hf
   obtain ⟨u, _, _, h3⟩ := hfp j _ (List.getElem?_eq_getElem hj)
   show ((fr[j]).length : Int) = W * H * L
   rw [h3, hn]
  ·show tk.length ≤ 6
   omega
  ·intro x hx y hy
   obtain ⟨j, hj⟩ := hte x hx
   obtain ⟨s, u1, u2, h1, h2, h3, h4, h5, h6, h7, h8⟩ := htp j x hj
   have := h8 y hy
   show 0 ≤ y ∧ y < W * H * L
   rw [← hn]; exact this
 refine ⟨⟨W, H, L, fr, us, tk⟩, ⟨vF, vU, vT, rfl, ?_, ?_, ?_⟩, ⟨hg, hW, hH, by show 1 ≤ L ∧ L ≤ 2; omega, by show 2 ≤ W * H * L ∧ W * H * L ≤ 16; omega, by show 1 ≤ tk.length ∧ tk.length ≤ 3; omega, fun x hx => ?_, ⟨by show fr.length ≤ _; omega, by show us.length ≤ _; omega, by show tk.length ≤ _; omega, fun x hx => ?_⟩⟩⟩
 ·refine ⟨fs, by show Row w _ 1 vF fr.length fs; rw [hfl]; exact Row.of_own h.ms.F, fun i x hx => ?_⟩
  obtain ⟨u, h1, h2, _⟩ := hfp i x hx
  exact ⟨u, h1, h2⟩
 ·exact (OwnB.bools h.ow).weaken fun b hb => Nat.le_trans h.hBS hb
 ·refine ⟨ts, by show Row w _ 3 vT tk.length ts; rw [htl]; exact Row.of_own h.ms.T, fun i x hx => ?_⟩
  obtain ⟨s, u1, u2, h1, h2, h3, h4, h5, _⟩ := htp i x hx
  exact ⟨s, u1, u2, h1, h2, h3, h4, h5⟩
 ·obtain ⟨j, hj⟩ := hte x hx
  obtain ⟨s, u1, u2, h1, h2, h3, h4, h5, h6, h7, h8⟩ := htp j x hj
  exact ⟨h6, h7⟩
 ·obtain ⟨j, hj⟩ := hte x hx
  obtain ⟨s, u1, u2, h1, h2, h3, h4, h5, h6, h7, h8⟩ := htp j x hj
  exact ⟨by omega, by omega⟩
end
theorem case_fin {P : World → Prop} {W : World} {g2 : Nat} {t : TypeId} {a b c d e f z0 z1 z2 z3 z4 z5 : Value} (h : ∀ WZ, Blk WZ g2 t #[a, b, c, d, e, f] → Below g2 W WZ → (∀ k, k < W.heap.size → k ≠ g2 → WZ.heap[k]? = W.heap[k]?) → P WZ) (hb : Blk W g2 t #[z0, z1, z2, z3, z4, z5]) :
  P ((((((W.setCell ⟨g2, 0, none⟩ a).setCell ⟨g2, 1, none⟩ b).setCell ⟨g2, 2, none⟩ c).setCell ⟨g2, 3, none⟩ d).setCell ⟨g2, 4, none⟩ e).setCell ⟨g2, 5, none⟩ f) := by
 refine h _ ?_ ((((((Below.refl g2 W).setCell (p := ⟨g2, 0, none⟩) (Nat.le_refl _) _).setCell (p := ⟨g2, 1, none⟩) (Nat.le_refl _) _).setCell (p := ⟨g2, 2, none⟩) (Nat.le_refl _) _).setCell (p := ⟨g2, 3, none⟩) (Nat.le_refl _) _).setCell (p := ⟨g2, 4, none⟩) (Nat.le_refl _) _ |>.setCell (p := ⟨g2, 5, none⟩) (Nat.le_refl _) _) (fun k _ hne => ?_)
 ·have h6 := (((((hb.set (k := 0) a).set (k := 1) b).set (k := 2) c).set (k := 3) d).set (k := 4) e).set (k := 5) f
  exact h6
 ·exact (Below.heap_setCell _ ⟨g2, 5, none⟩ _ k hne).trans ((Below.heap_setCell _ ⟨g2, 4, none⟩ _ k hne).trans ((Below.heap_setCell _ ⟨g2, 3, none⟩ _ k hne).trans ((Below.heap_setCell _ ⟨g2, 2, none⟩ _ k hne).trans ((Below.heap_setCell _ ⟨g2, 1, none⟩ _ k hne).trans (Below.heap_setCell _ ⟨g2, 0, none⟩ _ k hne)))))
theorem wpStill_skip {P : Program} {ops : Array Oper} {w : World} {Q : Act → Prop} {o : Oper} {rest : List Oper} {a : Act} (h : Region.wanted o (yielded ops a.tmps) = false) (hk : wpStill P ops w Q rest (a.put o.dst undef)) : wpStill P ops w Q (o :: rest) a := by
 unfold wpStill
 rw [if_neg (by rw [h]; simp)]
 exact hk
/-- All blocks but those of booleans are as they were. -/
def SB (w W : World) : Prop := ∀ g ty cs, Blk w g ty cs → ty ≠ 4 → W.heap[g]? = w.heap[g]?
theorem SB.rule {w : World} {g k : Nat} {ty : TypeId} {cs : Array Value} {v : Value} (hb : Blk w g ty cs) (hty : ty ≠ 4) (hc : w.cell? ⟨g, k, none⟩ = some v) : ∀ W, SB w W → W.cell? ⟨g, k, none⟩ = some v :=
 fun W h => (World.cell?_of_block (a := ⟨g, k, none⟩) (h g ty cs hb hty)).trans hc
theorem SB.set {w W : World} {g k : Nat} {cs : Array Value} (h : SB w W) (hb : Blk w g 4 cs) (x : Value) : SB w (W.setCell ⟨g, k, none⟩ x) :=
 fun g' ty' cs' hb' hty => (Below.heap_setCell W ⟨g, k, none⟩ x g' (Blk.ne_ hb' hb hty)).trans (h g' ty' cs' hb' hty)
theorem SB.drew (w : World) : SB w w.drew := fun _ _ _ _ _ => rfl
def MadePost (w : World) (e : Ending) (w' : World) : Prop := ∃ v' m, e = .returned v' ∧ Ext w w' ∧ MazeV w' (fun b => w.heap.size ≤ b) v' m ∧ MadeM m
end Go.Proofs.Ytgpjfpcjiebjiaa
