/- Words for the memory of states and routers; walks: the state functions in terms of choices. -/
import Derived.Test.YtgpjfpcjiebjiaaRtP
namespace Go.Proofs.Ytgpjfpcjiebjiaa
open Go.RowKit
set_option linter.unusedVariables false
set_option linter.unusedSimpArgs false
attribute [local go_sem ↓] Go.wp_at_zero Go.wp_at_succ

/-- The state of choices at p. -/
def StC (w : World) (ok : Nat → Prop) (p : Nat) (m : MZ) (ch : List Int) : Prop :=
  ∃ us f u t vc vp gu, (∀ x, x ∈ us ↔ x ∈ ch) ∧ StAt w ok p m ch (psOf m ch) us f u t vc vp gu
section
variable {w w' : World} {ok ok' : Nat → Prop} {p : Nat} {m : MZ} {ch : List Int}
theorem StC.keep (h : StC w ok p m ch) (hk : Same ok w w') : StC w' ok p m ch := by
  obtain ⟨us, f, u, t, vc, vp, gu, h1, h2⟩ := h
  exact ⟨us, f, u, t, vc, vp, gu, h1, h2.keep hk⟩
theorem StC.weaken (h : StC w ok p m ch) (hk : ∀ b, ok b → ok' b) : StC w ok' p m ch := by
  obtain ⟨us, f, u, t, vc, vp, gu, h1, h2⟩ := h
  exact ⟨us, f, u, t, vc, vp, gu, h1, h2.weaken hk⟩
theorem StC.bound (h : StC w ok p m ch) : StC w (fun b => ok b ∧ b < w.heap.size) p m ch := by
  obtain ⟨us, f, u, t, vc, vp, gu, h1, h2⟩ := h
  exact ⟨us, f, u, t, vc, vp, gu, h1, h2.bound⟩
theorem StC.ext (h : StC w ok p m ch) (hE : Ext w w') : StC w' ok p m ch := h.keep (Same.of_below hE)
end

theorem begin_c {ok : Nat → Prop} {v : Value} {m : MZ} (w : World) (hm : MazeV w ok v m) (htk : m.tasks.length ≤ 100000) :
    Calls Try.prog 66 #[v] w fun e w' => ∃ p, e = .returned (.pointer (some ⟨p, 0, none⟩)) ∧ Ext w w' ∧ StC w' (fun b => ok b ∨ w.heap.size ≤ b) p m [] := by
  refine (begin_calls w hm htk).mono ?_
  rintro e w' ⟨v', rfl, hE, g, f, u, t, vc, vp, gu, rfl, h⟩
  exact ⟨g, rfl, hE, [], f, u, t, vc, vp, gu, fun _ => Iff.rfl, h⟩
theorem complete_c {ok : Nat → Prop} {m : MZ} {ch : List Int} {p : Nat} (w : World) (h : StC w ok p m ch) (g : Good m) (hl : Lens m) (hc : IsCh m ch) :
    Calls Try.prog 63 #[.pointer (some ⟨p, 0, none⟩)] w fun e w' => e = .returned (.bool (cmpC m ch)) ∧ Drew w w' := by
  obtain ⟨us, f, u, t, vc, vp, gu, h1, h2⟩ := h
  exact complete_calls w h2 (hc.sok g hl)
theorem candidates_c {ok : Nat → Prop} {m : MZ} {ch : List Int} {p : Nat} (w : World) (h : StC w ok p m ch) (g : Good m) (hl : Lens m) (hc : IsCh m ch) :
    Calls Try.prog 68 #[.pointer (some ⟨p, 0, none⟩)] w fun e w' => ∃ v', e = .returned v' ∧ Mk w w' v' (cand m ch) := by
  obtain ⟨us, f, u, t, vc, vp, gu, h1, h2⟩ := h
  unfold cand
  rw [← candL_congr h1]
  exact candidates_calls w h2 (hc.sok g hl)
theorem open_c {ok : Nat → Prop} {m : MZ} {ch : List Int} {p : Nat} (w : World) (h : StC w ok p m ch) (g : Good m) (hl : Lens m) (hc : IsCh m ch) :
    Calls Try.prog 70 #[.pointer (some ⟨p, 0, none⟩)] w fun e w' => e = .returned (.bool (openC m ch)) ∧ Ext w w' := by
  obtain ⟨us, f, u, t, vc, vp, gu, h1, h2⟩ := h
  unfold openC
  rw [← openB_congr h1]
  exact open_calls w h2 (hc.sok g hl)
theorem with_c {ok : Nat → Prop} {m : MZ} {ch : List Int} {p : Nat} {n : Int} (w : World) (h : StC w ok p m ch) (g : Good m) (hl : Lens m) (hc : IsCh m ch) (hn : n ∈ cand m ch) :
    Calls Try.prog 69 #[.pointer (some ⟨p, 0, none⟩), .int .i64 n] w fun e w' => ∃ q, e = .returned (.pointer (some ⟨q, 0, none⟩)) ∧ Ext w w' ∧ StC w' (fun b => (ok b ∧ b < w.heap.size) ∨ w.heap.size ≤ b) q m (ch ++ [n]) := by
  obtain ⟨us, f, u, t, vc, vp, gu, h1, h2⟩ := h
  have hp := hc.psOk.pn (ncmp_tasks (cand_ncmp hn))
  refine (with_calls n w h2.bound (hc.sok g hl) (hc.sok1 g hl hn) hp).mono ?_
  rintro e w' ⟨v', rfl, hE, us', h3, q, f', u', t', vc', vp', gu', rfl, h4⟩
  refine ⟨q, rfl, hE, us', f', u', t', vc', vp', gu', fun x => ?_, ?_⟩
  · rw [h3, h1, List.mem_append, List.mem_singleton]; exact Or.comm
  · rw [psOf_snoc]; exact h4

/-! ### Routers -/
/-- What a router's states lie in. -/
def okR (X Y : Nat → Prop) (g gr : Nat) (b : Nat) : Prop := (X b ∧ b ≠ g ∧ b ≠ gr) ∨ Y b
def ptrV (p : Nat) : Value := .pointer (some ⟨p, 0, none⟩)
/-- The row of a router's states. -/
def RtRow (w : World) (X Y : Nat → Prop) (g gr cap : Nat) (m : MZ) (ch : List Int) (ptrs : List Nat) : Prop :=
  w.ownsRow 0 88 1 (.slice (some ⟨gr, 0, none⟩) ptrs.length cap) ptrs.length (ptrs.map ptrV) ∧ ptrs.length = ch.length + 1 ∧ ∀ (k p : Nat), ptrs[k]? = some p → StC w (okR X Y g gr) p m (ch.take k)
/-- The router at g: X holds what it made, Y the maze. -/
structure RtAt (w : World) (X Y : Nat → Prop) (g gr cap : Nat) (m : MZ) (s : RS) (ptrs : List Nat) : Prop where
  blk : Blk w g 87 #[.slice (some ⟨gr, 0, none⟩) ptrs.length cap, .bool s.done, .int .i64 s.steps]
  xg : X g
  xr : X gr
  ne : g ≠ gr
  yg : ¬ Y g
  yr : ¬ Y gr
  row : RtRow w X Y g gr cap m s.ch ptrs
/-- What a router may change. -/
structure Chg (X : Nat → Prop) (w w' : World) : Prop where
  os : w'.os = w.os
  tape : w'.tape = w.tape
  output : w'.output = w.output
  size : w.heap.size ≤ w'.heap.size
  block : ∀ b, b < w.heap.size → ¬ X b → w'.heap[b]? = w.heap[b]?
theorem Chg.refl (X : Nat → Prop) (w : World) : Chg X w w := ⟨rfl, rfl, rfl, Nat.le_refl _, fun _ _ _ => rfl⟩
theorem Chg.of_ext {X : Nat → Prop} {w w' : World} (h : Ext w w') : Chg X w w' := ⟨h.os, h.tape, h.output, h.size, fun b hb _ => h.block b hb⟩
theorem Chg.trans {X X' : Nat → Prop} {a b c : World} (h : Chg X a b) (h' : Chg X' b c) (hX : ∀ k, k < a.heap.size → X' k → X k) : Chg X a c :=
  ⟨h'.os.trans h.os, h'.tape.trans h.tape, h'.output.trans h.output, Nat.le_trans h.size h'.size, fun k hk hx => (h'.block k (Nat.lt_of_lt_of_le hk h.size) (fun hx' => hx (hX k hk hx'))).trans (h.block k hk hx)⟩
theorem Chg.same {X ok : Nat → Prop} {w w' : World} (h : Chg X w w') (hd : ∀ b, ok b → ¬ X b) : Same ok w w' := fun b hb hlt => h.block b hlt (hd b hb)
theorem Chg.below {X : Nat → Prop} {w w' : World} {B : Nat} (h : Chg X w w') (hB : B ≤ w.heap.size) (hX : ∀ b, X b → B ≤ b) : Below B w w' :=
  ⟨h.os, h.tape, h.output, h.size, fun b hb => h.block b (by omega) (fun hx => by have := hX b hx; omega)⟩
section
variable {w w' : World} {X Y X' Y' : Nat → Prop} {g gr cap : Nat} {m : MZ} {s : RS} {ptrs : List Nat} {ch : List Int}
theorem row_keep {B n c : Nat} {e : TypeId} {size : Nat} {xs : List Value} (h : w.ownsRow B e size (.slice (some ⟨gr, 0, none⟩) n c) n xs) (hb : w'.heap[gr]? = w.heap[gr]?) : w'.ownsRow B e size (.slice (some ⟨gr, 0, none⟩) n c) n xs := by
  obtain ⟨hl, ⟨h0, _⟩ | ⟨g', cap', cur, hv, h1, h2, h3⟩⟩ := h
  · cases h0
  · have hg : g' = gr := by injection hv with hv; injection hv with hv; injection hv with hv; exact hv.symm
    subst hg
    exact ⟨hl, .inr ⟨g', cap', cur, hv, h1, hb.trans h2, h3⟩⟩
theorem row_shrink {B n k c : Nat} {e : TypeId} {xs : List Value} (h : w.ownsRow B e 1 (.slice (some ⟨gr, 0, none⟩) n c) n xs) (hk : k ≤ n) : w.ownsRow B e 1 (.slice (some ⟨gr, 0, none⟩) k c) k (xs.take k) := by
  obtain ⟨hl, ⟨h0, _⟩ | ⟨g', cap', cur, hv, h1, h2, h3, h4, h5, h6⟩⟩ := h
  · cases h0
  · injection hv with hv hn hc
    injection hv with hv
    injection hv with hv
    subst hv hc
    refine ⟨by rw [List.length_take, hl]; omega, .inr ⟨gr, c, cur, rfl, h1, h2, by omega, h4, h5, ?_⟩⟩
    rw [← h6, List.take_take]
    congr 1
    omega
theorem RtRow.keep (h : RtRow w X Y g gr cap m ch ptrs) (hk : ∀ b, b < w.heap.size → (X b ∧ b ≠ g) ∨ Y b → w'.heap[b]? = w.heap[b]?) (hgr : X gr) (hne : g ≠ gr) : RtRow w' X Y g gr cap m ch ptrs := by
  obtain ⟨h1, h2, h3⟩ := h
  have hgl : gr < w.heap.size := (h1.lt gr rfl).2
  refine ⟨row_keep h1 (hk gr hgl (.inl ⟨hgr, Ne.symm hne⟩)), h2, fun k p hp => (h3 k p hp).keep fun b hb hlt => hk b hlt ?_⟩
  rcases hb with hb | hb
  · exact .inl ⟨hb.1, hb.2.1⟩
  · exact .inr hb
theorem RtRow.last (h : RtRow w X Y g gr cap m ch ptrs) : ∃ p, ptrs[ch.length]? = some p ∧ StC w (okR X Y g gr) p m ch ∧ w.cell? ⟨gr, ch.length, none⟩ = some (ptrV p) := by
  obtain ⟨h1, h2, h3⟩ := h
  have hlt : ch.length < ptrs.length := by omega
  refine ⟨ptrs[ch.length], List.getElem?_eq_getElem hlt, by have := h3 _ _ (List.getElem?_eq_getElem hlt); rwa [List.take_length] at this, ?_⟩
  rw [World.ownsRow.cellAt h1 _ (by omega), List.getElem?_map, List.getElem?_eq_getElem hlt]
  rfl
theorem RtAt.same (h : RtAt w X Y g gr cap m s ptrs) (hk : ∀ b, b < w.heap.size → X b ∨ Y b → w'.heap[b]? = w.heap[b]?) : RtAt w' X Y g gr cap m s ptrs :=
  ⟨(hk g (lt_of_some h.blk) (.inl h.xg)).trans h.blk, h.xg, h.xr, h.ne, h.yg, h.yr, h.row.keep (fun b hb hx => hk b hb (by rcases hx with hx | hx; exact .inl hx.1; exact .inr hx)) h.xr h.ne⟩
theorem RtAt.ext (h : RtAt w X Y g gr cap m s ptrs) (hE : Ext w w') : RtAt w' X Y g gr cap m s ptrs := h.same fun b hb _ => hE.block b hb
end
end Go.Proofs.Ytgpjfpcjiebjiaa
