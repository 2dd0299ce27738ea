/- The router's memory when it is changed: a state pushed, a state taken away, its cells stored. -/
import Derived.Test.YtgpjfpcjiebjiaaRtQ
import Derived.Maps.AppendAt
namespace Go.Proofs.Ytgpjfpcjiebjiaa
open Go.RowKit
set_option linter.unusedVariables false
set_option linter.unusedSimpArgs false

section
variable {w w' W : World} {X Y : Nat → Prop} {g gr cap : Nat} {m : MZ} {s : RS} {ptrs : List Nat} {ch : List Int}
theorem RtAt.okR_ne (h : RtAt w X Y g gr cap m s ptrs) {b : Nat} (hb : okR X Y g gr b) : b ≠ g ∧ b ≠ gr := by
  rcases hb with ⟨_, h1, h2⟩ | hy
  · exact ⟨h1, h2⟩
  · exact ⟨fun e => h.yg (e ▸ hy), fun e => h.yr (e ▸ hy)⟩
/-- The block of the router itself stored into. -/
theorem RtAt.setg (h : RtAt w X Y g gr cap m s ptrs) (j : Nat) (v : Value) {s' : RS} (hch : s'.ch = s.ch) (hb : (#[.slice (some ⟨gr, 0, none⟩) ptrs.length cap, .bool s.done, .int .i64 s.steps] : Array Value).setIfInBounds j v = #[.slice (some ⟨gr, 0, none⟩) ptrs.length cap, .bool s'.done, .int .i64 s'.steps]) :
    RtAt (w.setCell ⟨g, j, none⟩ v) X Y g gr cap m s' ptrs :=
  ⟨by have := h.blk.set (k := j) v; rwa [hb] at this, h.xg, h.xr, h.ne, h.yg, h.yr, by
    rw [hch]
    exact h.row.keep (fun b hb hx => Below.heap_setCell w ⟨g, j, none⟩ v b (by
      show b ≠ g
      rcases hx with hx | hx
      · exact hx.2
      · exact fun e => h.yg (e ▸ hx))) h.xr h.ne⟩
theorem RtAt.done (h : RtAt w X Y g gr cap m s ptrs) (d : Bool) : RtAt (w.setCell ⟨g, 1, none⟩ (.bool d)) X Y g gr cap m ⟨s.ch, d, s.steps⟩ ptrs := h.setg 1 _ rfl rfl
theorem RtAt.stepsTo (h : RtAt w X Y g gr cap m s ptrs) (n : Int) : RtAt (w.setCell ⟨g, 2, none⟩ (.int .i64 n)) X Y g gr cap m ⟨s.ch, s.done, n⟩ ptrs := h.setg 2 _ rfl rfl
theorem RtAt.widen {X' : Nat → Prop} (h : RtAt w X Y g gr cap m s ptrs) (hX : ∀ b, X b → X' b) : RtAt w X' Y g gr cap m s ptrs :=
  ⟨h.blk, hX _ h.xg, hX _ h.xr, h.ne, h.yg, h.yr, h.row.1, h.row.2.1, fun k p hp => (h.row.2.2 k p hp).weaken fun b hb => by
    rcases hb with hb | hb
    · exact .inl ⟨hX _ hb.1, hb.2⟩
    · exact .inr hb⟩
theorem chg_setg {X : Nat → Prop} (w : World) (hx : X g) (j : Nat) (v : Value) : Chg X w (w.setCell ⟨g, j, none⟩ v) :=
  ⟨rfl, rfl, rfl, by simp [World.setCell], fun b _ hb => Below.heap_setCell w ⟨g, j, none⟩ v b (by rintro rfl; exact hb hx)⟩
theorem Chg.tr {X : Nat → Prop} {a b c : World} (h : Chg X a b) (h' : Chg X b c) : Chg X a c := h.trans h' (fun _ _ h => h)
theorem Chg.ext_r {X : Nat → Prop} {a b c : World} (h : Chg X a b) (h' : Ext b c) : Chg X a c := h.tr (Chg.of_ext h')
/-- The last states taken away. -/
theorem RtAt.pop (h : RtAt w X Y g gr cap m s ptrs) {k : Nat} (hk : k ≤ s.ch.length) : RtAt (w.setCell ⟨g, 0, none⟩ (.slice (some ⟨gr, 0, none⟩) (k + 1) cap)) X Y g gr cap m ⟨s.ch.take k, s.done, s.steps⟩ (ptrs.take (k + 1)) := by
  have hlen := h.row.2.1
  have hl : (ptrs.take (k + 1)).length = k + 1 := by rw [List.length_take]; omega
  have hkeep : ∀ b, (X b ∧ b ≠ g) ∨ Y b → (w.setCell ⟨g, 0, none⟩ (.slice (some ⟨gr, 0, none⟩) (k + 1) cap)).heap[b]? = w.heap[b]? := fun b hx => Below.heap_setCell w ⟨g, 0, none⟩ _ b (by
    show b ≠ g
    rcases hx with hx | hx
    · exact hx.2
    · exact fun e => h.yg (e ▸ hx))
  have hr : w.ownsRow 0 88 1 (.slice (some ⟨gr, 0, none⟩) (k + 1) cap) (k + 1) ((ptrs.take (k + 1)).map ptrV) := by
    rw [List.map_take]
    exact row_shrink h.row.1 (by omega)
  refine ⟨?_, h.xg, h.xr, h.ne, h.yg, h.yr, ?_, ?_, ?_⟩
  · have := h.blk.set (k := 0) (.slice (some ⟨gr, 0, none⟩) (k + 1) cap)
    rw [hl]
    exact this
  · rw [hl]
    exact row_keep hr (hkeep gr (.inl ⟨h.xr, Ne.symm h.ne⟩))
  · simp only [List.length_take]; omega
  · intro j p hp
    have hj : j < k + 1 := by
      rcases Nat.lt_or_ge j (k + 1) with h1 | h1
      · exact h1
      · rw [List.getElem?_eq_none (by omega)] at hp; cases hp
    rw [List.getElem?_take_of_lt hj] at hp
    have := h.row.2.2 j p hp
    rw [List.take_take, Nat.min_eq_left (by omega)]
    exact this.keep fun b hb _ => hkeep b (by
      rcases hb with hb | hb
      · exact .inl ⟨hb.1, hb.2.1⟩
      · exact .inr hb)
/-- A state pushed. -/
theorem RtAt.push (h : RtAt w X Y g gr cap m s ptrs) {n : Int} {q : Nat} {o : Obj} {v' : Value} {w5 : World} (hst : StC w (okR X Y g gr) q m (s.ch ++ [n])) (hXn : ∀ b, w.heap.size ≤ b → X b) (hYb : ∀ b, Y b → b < w.heap.size)
    (hown : w5.ownsRow 0 88 1 v' (ptrs.length + 1) (ptrs.map ptrV ++ [ptrV q])) (hg : (w.alloc o).grownBy w5 (some gr)) (hv : v'.ownBlock = some gr ∨ v'.ownBlock = some (w.heap.size + 1)) :
    ∃ gr' cap', v' = .slice (some ⟨gr', 0, none⟩) (ptrs.length + 1) cap' ∧ RtAt (w5.setCell ⟨g, 0, none⟩ v') X Y g gr' cap' m ⟨s.ch ++ [n], s.done, s.steps⟩ (ptrs ++ [q]) ∧ Chg X w (w5.setCell ⟨g, 0, none⟩ v') := by
  obtain ⟨gr', cap', rfl, _, hlt⟩ := World.ownsRow.form hown (by omega)
  have hg0 : gr' = gr ∨ gr' = w.heap.size + 1 := by
    rcases hv with hv | hv
    · left; simpa [Value.ownBlock] using hv
    · right; simpa [Value.ownBlock] using hv
  have hgl : g < w.heap.size := lt_of_some h.blk
  have hrl : gr < w.heap.size := (h.row.1.lt gr rfl).2
  have hsz : w.heap.size ≤ w5.heap.size := Nat.le_trans (by simp) hg.size
  have hne' : g ≠ gr' := by
    rcases hg0 with rfl | rfl
    · exact h.ne
    · omega
  have hblk : ∀ b, b < w.heap.size → b ≠ gr → w5.heap[b]? = w.heap[b]? := fun b hb hbr => (hg.block b (by simp; omega) (fun e => hbr (by injection e))).trans (Below.heap_alloc _ _ _ hb)
  have hblk2 : ∀ b, b < w.heap.size → b ≠ gr → b ≠ g → (w5.setCell ⟨g, 0, none⟩ (.slice (some ⟨gr', 0, none⟩) (ptrs.length + 1) cap')).heap[b]? = w.heap[b]? := fun b hb hbr hbg => (Below.heap_setCell w5 ⟨g, 0, none⟩ _ b hbg).trans (hblk b hb hbr)
  have hok : ∀ b, okR X Y g gr b ∧ b < w.heap.size → okR X Y g gr' b := by
    rintro b ⟨hb, hbl⟩
    rcases hb with ⟨h1, h2, h3⟩ | hy
    · exact .inl ⟨h1, h2, by rcases hg0 with rfl | rfl; exact h3; omega⟩
    · exact .inr hy
  have hkst : ∀ (p : Nat) (c : List Int), StC w (okR X Y g gr) p m c → StC (w5.setCell ⟨g, 0, none⟩ (.slice (some ⟨gr', 0, none⟩) (ptrs.length + 1) cap')) (okR X Y g gr') p m c := fun p c hs =>
    (hs.bound.keep fun b hb _ => hblk2 b hb.2 (h.okR_ne hb.1).2 (h.okR_ne hb.1).1).weaken hok
  have hlen := h.row.2.1
  refine ⟨gr', cap', rfl, ⟨?_, h.xg, ?_, hne', h.yg, ?_, ?_, ?_, ?_⟩, ?_⟩
  · have hb5 : Blk w5 g 87 #[.slice (some ⟨gr, 0, none⟩) ptrs.length cap, .bool s.done, .int .i64 s.steps] := (hblk g hgl h.ne).trans h.blk
    have := hb5.set (k := 0) (.slice (some ⟨gr', 0, none⟩) (ptrs.length + 1) cap')
    rw [List.length_append, List.length_singleton]
    exact this
  · rcases hg0 with rfl | rfl
    · exact h.xr
    · exact hXn _ (by omega)
  · rcases hg0 with rfl | rfl
    · exact h.yr
    · intro hy
      have := hYb _ hy
      omega
  · rw [List.length_append, List.length_singleton, List.map_append]
    exact row_keep hown (Below.heap_setCell w5 ⟨g, 0, none⟩ _ gr' (Ne.symm hne'))
  · simp [hlen]
  · intro k p hp
    rcases Nat.lt_or_ge k ptrs.length with hk | hk
    · rw [List.getElem?_append_left hk] at hp
      rw [List.take_append_of_le_length (by omega)]
      exact hkst _ _ (h.row.2.2 k p hp)
    · have hk2 : k = ptrs.length := by
        rcases Nat.lt_or_ge k (ptrs ++ [q]).length with h1 | h1
        · simp at h1; omega
        · rw [List.getElem?_eq_none h1] at hp; cases hp
      subst hk2
      rw [List.getElem?_append_right (Nat.le_refl _)] at hp
      have hq : q = p := by simpa using hp
      subst hq
      rw [List.take_of_length_le (by simp; omega)]
      exact hkst _ _ hst
  · exact ⟨hg.os, hg.tape, hg.output, by simpa [World.setCell] using hsz, fun b hb hx => hblk2 b hb (fun e => hx (e ▸ h.xr)) (fun e => hx (e ▸ h.xg))⟩
end

/-- What is left of the search, at the beginning of the choices with k nodes. -/
noncomputable def srch (m : MZ) (ch : List Int) (k : Nat) (b : Int) : Option (List Int) :=
  match aft m (ch.take k) b with
  | some n => some (ch.take k ++ [n])
  | none => backN m ch k
theorem srch_top (m : MZ) (ch : List Int) : srch m ch ch.length (-1) = stepC m ch := by
  unfold srch stepC
  rw [List.take_length]
  cases aft m ch (-1) <;> rfl
theorem srch_back {m : MZ} {ch : List Int} {k : Nat} {b : Int} (h : aft m (ch.take (k + 1)) b = none) : srch m ch (k + 1) b = srch m ch k (ch.getD k 0) := by
  unfold srch
  rw [h]
  rfl
theorem srch_zero {m : MZ} {ch : List Int} {b : Int} (h : aft m (ch.take 0) b = none) : srch m ch 0 b = none := by
  unfold srch
  rw [h]
  rfl
theorem aft_none {m : MZ} {ch : List Int} {b : Int} {l : List Int} (hl : l = cand m ch) (h : ∀ n ∈ l, ¬ (b < n ∧ openC m (ch ++ [n]) = true)) : aft m ch b = none := by
  unfold aft
  rw [List.find?_eq_none]
  intro n hn
  have := h n (by rw [hl]; exact hn)
  simp only [Bool.and_eq_true, decide_eq_true_eq]
  exact this
theorem aft_at {m : MZ} {ch : List Int} {b : Int} {i : Nat} (hi : i < (cand m ch).length) (h : ∀ n ∈ (cand m ch).take i, ¬ (b < n ∧ openC m (ch ++ [n]) = true)) (h1 : b < (cand m ch)[i]) (h2 : openC m (ch ++ [(cand m ch)[i]]) = true) : aft m ch b = some (cand m ch)[i] := by
  unfold aft
  generalize cand m ch = l at *
  obtain ⟨x, hx⟩ : ∃ x, x = l[i] := ⟨_, rfl⟩
  rw [← hx] at h1 h2 ⊢
  have hs : l = l.take i ++ x :: l.drop (i + 1) := by
    rw [hx, List.getElem_cons_drop hi, List.take_append_drop]
  rw [hs, List.find?_append, List.find?_eq_none.2 (fun n hn => by
    have := h n hn
    simp only [Bool.and_eq_true, decide_eq_true_eq]
    exact this)]
  simp [h1, h2]
end Go.Proofs.Ytgpjfpcjiebjiaa
