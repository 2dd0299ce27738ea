/- Lists under construction: a slice of the call's own that holds numbers, over a memory that only grew; cells known ahead, kept by every growth. -/
import Derived.Test.YtgpjfpcjiebjiaaRtApp
namespace Go.Proofs.Ytgpjfpcjiebjiaa
open Go.RowKit
set_option linter.unusedVariables false
set_option linter.unusedSimpArgs false

/-- w' has all that w has, as it was. -/
def Ext (w w' : World) : Prop := Below w.heap.size w w'
theorem Ext.refl (w : World) : Ext w w := Below.refl _ _
theorem Ext.trans {a b c : World} (h : Ext a b) (h' : Ext b c) : Ext a c := below_tr h h' (Nat.le_refl _)
theorem Ext.alloc {a b : World} (h : Ext a b) (o : Obj) : Ext a (b.alloc o) := Below.alloc h h.size o
theorem Ext.drew {a b : World} (h : Ext a b) : Ext a b.drew := Below.drew h
theorem Ext.drewN {a b : World} (h : Ext a b) (n : Nat) : Ext a (b.drewN n) := below_drewN h n
theorem Ext.cell {w W : World} {p : Addr} {v : Value} (h : w.cell? p = some v) (hW : Ext w W) : W.cell? p = some v := (Below.cell hW (lt_of_cell h)).trans h
theorem Ext.rule {w : World} {p : Addr} {v : Value} (h : w.cell? p = some v) : ∀ W, Ext w W → W.cell? p = some v := fun _ hW => hW.cell h
theorem Ext.lt {w W : World} (h : Ext w W) {g : Nat} (hg : g < w.heap.size) : g < W.heap.size := Nat.lt_of_lt_of_le hg h.size
theorem ext_allocs (w : World) : ∀ W o, Ext w W → Ext w (W.alloc o) := fun _ o h => h.alloc o
theorem ext_drews (w : World) : ∀ W, Ext w W → Ext w W.drew := fun _ h => h.drew

/-- The list under construction: v holds l, in a block that came behind w1. -/
structure Mk (w1 w : World) (v : Value) (l : List Int) : Prop where
  own : OwnI w w1.heap.size v l
  ext : Ext w1 w
theorem Mk.nil (w1 : World) : Mk w1 w1 (.slice none 0 0) [] := ⟨World.ownsRow_nil _ _ _ _, Ext.refl _⟩
theorem Mk.nil' {w1 w : World} (h : Ext w1 w) : Mk w1 w (.slice none 0 0) [] := ⟨World.ownsRow_nil _ _ _ _, h⟩
theorem Mk.app {w1 w w' : World} {v v' : Value} {l l' : List Int} (h : Mk w1 w v l) (ho : OwnI w' w1.heap.size v' l') (hg : Hid (w.grownBy w' v.ownBlock)) : Mk w1 w' v' l' :=
  ⟨ho, below_app h.ext hg h.ext.size (fun k hk => own_base h.own hk)⟩
theorem Mk.more {w1 w w' : World} {v : Value} {l : List Int} (h : Mk w1 w v l) (hb : Ext w w') : Mk w1 w' v l :=
  ⟨h.own.kept (row := none) ⟨hb.os, hb.tape, hb.output, hb.size, fun i hi _ => hb.block i hi⟩ (by cases h : v.ownBlock <;> simp), h.ext.trans hb⟩
theorem Mk.alloc {w1 w : World} {v : Value} {l : List Int} (h : Mk w1 w v l) (o : Obj) : Mk w1 (w.alloc o) v l := h.more ((Ext.refl _).alloc o)
theorem Mk.drew {w1 w : World} {v : Value} {l : List Int} (h : Mk w1 w v l) : Mk w1 w.drew v l := ⟨h.own, h.ext.drew⟩
theorem Mk.drewN {w1 w : World} {v : Value} {l : List Int} (h : Mk w1 w v l) (n : Nat) : Mk w1 (w.drewN n) v l := ⟨h.own, h.ext.drewN n⟩
theorem Mk.cast {w1 w : World} {v : Value} {l l' : List Int} (h : Mk w1 w v l) (e : l' = l) : Mk w1 w v l' := e ▸ h
theorem Mk.ints {w1 w : World} {v : Value} {l : List Int} (h : Mk w1 w v l) : Ints w (fun b => w1.heap.size ≤ b) v l := Row.of_own h.own
theorem Mk.slice {w1 w : World} {v : Value} {l : List Int} (h : Mk w1 w v l) : ∃ A c, v = .slice A l.length c ∧ l.length ≤ c := by
  obtain ⟨A, c, e, hc, _⟩ := h.ints
  exact ⟨A, c, e, hc⟩
theorem Ext.mono_mk {w w1 w' : World} {v : Value} {l : List Int} (h : Ext w w1) (hm : Mk w1 w' v l) : Mk w w' v l := ⟨hm.own.mono h.size, h.trans hm.ext⟩
theorem held_ext {w1 wk a b : World} (h : Ext w1 a ∧ Ext wk a) (hb : Below a.heap.size a b) : Ext w1 b ∧ Ext wk b := ⟨h.1.trans hb, h.2.trans hb⟩
theorem held_drew {w1 wk : World} (h : Ext w1 wk) : Ext w1 wk.drew ∧ Ext wk wk.drew := ⟨h.drew, (Ext.refl wk).drew⟩
theorem own_slice {w : World} {B : Nat} {v : Value} {l : List Int} (h : OwnI w B v l) : ∃ A c, v = .slice A l.length c ∧ l.length ≤ c := by
  obtain ⟨A, c, e, hc, _⟩ := Row.of_own h
  exact ⟨A, c, e, hc⟩
theorem own_at {w : World} {B n c : Nat} {A : Option Addr} {l : List Int} (h : OwnI w B (.slice A n c) l) {k : Nat} (hk : k < l.length) : ∃ b, A = some ⟨b, 0, none⟩ ∧ B ≤ b ∧ w.cell? ⟨b, k, none⟩ = some (.int .i64 l[k]) := by
  obtain ⟨g, cap, hv, hg, hlt⟩ := World.ownsRow.form h (by omega)
  injection hv with h1 h2 h3
  subst h1 h2 h3
  refine ⟨g, rfl, hg, ?_⟩
  rw [World.ownsRow.cellAt h k (by omega)]
  simp [hk]
theorem cell_new (W : World) (v : Value) (t : TypeId) {g : Nat} (h : g = W.heap.size) : (W.alloc (.cells #[v] t)).cell? ⟨g, 0, none⟩ = some v := by
  subst h
  unfold World.cell?
  simp only [heap_alloc_new]
  rfl
end Go.Proofs.Ytgpjfpcjiebjiaa
