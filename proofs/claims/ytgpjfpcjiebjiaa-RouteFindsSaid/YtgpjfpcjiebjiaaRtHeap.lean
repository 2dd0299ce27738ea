/- Words for memory: slices, slices of slices, tasks and mazes that read as plain data, in blocks that a predicate allows; kept over any change of other blocks. -/
import Derived.WalkKit
import Derived.Lib.Hide
namespace Go.Proofs.Ytgpjfpcjiebjiaa
open Go.RowKit
set_option linter.unusedVariables false

/-- A maze as plain data. -/
structure MZ where
  w : Int
  h : Int
  l : Int
  free : List (List Bool)
  up : List Bool
  tasks : List (List Int × List Int)

theorem lt_of_some {w : World} {k : Nat} {o : Obj} (h : w.heap[k]? = some o) : k < w.heap.size := by
  rcases Nat.lt_or_ge k w.heap.size with h1 | h1
  · exact h1
  · rw [Array.getElem?_eq_none h1] at h; cases h
theorem lt_of_cell {w : World} {a : Addr} {v : Value} (h : w.cell? a = some v) : a.block < w.heap.size := by
  unfold World.cell? at h
  cases hh : w.heap[a.block]? with
  | none => simp [hh] at h
  | some o => exact lt_of_some hh
theorem cell_same {w w' : World} {a : Addr} (h : w'.heap[a.block]? = w.heap[a.block]?) : w'.cell? a = w.cell? a := World.cell?_of_block h

/-- What is kept: the blocks that ok allows and that are there. -/
def Same (ok : Nat → Prop) (w w' : World) : Prop := ∀ b, ok b → b < w.heap.size → w'.heap[b]? = w.heap[b]?
theorem Same.refl (ok : Nat → Prop) (w : World) : Same ok w w := fun _ _ _ => rfl
theorem Same.of_below {ok : Nat → Prop} {w w' : World} (h : Below w.heap.size w w') : Same ok w w' := fun b _ hb => h.block b hb
theorem Same.of_grown {ok : Nat → Prop} {w w' : World} {g : Nat} (h : w.grownBy w' (some g)) (hg : ¬ ok g) : Same ok w w' := fun b hb hlt => h.block b hlt (fun e => hg (by injection e with e; rwa [e] at hb))
theorem Same.of_grown_none {ok : Nat → Prop} {w w' : World} (h : w.grownBy w' none) : Same ok w w' := fun b _ hlt => h.block b hlt (fun e => by cases e)
theorem below_tr {B : Nat} {a w w' : World} (h : Below B a w) (h' : Below w.heap.size w w') (hB : B ≤ a.heap.size) : Below B a w' := h.trans (h'.mono (Nat.le_trans hB h.size))

/-- The cells of a slice at A. -/
def RowA (w : World) (ok : Nat → Prop) (size : Nat) (A : Option Addr) (n : Nat) (xs : List Value) : Prop :=
  xs.length = n * size ∧ (0 < n → ∃ b off, A = some ⟨b, off, none⟩ ∧ ok b ∧ ∀ j u, xs[j]? = some u → w.cell? ⟨b, off + j, none⟩ = some u)
/-- The slice value v holds n elements, the cells xs. -/
def Row (w : World) (ok : Nat → Prop) (size : Nat) (v : Value) (n : Nat) (xs : List Value) : Prop :=
  ∃ A c, v = .slice A n c ∧ n ≤ c ∧ RowA w ok size A n xs

section
variable {w w' : World} {ok ok' : Nat → Prop} {size n : Nat} {A : Option Addr} {v : Value} {xs : List Value}
theorem RowA.keep (h : RowA w ok size A n xs) (hk : Same ok w w') : RowA w' ok size A n xs :=
  ⟨h.1, fun hn => by
    obtain ⟨b, off, e, hb, hc⟩ := h.2 hn
    refine ⟨b, off, e, hb, fun j u hu => ?_⟩
    have h1 := hc j u hu
    exact (cell_same (hk b hb (lt_of_cell h1))).trans h1⟩
theorem RowA.weaken (h : RowA w ok size A n xs) (hk : ∀ b, ok b → ok' b) : RowA w ok' size A n xs :=
  ⟨h.1, fun hn => by
    obtain ⟨b, off, e, hb, hc⟩ := h.2 hn
    exact ⟨b, off, e, hk b hb, hc⟩⟩
theorem RowA.nil (w : World) (ok : Nat → Prop) (size : Nat) (A : Option Addr) : RowA w ok size A 0 [] := ⟨by simp, fun h => absurd h (by omega)⟩
theorem RowA.at_ (h : RowA w ok 1 A n xs) {k : Nat} (hk : k < n) : ∃ b off u, A = some ⟨b, off, none⟩ ∧ ok b ∧ xs[k]? = some u ∧ w.cell? ⟨b, off + k, none⟩ = some u := by
  obtain ⟨b, off, e, hb, hc⟩ := h.2 (by omega)
  have hl : k < xs.length := by have := h.1; omega
  exact ⟨b, off, xs[k], e, hb, List.getElem?_eq_getElem hl, hc k _ (List.getElem?_eq_getElem hl)⟩
theorem Row.keep (h : Row w ok size v n xs) (hk : Same ok w w') : Row w' ok size v n xs := by
  obtain ⟨A, c, rfl, hc, hr⟩ := h
  exact ⟨A, c, rfl, hc, hr.keep hk⟩
theorem Row.weaken (h : Row w ok size v n xs) (hk : ∀ b, ok b → ok' b) : Row w ok' size v n xs := by
  obtain ⟨A, c, rfl, hc, hr⟩ := h
  exact ⟨A, c, rfl, hc, hr.weaken hk⟩
theorem Row.below (h : Row w ok size v n xs) (hb : Below w.heap.size w w') : Row w' ok size v n xs := h.keep (Same.of_below hb)
/-- A row of the call's own is such a slice. -/
theorem Row.of_own {base : Nat} {e : TypeId} (h : w.ownsRow base e size v n xs) : Row w (fun b => base ≤ b) size v n xs := by
  obtain ⟨hl, ⟨rfl, rfl⟩ | ⟨g, cap, cur, rfl, hg, hh, hnc, hcap, hcs, ht⟩⟩ := h
  · exact ⟨none, 0, rfl, Nat.le_refl _, hl, fun h => absurd h (by omega)⟩
  · refine ⟨some ⟨g, 0, none⟩, cap, rfl, hnc, hl, fun _ => ⟨g, 0, rfl, hg, fun j u hu => ?_⟩⟩
    unfold World.cell?
    simp only [hh, Nat.zero_add]
    rw [← ht, List.getElem?_take] at hu
    split at hu
    · simpa using hu
    · cases hu
end

/-! ### Typed slices -/
def Ints (w : World) (ok : Nat → Prop) (v : Value) (l : List Int) : Prop := Row w ok 1 v l.length (l.map (Value.int .i64))
def Bools (w : World) (ok : Nat → Prop) (v : Value) (l : List Bool) : Prop := Row w ok 1 v l.length (l.map Value.bool)
/-- A slice whose elements are values that read as R says. -/
def Each {α : Type} (R : Value → α → Prop) (w : World) (ok : Nat → Prop) (v : Value) (l : List α) : Prop :=
  ∃ vs, Row w ok 1 v l.length vs ∧ ∀ (i : Nat) x, l[i]? = some x → ∃ u, vs[i]? = some u ∧ R u x
def Intss (w : World) (ok : Nat → Prop) (v : Value) (l : List (List Int)) : Prop := Each (Ints w ok) w ok v l
def Boolss (w : World) (ok : Nat → Prop) (v : Value) (l : List (List Bool)) : Prop := Each (Bools w ok) w ok v l
def Tasks (w : World) (ok : Nat → Prop) (v : Value) (l : List (List Int × List Int)) : Prop :=
  ∃ vs, Row w ok 3 v l.length vs ∧ ∀ (i : Nat) x, l[i]? = some x → ∃ s u1 u2, vs[i * 3]? = some (.string s) ∧ vs[i * 3 + 1]? = some u1 ∧ vs[i * 3 + 2]? = some u2 ∧ Ints w ok u1 x.1 ∧ Ints w ok u2 x.2
def MazeV (w : World) (ok : Nat → Prop) (v : Value) (m : MZ) : Prop :=
  ∃ f u t, v = .agg #[.int .i64 m.w, .int .i64 m.h, .int .i64 m.l, f, u, t] ∧ Boolss w ok f m.free ∧ Bools w ok u m.up ∧ Tasks w ok t m.tasks

section
variable {w w' : World} {ok ok' : Nat → Prop} {v : Value}
theorem Ints.keep {l : List Int} (h : Ints w ok v l) (hk : Same ok w w') : Ints w' ok v l := Row.keep h hk
theorem Ints.weaken {l : List Int} (h : Ints w ok v l) (hk : ∀ b, ok b → ok' b) : Ints w ok' v l := Row.weaken h hk
theorem Ints.below {l : List Int} (h : Ints w ok v l) (hb : Below w.heap.size w w') : Ints w' ok v l := Row.below h hb
theorem Bools.keep {l : List Bool} (h : Bools w ok v l) (hk : Same ok w w') : Bools w' ok v l := Row.keep h hk
theorem Bools.weaken {l : List Bool} (h : Bools w ok v l) (hk : ∀ b, ok b → ok' b) : Bools w ok' v l := Row.weaken h hk
theorem Each.keep {α : Type} {R R' : Value → α → Prop} {l : List α} (h : Each R w ok v l) (hk : Same ok w w') (hR : ∀ u x, R u x → R' u x) : Each R' w' ok v l := by
  obtain ⟨vs, hr, he⟩ := h
  refine ⟨vs, hr.keep hk, fun i x hx => ?_⟩
  obtain ⟨u, hu, hr⟩ := he i x hx
  exact ⟨u, hu, hR _ _ hr⟩
theorem Each.weaken {α : Type} {R R' : Value → α → Prop} {l : List α} (h : Each R w ok v l) (hk : ∀ b, ok b → ok' b) (hR : ∀ u x, R u x → R' u x) : Each R' w ok' v l := by
  obtain ⟨vs, hr, he⟩ := h
  refine ⟨vs, hr.weaken hk, fun i x hx => ?_⟩
  obtain ⟨u, hu, hr⟩ := he i x hx
  exact ⟨u, hu, hR _ _ hr⟩
theorem Intss.keep {l : List (List Int)} (h : Intss w ok v l) (hk : Same ok w w') : Intss w' ok v l := Each.keep h hk fun _ _ hr => hr.keep hk
theorem Intss.weaken {l : List (List Int)} (h : Intss w ok v l) (hk : ∀ b, ok b → ok' b) : Intss w ok' v l := Each.weaken h hk fun _ _ hr => hr.weaken hk
theorem Boolss.keep {l : List (List Bool)} (h : Boolss w ok v l) (hk : Same ok w w') : Boolss w' ok v l := Each.keep h hk fun _ _ hr => hr.keep hk
theorem Boolss.weaken {l : List (List Bool)} (h : Boolss w ok v l) (hk : ∀ b, ok b → ok' b) : Boolss w ok' v l := Each.weaken h hk fun _ _ hr => hr.weaken hk
theorem Tasks.keep {l : List (List Int × List Int)} (h : Tasks w ok v l) (hk : Same ok w w') : Tasks w' ok v l := by
  obtain ⟨vs, hr, he⟩ := h
  refine ⟨vs, hr.keep hk, fun i x hx => ?_⟩
  obtain ⟨s, u1, u2, h0, h1, h2, i1, i2⟩ := he i x hx
  exact ⟨s, u1, u2, h0, h1, h2, i1.keep hk, i2.keep hk⟩
theorem Tasks.weaken {l : List (List Int × List Int)} (h : Tasks w ok v l) (hk : ∀ b, ok b → ok' b) : Tasks w ok' v l := by
  obtain ⟨vs, hr, he⟩ := h
  refine ⟨vs, hr.weaken hk, fun i x hx => ?_⟩
  obtain ⟨s, u1, u2, h0, h1, h2, i1, i2⟩ := he i x hx
  exact ⟨s, u1, u2, h0, h1, h2, i1.weaken hk, i2.weaken hk⟩
theorem MazeV.keep {m : MZ} (h : MazeV w ok v m) (hk : Same ok w w') : MazeV w' ok v m := by
  obtain ⟨f, u, t, rfl, h1, h2, h3⟩ := h
  exact ⟨f, u, t, rfl, h1.keep hk, h2.keep hk, h3.keep hk⟩
theorem MazeV.weaken {m : MZ} (h : MazeV w ok v m) (hk : ∀ b, ok b → ok' b) : MazeV w ok' v m := by
  obtain ⟨f, u, t, rfl, h1, h2, h3⟩ := h
  exact ⟨f, u, t, rfl, h1.weaken hk, h2.weaken hk, h3.weaken hk⟩
theorem MazeV.below {m : MZ} (h : MazeV w ok v m) (hb : Below w.heap.size w w') : MazeV w' ok v m := h.keep (Same.of_below hb)
theorem Intss.below {l : List (List Int)} (h : Intss w ok v l) (hb : Below w.heap.size w w') : Intss w' ok v l := h.keep (Same.of_below hb)
theorem Bools.below {l : List Bool} (h : Bools w ok v l) (hb : Below w.heap.size w w') : Bools w' ok v l := h.keep (Same.of_below hb)
theorem Boolss.below {l : List (List Bool)} (h : Boolss w ok v l) (hb : Below w.heap.size w w') : Boolss w' ok v l := h.keep (Same.of_below hb)
theorem Tasks.below {l : List (List Int × List Int)} (h : Tasks w ok v l) (hb : Below w.heap.size w w') : Tasks w' ok v l := h.keep (Same.of_below hb)

/-- An integer slice as the walk takes it apart. -/
theorem Ints.open {l : List Int} (h : Ints w ok v l) : ∃ A c, v = .slice A l.length c ∧ l.length ≤ c ∧ RowA w ok 1 A l.length (l.map (Value.int .i64)) := h
theorem Ints.nil (w : World) (ok : Nat → Prop) : Ints w ok (.slice none 0 0) [] := ⟨none, 0, rfl, Nat.le_refl _, RowA.nil _ _ _ _⟩
theorem intsAt {l : List Int} {n : Nat} {A : Option Addr} (h : RowA w ok 1 A n (l.map (Value.int .i64))) {k : Nat} (hk : k < n) (hl : k < l.length) :
    ∃ b off, A = some ⟨b, off, none⟩ ∧ ok b ∧ w.cell? ⟨b, off + k, none⟩ = some (.int .i64 (l[k])) := by
  obtain ⟨b, off, u, e, hb, hu, hc⟩ := h.at_ hk
  refine ⟨b, off, e, hb, ?_⟩
  rw [List.getElem?_map, List.getElem?_eq_getElem hl] at hu
  rw [hc, ← hu]; rfl
theorem boolsAt {l : List Bool} {n : Nat} {A : Option Addr} (h : RowA w ok 1 A n (l.map Value.bool)) {k : Nat} (hk : k < n) (hl : k < l.length) :
    ∃ b off, A = some ⟨b, off, none⟩ ∧ ok b ∧ w.cell? ⟨b, off + k, none⟩ = some (.bool (l[k])) := by
  obtain ⟨b, off, u, e, hb, hu, hc⟩ := h.at_ hk
  refine ⟨b, off, e, hb, ?_⟩
  rw [List.getElem?_map, List.getElem?_eq_getElem hl] at hu
  rw [hc, ← hu]; rfl
/-- An element of a slice of slices. -/
theorem eachAt {α : Type} {R : Value → α → Prop} {l : List α} {vs : List Value} {n : Nat} {A : Option Addr} (h : RowA w ok 1 A n vs) (he : ∀ (i : Nat) x, l[i]? = some x → ∃ u, vs[i]? = some u ∧ R u x) {k : Nat} (hk : k < n) (hl : k < l.length) :
    ∃ b off u, A = some ⟨b, off, none⟩ ∧ ok b ∧ w.cell? ⟨b, off + k, none⟩ = some u ∧ R u (l[k]) := by
  obtain ⟨b, off, u, e, hb, hu, hc⟩ := h.at_ hk
  obtain ⟨u', hu', hr⟩ := he k _ (List.getElem?_eq_getElem hl)
  rw [hu] at hu'
  injection hu' with hu'
  subst hu'
  exact ⟨b, off, u, e, hb, hc, hr⟩
end
end Go.Proofs.Ytgpjfpcjiebjiaa
