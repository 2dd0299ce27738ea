/- Words for memory: slices, slices of slices, tasks and mazes that read as plain data, in blocks that a predicate allows; kept over any change of other blocks. Walks: small functions over lists of numbers. Walks: comparisons of lists. Sets of numbers that are kept as maps from numbers to true: what look-ups, stores and ranges over them do. -/
import Derived.WalkKit
import Derived.Lib.Hide
import Derived.Test.YtgpjfpcjiebjiaaRows
import Derived.WalkLawsBesides
import Derived.WalkSpells
import Derived.BigQuiet
import Derived.Deep.QuietTactic
import Derived.ChangeMaps4
import Derived.Maps.RangeRun
namespace Go.Proofs.Ytgpjfpcjiebjiaa
open Go.RowKit
set_option linter.unusedVariables false

theorem rtPr {α : Type} : (∀ (xs : List α) (i : Nat) (h : i < xs.toArray.size), xs.toArray[i] = xs[i]'(by simpa using h)) ∧ (∀ (a : α) (l : List α) (i : Nat) (h : i + 1 < (a :: l).length), (a :: l)[i+1] = l[i]'(Nat.lt_of_succ_lt_succ h)) ∧ (∀ (a : α) (l : List α) (h : 0 < (a :: l).length), (a :: l)[0] = a) ∧ (∀ (l : List α) (i : Nat) (a : α), l.toArray.setIfInBounds i a = (l.set i a).toArray) ∧ (∀ (a : α) (l : List α) (b : α), (a :: l).set 0 b = b :: l) ∧ (∀ (a : α) (l : List α) (i : Nat) (b : α), (a :: l).set (i+1) b = a :: l.set i b) :=
 ⟨fun _ _ h => List.getElem_toArray h, fun _ _ _ _ => List.getElem_cons_succ .., fun _ _ _ => List.getElem_cons_zero .., fun _ _ _ => List.setIfInBounds_toArray .., fun _ _ _ => rfl, fun _ _ _ _ => rfl⟩

/-- A maze as plain data. -/
structure MZ where
 w : Int
 h : Int
 l : Int
 free : List (List Bool)
 up : List Bool
 tasks : List (List Int × List Int)

theorem lt_of_some {w : World} {k : Nat} {o : Obj} (h : w.heap[k]? = some o) : k < w.heap.size := by
 rcases Nat.lt_or_ge k w.heap.size with h1 | h1
 ·exact h1
 ·rw [Array.getElem?_eq_none h1] at h; cases h
theorem lt_of_cell {w : World} {a : Addr} {v : Value} (h : w.cell? a = some v) : a.block < w.heap.size := by
 unfold World.cell? at h
 cases hh : w.heap[a.block]? with
 | none => simp [hh] at h
 | some o => exact lt_of_some hh
theorem cell_same {w w' : World} {a : Addr} (h : w'.heap[a.block]? = w.heap[a.block]?) : w'.cell? a = w.cell? a := World.cell?_of_block h

/-- What is kept: the blocks that ok allows and that are there. -/
def Same (ok : Nat → Prop) (w w' : World) : Prop := ∀ b, ok b → b < w.heap.size → w'.heap[b]? = w.heap[b]?
theorem Same.refl (ok : Nat → Prop) (w : World) : Same ok w w := fun _ _ _ => rfl
theorem Same.of_below {ok : Nat → Prop} {w w' : World} (h : Below w.heap.size w w') : Same ok w w' := fun b _ hb => h.block b hb
theorem Same.of_grown {ok : Nat → Prop} {w w' : World} {g : Nat} (h : w.grownBy w' (some g)) (hg : ¬ ok g) : Same ok w w' := fun b hb hlt => h.block b hlt (fun e => hg (by injection e with e; rwa [e] at hb))
theorem Same.of_grown_none {ok : Nat → Prop} {w w' : World} (h : w.grownBy w' none) : Same ok w w' := fun b _ hlt => h.block b hlt (fun e => by cases e)
theorem below_tr {B : Nat} {a w w' : World} (h : Below B a w) (h' : Below w.heap.size w w') (hB : B ≤ a.heap.size) : Below B a w' := h.trans (h'.mono (Nat.le_trans hB h.size))

/-- The cells of a slice at A. -/
def RowA (w : World) (ok : Nat → Prop) (size : Nat) (A : Option Addr) (n : Nat) (xs : List Value) : Prop :=
 xs.length = n * size ∧ (0 < n → ∃ b off, A = some ⟨b, off, none⟩ ∧ ok b ∧ ∀ j u, xs[j]? = some u → w.cell? ⟨b, off + j, none⟩ = some u)
/-- The slice value v holds n elements, the cells xs. -/
def Row (w : World) (ok : Nat → Prop) (size : Nat) (v : Value) (n : Nat) (xs : List Value) : Prop :=
 ∃ A c, v = .slice A n c ∧ n ≤ c ∧ RowA w ok size A n xs

section
variable {w w' : World} {ok ok' : Nat → Prop} {size n : Nat} {A : Option Addr} {v : Value} {xs : List Value}
theorem RowA.keep (h : RowA w ok size A n xs) (hk : Same ok w w') : RowA w' ok size A n xs :=
 ⟨h.1, fun hn => by
  obtain ⟨b, off, e, hb, hc⟩ := h.2 hn
  refine ⟨b, off, e, hb, fun j u hu => ?_⟩
  have h1 := hc j u hu
  exact (cell_same (hk b hb (lt_of_cell h1))).trans h1⟩
theorem RowA.weaken (h : RowA w ok size A n xs) (hk : ∀ b, ok b → ok' b) : RowA w ok' size A n xs :=
 ⟨h.1, fun hn => by
  obtain ⟨b, off, e, hb, hc⟩ := h.2 hn
  exact ⟨b, off, e, hk b hb, hc⟩⟩
theorem RowA.nil (w : World) (ok : Nat → Prop) (size : Nat) (A : Option Addr) : RowA w ok size A 0 [] := ⟨by simp, fun h => absurd h (by omega)⟩
theorem RowA.at_ (h : RowA w ok 1 A n xs) {k : Nat} (hk : k < n) : ∃ b off u, A = some ⟨b, off, none⟩ ∧ ok b ∧ xs[k]? = some u ∧ w.cell? ⟨b, off + k, none⟩ = some u := by
 obtain ⟨b, off, e, hb, hc⟩ := h.2 (by omega)
 have hl : k < xs.length := by have := h.1; omega
 exact ⟨b, off, xs[k], e, hb, List.getElem?_eq_getElem hl, hc k _ (List.getElem?_eq_getElem hl)⟩
theorem Row.keep (h : Row w ok size v n xs) (hk : Same ok w w') : Row w' ok size v n xs := by
 obtain ⟨A, c, rfl, hc, hr⟩ := h
 exact ⟨A, c, rfl, hc, hr.keep hk⟩
theorem Row.weaken (h : Row w ok size v n xs) (hk : ∀ b, ok b → ok' b) : Row w ok' size v n xs := by
 obtain ⟨A, c, rfl, hc, hr⟩ := h
 exact ⟨A, c, rfl, hc, hr.weaken hk⟩
theorem Row.below (h : Row w ok size v n xs) (hb : Below w.heap.size w w') : Row w' ok size v n xs := h.keep (Same.of_below hb)
/-- A row of the call's own is such a slice. -/
theorem Row.of_own {base : Nat} {e : TypeId} (h : w.ownsRow base e size v n xs) : Row w (fun b => base ≤ b) size v n xs := by
 obtain ⟨hl, ⟨rfl, rfl⟩ | ⟨g, cap, cur, rfl, hg, hh, hnc, hcap, hcs, ht⟩⟩ := h
 ·exact ⟨none, 0, rfl, Nat.le_refl _, hl, fun h => absurd h (by omega)⟩
 ·refine ⟨some ⟨g, 0, none⟩, cap, rfl, hnc, hl, fun _ => ⟨g, 0, rfl, hg, fun j u hu => ?_⟩⟩
  unfold World.cell?
  simp only [hh, Nat.zero_add]
  rw [← ht, List.getElem?_take] at hu
  split at hu
  ·simpa using hu
  ·cases hu
end

/-! ### Typed slices -/
def Ints (w : World) (ok : Nat → Prop) (v : Value) (l : List Int) : Prop := Row w ok 1 v l.length (l.map (Value.int .i64))
def Bools (w : World) (ok : Nat → Prop) (v : Value) (l : List Bool) : Prop := Row w ok 1 v l.length (l.map Value.bool)
/-- A slice whose elements are values that read as R says. -/
def Each {α : Type} (R : Value → α → Prop) (w : World) (ok : Nat → Prop) (v : Value) (l : List α) : Prop :=
 ∃ vs, Row w ok 1 v l.length vs ∧ ∀ (i : Nat) x, l[i]? = some x → ∃ u, vs[i]? = some u ∧ R u x
def Intss (w : World) (ok : Nat → Prop) (v : Value) (l : List (List Int)) : Prop := Each (Ints w ok) w ok v l
def Boolss (w : World) (ok : Nat → Prop) (v : Value) (l : List (List Bool)) : Prop := Each (Bools w ok) w ok v l
def Tasks (w : World) (ok : Nat → Prop) (v : Value) (l : List (List Int × List Int)) : Prop :=
 ∃ vs, Row w ok 3 v l.length vs ∧ ∀ (i : Nat) x, l[i]? = some x → ∃ s u1 u2, vs[i * 3]? = some (.string s) ∧ vs[i * 3 + 1]? = some u1 ∧ vs[i * 3 + 2]? = some u2 ∧ Ints w ok u1 x.1 ∧ Ints w ok u2 x.2
def MazeV (w : World) (ok : Nat → Prop) (v : Value) (m : MZ) : Prop :=
 ∃ f u t, v = .agg #[.int .i64 m.w, .int .i64 m.h, .int .i64 m.l, f, u, t] ∧ Boolss w ok f m.free ∧ Bools w ok u m.up ∧ Tasks w ok t m.tasks

section
variable {w w' : World} {ok ok' : Nat → Prop} {v : Value}
theorem Ints.keep {l : List Int} (h : Ints w ok v l) (hk : Same ok w w') : Ints w' ok v l := Row.keep h hk
theorem Ints.weaken {l : List Int} (h : Ints w ok v l) (hk : ∀ b, ok b → ok' b) : Ints w ok' v l := Row.weaken h hk
theorem Ints.below {l : List Int} (h : Ints w ok v l) (hb : Below w.heap.size w w') : Ints w' ok v l := Row.below h hb
theorem Bools.keep {l : List Bool} (h : Bools w ok v l) (hk : Same ok w w') : Bools w' ok v l := Row.keep h hk
theorem Bools.weaken {l : List Bool} (h : Bools w ok v l) (hk : ∀ b, ok b → ok' b) : Bools w ok' v l := Row.weaken h hk
theorem Each.keep {α : Type} {R R' : Value → α → Prop} {l : List α} (h : Each R w ok v l) (hk : Same ok w w') (hR : ∀ u x, R u x → R' u x) : Each R' w' ok v l := by
 obtain ⟨vs, hr, he⟩ := h
 refine ⟨vs, hr.keep hk, fun i x hx => ?_⟩
 obtain ⟨u, hu, hr⟩ := he i x hx
 exact ⟨u, hu, hR _ _ hr⟩
theorem Each.weaken {α : Type} {R R' : Value → α → Prop} {l : List α} (h : Each R w ok v l) (hk : ∀ b, ok b → ok' b) (hR : ∀ u x, R u x → R' u x) : Each R' w ok' v l := by
 obtain ⟨vs, hr, he⟩ := h
 refine ⟨vs, hr.weaken hk, fun i x hx => ?_⟩
 obtain ⟨u, hu, hr⟩ := he i x hx
 exact ⟨u, hu, hR _ _ hr⟩
theorem Intss.keep {l : List (List Int)} (h : Intss w ok v l) (hk : Same ok w w') : Intss w' ok v l := Each.keep h hk fun _ _ hr => hr.keep hk
theorem Intss.weaken {l : List (List Int)} (h : Intss w ok v l) (hk : ∀ b, ok b → ok' b) : Intss w ok' v l := Each.weaken h hk fun _ _ hr => hr.weaken hk
theorem Boolss.keep {l : List (List Bool)} (h : Boolss w ok v l) (hk : Same ok w w') : Boolss w' ok v l := Each.keep h hk fun _ _ hr => hr.keep hk
theorem Boolss.weaken {l : List (List Bool)} (h : Boolss w ok v l) (hk : ∀ b, ok b → ok' b) : Boolss w ok' v l := Each.weaken h hk fun _ _ hr => hr.weaken hk
theorem Tasks.keep {l : List (List Int × List Int)} (h : Tasks w ok v l) (hk : Same ok w w') : Tasks w' ok v l := by
 obtain ⟨vs, hr, he⟩ := h
 refine ⟨vs, hr.keep hk, fun i x hx => ?_⟩
 obtain ⟨s, u1, u2, h0, h1, h2, i1, i2⟩ := he i x hx
 exact ⟨s, u1, u2, h0, h1, h2, i1.keep hk, i2.keep hk⟩
theorem Tasks.weaken {l : List (List Int × List Int)} (h : Tasks w ok v l) (hk : ∀ b, ok b → ok' b) : Tasks w ok' v l := by
 obtain ⟨vs, hr, he⟩ := h
 refine ⟨vs, hr.weaken hk, fun i x hx => ?_⟩
 obtain ⟨s, u1, u2, h0, h1, h2, i1, i2⟩ := he i x hx
 exact ⟨s, u1, u2, h0, h1, h2, i1.weaken hk, i2.weaken hk⟩
theorem MazeV.keep {m : MZ} (h : MazeV w ok v m) (hk : Same ok w w') : MazeV w' ok v m := by
 obtain ⟨f, u, t, rfl, h1, h2, h3⟩ := h
 exact ⟨f, u, t, rfl, h1.keep hk, h2.keep hk, h3.keep hk⟩
theorem MazeV.weaken {m : MZ} (h : MazeV w ok v m) (hk : ∀ b, ok b → ok' b) : MazeV w ok' v m := by
 obtain ⟨f, u, t, rfl, h1, h2, h3⟩ := h
 exact ⟨f, u, t, rfl, h1.weaken hk, h2.weaken hk, h3.weaken hk⟩
theorem MazeV.below {m : MZ} (h : MazeV w ok v m) (hb : Below w.heap.size w w') : MazeV w' ok v m := h.keep (Same.of_below hb)
theorem Intss.below {l : List (List Int)} (h : Intss w ok v l) (hb : Below w.heap.size w w') : Intss w' ok v l := h.keep (Same.of_below hb)
theorem Bools.below {l : List Bool} (h : Bools w ok v l) (hb : Below w.heap.size w w') : Bools w' ok v l := h.keep (Same.of_below hb)
theorem Boolss.below {l : List (List Bool)} (h : Boolss w ok v l) (hb : Below w.heap.size w w') : Boolss w' ok v l := h.keep (Same.of_below hb)
theorem Tasks.below {l : List (List Int × List Int)} (h : Tasks w ok v l) (hb : Below w.heap.size w w') : Tasks w' ok v l := h.keep (Same.of_below hb)

/-- An integer slice as the walk takes it apart. -/
theorem Ints.open {l : List Int} (h : Ints w ok v l) : ∃ A c, v = .slice A l.length c ∧ l.length ≤ c ∧ RowA w ok 1 A l.length (l.map (Value.int .i64)) := h
theorem Ints.nil (w : World) (ok : Nat → Prop) : Ints w ok (.slice none 0 0) [] := ⟨none, 0, rfl, Nat.le_refl _, RowA.nil _ _ _ _⟩
theorem intsAt {l : List Int} {n : Nat} {A : Option Addr} (h : RowA w ok 1 A n (l.map (Value.int .i64))) {k : Nat} (hk : k < n) (hl : k < l.length) :
  ∃ b off, A = some ⟨b, off, none⟩ ∧ ok b ∧ w.cell? ⟨b, off + k, none⟩ = some (.int .i64 (l[k])) := by
 obtain ⟨b, off, u, e, hb, hu, hc⟩ := h.at_ hk
 refine ⟨b, off, e, hb, ?_⟩
 rw [List.getElem?_map, List.getElem?_eq_getElem hl] at hu
 rw [hc, ← hu]; rfl
theorem boolsAt {l : List Bool} {n : Nat} {A : Option Addr} (h : RowA w ok 1 A n (l.map Value.bool)) {k : Nat} (hk : k < n) (hl : k < l.length) :
  ∃ b off, A = some ⟨b, off, none⟩ ∧ ok b ∧ w.cell? ⟨b, off + k, none⟩ = some (.bool (l[k])) := by
 obtain ⟨b, off, u, e, hb, hu, hc⟩ := h.at_ hk
 refine ⟨b, off, e, hb, ?_⟩
 rw [List.getElem?_map, List.getElem?_eq_getElem hl] at hu
 rw [hc, ← hu]; rfl
/-- An element of a slice of slices. -/
theorem eachAt {α : Type} {R : Value → α → Prop} {l : List α} {vs : List Value} {n : Nat} {A : Option Addr} (h : RowA w ok 1 A n vs) (he : ∀ (i : Nat) x, l[i]? = some x → ∃ u, vs[i]? = some u ∧ R u x) {k : Nat} (hk : k < n) (hl : k < l.length) :
  ∃ b off u, A = some ⟨b, off, none⟩ ∧ ok b ∧ w.cell? ⟨b, off + k, none⟩ = some u ∧ R u (l[k]) := by
 obtain ⟨b, off, u, e, hb, hu, hc⟩ := h.at_ hk
 obtain ⟨u', hu', hr⟩ := he k _ (List.getElem?_eq_getElem hl)
 rw [hu] at hu'
 injection hu' with hu'
 subst hu'
 exact ⟨b, off, u, e, hb, hc, hr⟩
end
end Go.Proofs.Ytgpjfpcjiebjiaa

namespace Go.Proofs.Ytgpjfpcjiebjiaa
open Go.RowKit
set_option linter.unusedVariables false
set_option linter.unusedSimpArgs false

theorem ret_int {k : IntKind} {a b : Int} (h : a = b) : Ending.returned (.int k a) = .returned (.int k b) := by rw [h]
theorem ret_bool {a b : Bool} (h : a = b) : Ending.returned (.bool a) = .returned (.bool b) := by rw [h]

set_option maxRecDepth 100000 in
theorem rnodes_calls (W H L : Int) (f u t : Value) (w : World) (h1 : -1000000000 ≤ W * H ∧ W * H ≤ 1000000000) (h2 : -1000000000000000 ≤ W * H * L ∧ W * H * L ≤ 1000000000000000) :
  Calls Try.prog 49 #[.agg #[.int .i64 W, .int .i64 H, .int .i64 L, f, u, t]] w fun e w' => e = .returned (.int .i64 (W * H * L)) ∧ Below w.heap.size w w' := by
 obtain ⟨h1a, h1b⟩ := h1
 obtain ⟨h2a, h2b⟩ := h2
 go_enter Try.func49, Try.ntmps49
 go_wp2
 go_ret
 exact ⟨rfl, (Below.refl _ _).alloc (Nat.le_refl _) _⟩
set_option maxRecDepth 100000 in
theorem qnodes_calls (W H L : Int) (f u t : Value) (w : World) (h1 : -1000000000 ≤ W * H ∧ W * H ≤ 1000000000) (h2 : -1000000000000000 ≤ W * H * L ∧ W * H * L ≤ 1000000000000000) :
  Calls Try.prog 48 #[.agg #[.int .i64 W, .int .i64 H, .int .i64 L, f, u, t]] w fun e w' => e = .returned (.int .i64 (W * H * L)) ∧ Below w.heap.size w w' := by
 obtain ⟨h1a, h1b⟩ := h1
 obtain ⟨h2a, h2b⟩ := h2
 go_enter Try.func48, Try.ntmps48
 go_wp2
 go_ret
 exact ⟨rfl, (Below.refl _ _).alloc (Nat.le_refl _) _⟩

theorem mod_eq (n m : Int) (hm : 0 < m) (hm2 : m ≤ 1000000) : (wrap64 (n.tmod m + m)).tmod m = n % m := by
 have h1 : n.tmod m < m := Int.tmod_lt_of_pos n hm
 have h2 : -m < n.tmod m := by
  have := Int.lt_tmod_of_pos n hm
  omega
 rw [IntWalk.wrap64_in _ (by omega), Int.tmod_eq_emod_of_nonneg (by omega), Int.add_emod_right]
 have h3 := Int.tmod_add_mul_tdiv n m
 have h4 : n = n.tmod m + m * n.tdiv m := h3.symm
 conv => rhs; rw [h4]
 rw [Int.add_mul_emod_self_left]

set_option maxRecDepth 100000 in
theorem mod_calls (n m : Int) (w : World) (hm : 0 < m) (hm2 : m ≤ 1000000) :
  Calls Try.prog 47 #[.int .i64 n, .int .i64 m] w fun e w' => e = .returned (.int .i64 (n % m)) ∧ w = w' := by
 have h := mod_eq n m hm hm2
 have H := Lib.hid h; clear h
 go_enter Try.func47, Try.ntmps47
 go_wp2
 go_ret
 exact ⟨ret_int H.out, rfl⟩

theorem mem_take_succ {l : List Int} {k : Nat} (h : k < l.length) (n : Int) : n ∈ l.take (k + 1) ↔ n ∈ l.take k ∨ n = l[k] := by
 rw [List.take_succ_eq_append_getElem h, List.mem_append, List.mem_singleton]

set_option maxRecDepth 100000 in
theorem has_calls {ok : Nat → Prop} {v : Value} {l : List Int} (n : Int) (w : World) (h : Ints w ok v l) (hl : l.length ≤ 20000000000000) :
  Calls Try.prog 36 #[v, .int .i64 n] w fun e w' => e = .returned (.bool (decide (n ∈ l))) ∧ w = w' := by
 obtain ⟨A, c, rfl, hc, hr⟩ := h
 have HR := Lib.hid hr; clear hr
 go_enter Try.func36, Try.ntmps36
 go_wp2
 go_loop [5] (fun i => ∃ k : Nat, k ≤ l.length ∧ i = .int .i64 k ∧ Hid (n ∉ l.take k)) (fun i => l.length - (intOf i).toNat)
 case atStart => exact ⟨0, Nat.zero_le _, rfl, by simp [Hid]⟩
 case round =>
  obtain ⟨k, hk, rfl, hn⟩ := hrel
  by_cases hlt : k < l.length
  ·obtain ⟨b, off, rfl, _, hcell⟩ := intsAt HR.out hlt hlt
   obtain ⟨x, hx⟩ : ∃ x, x = l[k] := ⟨_, rfl⟩
   rw [← hx] at hcell
   have HX := Lib.hid hx; clear hx
   by_cases hxn : x = n
   ·have hb : (x == n) = true := by simp [hxn]
    have HXN := Lib.hid hxn; clear hxn
    go_wp2
    go_ret
    exact ⟨ret_bool (by simp only [true_eq_decide_iff]; rw [← HXN.out, HX.out]; exact List.getElem_mem _), rfl⟩
   ·have hb : (x == n) = false := by simp [hxn]
    have HXN := Lib.hid hxn; clear hxn
    go_wp2
    go_round
    case rel => exact ⟨k + 1, by omega, by go_num, fun hm => by
     rcases (mem_take_succ hlt n).1 hm with h | h
     ·exact hn.out h
     ·exact HXN.out (HX.out.trans h.symm)⟩
    case measure => simp [intOf]; omega
  ·obtain rfl : k = l.length := by omega
   go_wp2
   go_ret
   exact ⟨ret_bool (by have h := hn.out; rw [List.take_length] at h; simp [h]), rfl⟩

set_option maxRecDepth 100000 in
theorem index_calls {ok : Nat → Prop} {v : Value} {l : List Int} (n : Int) (w : World) (h : Ints w ok v l) (hl : l.length ≤ 20000000000000) :
  Calls Try.prog 86 #[v, .int .i64 n] w fun e w' => ∃ r : Int, e = .returned (.int .i64 r) ∧ (0 ≤ r ↔ n ∈ l) ∧ -1 ≤ r ∧ w = w' := by
 obtain ⟨A, c, rfl, hc, hr⟩ := h
 have HR := Lib.hid hr; clear hr
 go_enter Try.func86, Try.ntmps86
 go_wp2
 go_loop [8] (fun i => ∃ k : Nat, k ≤ l.length ∧ i = .int .i64 k ∧ Hid (n ∉ l.take k)) (fun i => l.length - (intOf i).toNat)
 case atStart => exact ⟨0, Nat.zero_le _, rfl, by simp [Hid]⟩
 case round =>
  obtain ⟨k, hk, rfl, hn⟩ := hrel
  by_cases hlt : k < l.length
  ·obtain ⟨b, off, rfl, _, hcell⟩ := intsAt HR.out hlt hlt
   obtain ⟨x, hx⟩ : ∃ x, x = l[k] := ⟨_, rfl⟩
   rw [← hx] at hcell
   have HX := Lib.hid hx; clear hx
   by_cases hxn : n = x
   ·have hb : (n == x) = true := by simp [hxn]
    have HXN := Lib.hid hxn; clear hxn
    go_wp2
    go_ret
    exact ⟨_, rfl, ⟨fun _ => by rw [HXN.out, HX.out]; exact List.getElem_mem _, fun _ => by omega⟩, by omega, rfl⟩
   ·have hb : (n == x) = false := by simp [hxn]
    have HXN := Lib.hid hxn; clear hxn
    go_wp2
    go_round
    case rel => exact ⟨k + 1, by omega, by go_num, fun hm => by
     rcases (mem_take_succ hlt n).1 hm with h | h
     ·exact hn.out h
     ·exact HXN.out (h.trans HX.out.symm)⟩
    case measure => simp [intOf]; omega
  ·obtain rfl : k = l.length := by omega
   go_wp2
   go_ret
   have h := hn.out
   rw [List.take_length] at h
   exact ⟨_, rfl, ⟨fun h' => by omega, fun h' => absurd h' h⟩, by omega, rfl⟩

set_option maxRecDepth 100000 in
theorem contains_calls {ok : Nat → Prop} {v : Value} {l : List Int} (n : Int) (w : World) (h : Ints w ok v l) (hl : l.length ≤ 20000000000000) :
  Calls Try.prog 67 #[v, .int .i64 n] w fun e w' => e = .returned (.bool (decide (n ∈ l))) ∧ w = w' := by
 have hcall := index_calls n w h hl
 obtain ⟨A, c, rfl, hc, hr⟩ := h
 have H := Lib.hid hcall; clear hcall
 clear hr
 go_enter Try.func67, Try.ntmps67
 go_wp2_with fail
 refine H.out.mono ?_
 rintro e w' ⟨r, rfl, hr, hr1, rfl⟩
 have HR := Lib.hid hr; clear hr
 go_wp2_with fail
 go_ret
 exact ⟨ret_bool (by rw [decide_eq_decide]; exact HR.out), rfl⟩
end Go.Proofs.Ytgpjfpcjiebjiaa

namespace Go.Proofs.Ytgpjfpcjiebjiaa
open Go.RowKit
set_option linter.unusedVariables false
set_option linter.unusedSimpArgs false

theorem below_drewN {B : Nat} {a w : World} (h : Below B a w) (n : Nat) : Below B a (w.drewN n) := ⟨h.os, h.tape, h.output, h.size, h.block⟩
theorem take_succ_eq {α : Type} {a b : List α} {k : Nat} (ha : k < a.length) (hb : k < b.length) : a.take (k + 1) = b.take (k + 1) ↔ a.take k = b.take k ∧ a[k] = b[k] := by
 rw [List.take_succ_eq_append_getElem ha, List.take_succ_eq_append_getElem hb]
 constructor
 ·intro h
  have hl : (a.take k).length = (b.take k).length := by simp; omega
  have := List.append_inj h hl
  simpa using this
 ·rintro ⟨h1, h2⟩
  rw [h1, h2]

/-- w' is w but for some draws. -/
def Drew (w w' : World) : Prop := ∃ n, w' = w.drewN n
theorem Drew.refl (w : World) : Drew w w := ⟨0, rfl⟩
theorem Drew.trans {a b c : World} (h : Drew a b) (h' : Drew b c) : Drew a c := by
 obtain ⟨n, rfl⟩ := h
 obtain ⟨m, rfl⟩ := h'
 exact ⟨n + m, by rw [World.drewN_drewN]⟩
theorem Drew.more {a b : World} (h : Drew a b) (n : Nat) : Drew a (b.drewN n) := h.trans ⟨n, rfl⟩
theorem Drew.same {a b : World} (h : Drew a b) (ok : Nat → Prop) : Same ok a b := by
 obtain ⟨n, rfl⟩ := h
 exact fun _ _ _ => rfl
theorem Drew.below {a b : World} (h : Drew a b) (B : Nat) : Below B a b := by
 obtain ⟨n, rfl⟩ := h
 exact below_drewN (Below.refl _ _) n
theorem Drew.of_eq {a b : World} (h : a = b) : Drew a b := ⟨0, h.symm⟩

set_option maxRecDepth 100000 in
theorem same_calls {ok ok' : Nat → Prop} {v v' : Value} {a b : List Int} (w : World) (h : Ints w ok v a) (h' : Ints w ok' v' b) (hl : a.length ≤ 20000000000000) (hl' : b.length ≤ 20000000000000) :
  Calls Try.prog 54 #[v, v'] w fun e w' => e = .returned (.bool (decide (a = b))) ∧ Drew w w' := by
 obtain ⟨A, c, rfl, hc, hr⟩ := h
 obtain ⟨A', c', rfl, hc', hr'⟩ := h'
 have HR := Lib.hid hr; clear hr
 have HR' := Lib.hid hr'; clear hr'
 by_cases hlen : a.length = b.length
 ·have hlb : ((a.length : Int) != (b.length : Int)) = false := by simp [hlen]
  have hle : a.length ≤ b.length := by omega
  have hle' : b.length ≤ a.length := by omega
  have HL := Lib.hid hlen; clear hlen
  go_enter Try.func54, Try.ntmps54
  go_wp2
  go_loopw [5] (fun i wr => ∃ k : Nat, k ≤ a.length ∧ i = .int .i64 k ∧ Hid (a.take k = b.take k) ∧ Hid (Drew w wr)) (fun i _ => a.length - (intOf i).toNat)
  case atStart => exact ⟨0, Nat.zero_le _, rfl, by simp [Hid], Drew.refl _⟩
  case round =>
   obtain ⟨k, hk, rfl, heq, hq⟩ := hrel
   by_cases hlt : k < a.length
   ·have hlt' : k < b.length := by omega
    obtain ⟨bA, off, rfl, _, hcell⟩ := intsAt (HR.out.keep (hq.out.same ok)) hlt hlt
    obtain ⟨bB, off', rfl, _, hcell'⟩ := intsAt (HR'.out.keep (hq.out.same ok')) hlt' hlt'
    obtain ⟨x, hx⟩ : ∃ x, x = a[k] := ⟨_, rfl⟩
    obtain ⟨y, hy⟩ : ∃ y, y = b[k] := ⟨_, rfl⟩
    rw [← hx] at hcell
    rw [← hy] at hcell'
    have HX := Lib.hid hx; clear hx
    have HY := Lib.hid hy; clear hy
    by_cases hxy : x = y
    ·have hbt : (x != y) = false := by simp [hxy]
     have HXY := Lib.hid hxy; clear hxy
     go_wp2
     go_quiet (fail)
     go_wp2
     go_roundw
     case rel => exact ⟨k + 1, by omega, by go_num, (take_succ_eq hlt hlt').2 ⟨heq.out, by rw [← HX.out, ← HY.out, HXY.out]⟩, hq.out.more _⟩
     case measure => simp [intOf]; omega
    ·have hbt : (x != y) = true := by simp [hxy]
     have HXY := Lib.hid hxy; clear hxy
     go_wp2
     go_quiet (fail)
     go_wp2
     go_ret
     refine ⟨ret_bool ?_, hq.out.more _⟩
     rw [eq_comm, decide_eq_false_iff_not]
     rintro rfl
     exact HXY.out (HX.out.trans HY.out.symm)
   ·obtain rfl : k = a.length := by omega
    go_wp2
    go_ret
    refine ⟨ret_bool ?_, hq.out⟩
    have h := heq.out
    rw [List.take_length, HL.out, List.take_length] at h
    simp [h]
 ·have hlb : ((a.length : Int) != (b.length : Int)) = true := by simp only [bne_iff_ne]; omega
  have HL := Lib.hid hlen; clear hlen
  go_enter Try.func54, Try.ntmps54
  go_wp2
  go_ret
  refine ⟨ret_bool ?_, Drew.refl _⟩
  rw [eq_comm, decide_eq_false_iff_not]
  rintro rfl
  exact HL.out rfl

set_option maxRecDepth 100000 in
theorem is_calls {ok ok' : Nat → Prop} {v v' : Value} {a b : List Int} (w : World) (h : Ints w ok v a) (h' : Ints w ok' v' b) (hl : a.length ≤ 20000000000000) (hl' : b.length ≤ 20000000000000) :
  Calls Try.prog 17 #[v, v'] w fun e w' => e = .returned (.bool (decide (a = b))) ∧ Drew w w' := by
 have H := Lib.hid (same_calls w h h' hl hl')
 obtain ⟨A, c, rfl, hc, hr⟩ := h
 obtain ⟨A', c', rfl, hc', hr'⟩ := h'
 clear hr hr'
 go_enter Try.func17, Try.ntmps17
 go_wp2_with fail
 refine H.out.mono ?_
 rintro e w1 ⟨rfl, hd⟩
 have HD := Lib.hid hd; clear hd
 go_wp2_with fail
 go_ret
 exact ⟨rfl, HD.out⟩

set_option maxRecDepth 100000 in
theorem samePaths_calls {ok ok' : Nat → Prop} {v v' : Value} {a b : List (List Int)} (w : World) (h : Intss w ok v a) (h' : Intss w ok' v' b) (hl : a.length ≤ 20000000000000) (hl' : b.length ≤ 20000000000000)
  (ha : ∀ x ∈ a, x.length ≤ 20000000000000) (hb : ∀ x ∈ b, x.length ≤ 20000000000000) :
  Calls Try.prog 30 #[v, v'] w fun e w' => e = .returned (.bool (decide (a = b))) ∧ Drew w w' := by
 obtain ⟨vs, ⟨A, c, rfl, hc, hr⟩, he⟩ := h
 obtain ⟨vs', ⟨A', c', rfl, hc', hr'⟩, he'⟩ := h'
 have HR := Lib.hid hr; clear hr
 have HR' := Lib.hid hr'; clear hr'
 have HE := Lib.hid he; clear he
 have HE' := Lib.hid he'; clear he'
 have HA := Lib.hid ha; clear ha
 have HB := Lib.hid hb; clear hb
 by_cases hlen : a.length = b.length
 ·have hlb : ((a.length : Int) != (b.length : Int)) = false := by simp [hlen]
  have hle : a.length ≤ b.length := by omega
  have hle' : b.length ≤ a.length := by omega
  have HL := Lib.hid hlen; clear hlen
  go_enter Try.func30, Try.ntmps30
  go_wp2
  go_loopw [5] (fun i wr => ∃ k : Nat, k ≤ a.length ∧ i = .int .i64 k ∧ Hid (a.take k = b.take k) ∧ Hid (Drew w wr)) (fun i _ => a.length - (intOf i).toNat)
  case atStart => exact ⟨0, Nat.zero_le _, rfl, by simp [Hid], Drew.refl _⟩
  case round =>
   obtain ⟨k, hk, rfl, heq, hq⟩ := hrel
   by_cases hlt : k < a.length
   ·have hlt' : k < b.length := by omega
    obtain ⟨bA, off, u, rfl, _, hcell, hu⟩ := eachAt (HR.out.keep (hq.out.same ok)) HE.out hlt hlt
    obtain ⟨bB, off', u', rfl, _, hcell', hu'⟩ := eachAt (HR'.out.keep (hq.out.same ok')) HE'.out hlt' hlt'
    have hla := HA.out _ (List.getElem_mem hlt)
    have hlb2 := HB.out _ (List.getElem_mem hlt')
    obtain ⟨x, hx⟩ : ∃ x, x = a[k] := ⟨_, rfl⟩
    obtain ⟨y, hy⟩ : ∃ y, y = b[k] := ⟨_, rfl⟩
    rw [← hx] at hu hla
    rw [← hy] at hu' hlb2
    have HX := Lib.hid hx; clear hx
    have HY := Lib.hid hy; clear hy
    have hcallS : ∀ n, Calls Try.prog 54 #[u, u'] (wr.drewN n) fun e w' => e = .returned (.bool (decide (x = y))) ∧ ∃ m, w' = (wr.drewN n).drewN m :=
     fun n => same_calls (wr.drewN n) (hu.keep ((hq.out.more n).same ok)) (hu'.keep ((hq.out.more n).same ok')) hla hlb2
    have HS := Lib.hid hcallS; clear hcallS hu hu' hla hlb2
    by_cases hxy : x = y
    ·have hbt : decide (x = y) = true := by simp [hxy]
     rw [hbt] at HS
     have HXY := Lib.hid hxy; clear hxy hbt
     go_wp2
     go_quiet ((go_at_call 54; exact Calls.quiet_of (HS.out _)))
     go_wp2
     go_roundw
     case rel => exact ⟨k + 1, by omega, by go_num, (take_succ_eq hlt hlt').2 ⟨heq.out, by rw [← HX.out, ← HY.out, HXY.out]⟩, hq.out.more _⟩
     case measure => simp [intOf]; omega
    ·have hbt : decide (x = y) = false := by simp [hxy]
     rw [hbt] at HS
     have HXY := Lib.hid hxy; clear hxy hbt
     go_wp2
     go_quiet ((go_at_call 54; exact Calls.quiet_of (HS.out _)))
     go_wp2
     go_ret
     refine ⟨ret_bool ?_, hq.out.more _⟩
     rw [eq_comm, decide_eq_false_iff_not]
     rintro rfl
     exact HXY.out (HX.out.trans HY.out.symm)
   ·obtain rfl : k = a.length := by omega
    go_wp2
    go_ret
    refine ⟨ret_bool ?_, hq.out⟩
    have h := heq.out
    rw [List.take_length, HL.out, List.take_length] at h
    simp [h]
 ·have hlb : ((a.length : Int) != (b.length : Int)) = true := by simp only [bne_iff_ne]; omega
  have HL := Lib.hid hlen; clear hlen
  go_enter Try.func30, Try.ntmps30
  go_wp2
  go_ret
  refine ⟨ret_bool ?_, Drew.refl _⟩
  rw [eq_comm, decide_eq_false_iff_not]
  rintro rfl
  exact HL.out rfl
end Go.Proofs.Ytgpjfpcjiebjiaa

namespace Go.Proofs.Ytgpjfpcjiebjiaa
open Go.RowKit
open Go.ChangeMaps (setBlock)
set_option linter.unusedVariables false
set_option linter.unusedSimpArgs false

def entFrom : List Int → Nat → List MapEntry
 | [], _ => []
 | x :: l, b => { key := .int .i64 x, val := .bool true, born := b } :: entFrom l (b + 1)
/-- A set of numbers as an object of memory. -/
def mapObj (l : List Int) : Obj := .map (entFrom l 0).toArray l.length
/-- The set l lies at g. -/
def SetIs (w : World) (g : Nat) (l : List Int) : Prop := w.heap[g]? = some (mapObj l)
/-- l with x. -/
def ins (l : List Int) (x : Int) : List Int := if x ∈ l then l else l ++ [x]
theorem mem_ins {l : List Int} {x y : Int} : y ∈ ins l x ↔ y ∈ l ∨ y = x := by
 unfold ins
 split
 ·constructor
  ·exact .inl
  ·rintro (h | rfl)
   ·exact h
   ·assumption
 ·simp
theorem ins_len (l : List Int) (x : Int) : (ins l x).length ≤ l.length + 1 := by unfold ins; split <;> simp
theorem entFrom_length : ∀ (l : List Int) (b : Nat), (entFrom l b).length = l.length
 | [], _ => rfl
 | _ :: l, b => by simp [entFrom, entFrom_length l]
theorem entFrom_append : ∀ (l l' : List Int) (b : Nat), entFrom (l ++ l') b = entFrom l b ++ entFrom l' (b + l.length)
 | [], _, _ => by simp [entFrom]
 | _ :: l, l', b => by simp [entFrom, entFrom_append l l' (b + 1), Nat.add_assoc, Nat.add_comm 1]
theorem entFrom_get : ∀ (l : List Int) (b i : Nat), (entFrom l b)[i]? = (l[i]?).map fun x => { key := .int .i64 x, val := .bool true, born := b + i }
 | [], _, _ => by simp [entFrom]
 | x :: l, b, 0 => by simp [entFrom]
 | x :: l, b, i + 1 => by simp [entFrom, entFrom_get l (b + 1) i, Nat.add_assoc, Nat.add_comm 1]

theorem SetIs.keep {ok : Nat → Prop} {w w' : World} {g : Nat} {l : List Int} (h : SetIs w g l) (hk : Same ok w w') (hg : ok g) : SetIs w' g l := (hk g hg (lt_of_some h)).trans h
theorem SetIs.below {w w' : World} {g : Nat} {l : List Int} (h : SetIs w g l) (hb : Below w.heap.size w w') : SetIs w' g l := (hb.block g (lt_of_some h)).trans h
theorem SetIs.new (w : World) : SetIs (w.alloc (.map #[] 0)) w.heap.size [] := heap_alloc_new _ _

open Go.Instr in
theorem findNow_ent (x : Int) : ∀ (l : List Int) (b s : Nat), findNow (.int .i64) (.int .i64 x) (entFrom l b) s = some (if x ∈ l then some (s + l.idxOf x, .bool true) else none)
 | [], _, _ => by simp [entFrom, findNow]
 | y :: l, b, s => by
  simp only [entFrom, findNow, sameNow, if_true]
  by_cases h : x = y
  ·subst h; simp
  ·have hb : (x == y) = false := by simpa using h
   have hb' : (y == x) = false := by simpa using fun e : y = x => h e.symm
   simp only [hb]
   rw [findNow_ent x l (b + 1) (s + 1)]
   by_cases hm : x ∈ l
   ·have hm' : x ∈ y :: l := List.mem_cons_of_mem _ hm
    rw [if_pos hm, if_pos hm', List.idxOf_cons, hb']
    simp only [cond_false, Bool.false_eq_true, if_false]
    rw [show s + 1 + l.idxOf x = s + (l.idxOf x + 1) by omega]
   ·have hm' : ¬ x ∈ y :: l := by simp [h, hm]
    rw [if_neg hm, if_neg hm']

theorem run_getObj' {P : Program} {w : World} {g : Nat} {es : Array MapEntry} {n : Nat} (h : w.heap[g]? = some (.map es n)) : (getObj g).run P w = .ok (.map es n) w := by simp [getObj, Sem.run, h]

theorem run_setObj' {P : Program} {w : World} {g : Nat} {es : Array MapEntry} {n : Nat} (o' : Obj) (h : w.heap[g]? = some (.map es n)) : (setObj g o').run P w = .ok () (setBlock w g o') := by
 simp [setObj, Sem.run, h, setBlock]

open Go.Instr in
theorem run_checkKey (b : Bool) (n : Nat) (x : Int) (w : World) : (checkKey b (n + 1) 3 (.int .i64 x)).run Try.prog w = .ok () w := by
 simp [checkKey, run_underlying Try.underlying3]

/-- 's[x]'. -/
theorem run_look {w : World} {g : Nat} {l : List Int} (h : SetIs w g l) (x : Int) (t : TypeId) (ht : Try.prog.underlying t = some (.map 3 4)) :
  (Instr.lookup t (.map (some g)) (.int .i64 x) false).run Try.prog w = .ok (.bool (decide (x ∈ l))) w := by
 have hz : ∀ w, (zeroValue 4).run Try.prog w = .ok (.bool false) w := fun w => by kernel_rfl
 unfold Instr.lookup
 simp only [Sem.run_bind, run_underlying ht, Result.andThen_ok, run_getObj' h, mapObj, Sem.run_pure]
 rw [show (10000 : Nat) = 9999 + 1 from rfl, run_checkKey]
 simp only [Result.andThen_ok, Instr.findKey, Sem.run_bind, run_underlying Try.underlying3, List.toList_toArray, findNow_ent]
 by_cases hm : x ∈ l
 ·simp [hm]
 ·simp [hm, hz]

theorem setBlk_same {w : World} {g : Nat} {o o' : Obj} (h : w.heap[g]? = some o) : (setBlock w g o').heap[g]? = some o' := by
 have := lt_of_some h
 simp [setBlock, this]
theorem setBlk_other {w : World} {g k : Nat} (o : Obj) (h : k ≠ g) : (setBlock w g o).heap[k]? = w.heap[k]? := by
 simp [setBlock, Ne.symm h]

/-- 's[x] = true'. -/
theorem run_add {w : World} {g : Nat} {l : List Int} (h : SetIs w g l) (x : Int) (t : TypeId) (ht : Try.prog.underlying t = some (.map 3 4)) :
  ∃ w', (Instr.mapUpdate t (.map (some g)) (.int .i64 x) (.bool true)).run Try.prog w = .ok () w' ∧ SetIs w' g (ins l x) ∧ w.grownBy w' (some g) := by
 refine ⟨setBlock w g (mapObj (ins l x)), ?_, setBlk_same h, ⟨rfl, rfl, rfl, by simp [setBlock], fun k _ hk => setBlk_other _ (fun e => hk (by rw [e]))⟩⟩
 unfold Instr.mapUpdate
 simp only [Sem.run_bind, run_underlying ht, Result.andThen_ok, run_getObj' h, mapObj]
 rw [show (10000 : Nat) = 9999 + 1 from rfl, run_checkKey]
 simp only [Result.andThen_ok, Instr.findKey, Sem.run_bind, run_underlying Try.underlying3, List.toList_toArray, findNow_ent]
 by_cases hm : x ∈ l
 ·simp only [hm, if_true, Sem.run_pure, Result.andThen_ok, Nat.zero_add]
  have hi : l.idxOf x < l.length := List.idxOf_lt_length_of_mem hm
  have hx : l[l.idxOf x] = x := List.getElem_idxOf hi
  have hk : ∀ W, (Instr.keyThatStays ((((entFrom l 0).toArray[l.idxOf x]?).map (·.key)).getD (.int .i64 x)) (.int .i64 x)).run Try.prog W = .ok (.int .i64 x) W := by
   intro W
   rw [List.getElem?_toArray, entFrom_get, List.getElem?_eq_getElem hi]
   simp [Instr.keyThatStays, Instr.sameBits, hx]
  rw [Sem.run_bind, hk]
  simp only [Result.andThen_ok]
  have hmod : (entFrom l 0).toArray.modify (l.idxOf x) (fun e => { e with key := .int .i64 x, val := .bool true }) = (entFrom l 0).toArray := by
   apply Array.ext_getElem?
   intro i
   rw [Array.getElem?_modify]
   split
   ·rename_i e
    subst e
    rw [List.getElem?_toArray, entFrom_get, List.getElem?_eq_getElem hi]
    simp [hx]
   ·rfl
  rw [hmod, run_setObj' _ h]
  have : ins l x = l := by simp [ins, hm]
  rw [this]
 ·simp only [hm, if_false, Sem.run_pure, Result.andThen_ok]
  rw [run_setObj' _ h]
  have : ins l x = l ++ [x] := by simp [ins, hm]
  rw [this, entFrom_append]
  simp [entFrom]

theorem wpSetAdd {ops : Array Oper} {rest : List Oper} {o : Oper} {a : Act} {w : World} {Q : Exit → Act → World → Prop} (hg : o.guard = none) (m y v : Operand) (t : TypeId) (hop : o.op = Op.mapUpdate t m y v)
  (ht : Try.prog.underlying t = some (.map 3 4)) (g : Nat) (l : List Int) (x : Int) (hm : a.eval m = .map (some g)) (hy : a.eval y = .int .i64 x) (hv : a.eval v = .bool true) (hs : SetIs w g l)
  (hK : ∀ w', SetIs w' g (ins l x) → w.grownBy w' (some g) → wpList Try.prog ops Q rest (a.put o.dst undef) w') : wpList Try.prog ops Q (o :: rest) a w := by
 refine wpList_plain hg fun K' hK' => ?_
 obtain ⟨w', hrun, h1, h2⟩ := run_add hs x t ht
 unfold Oper.wp
 simp [execOp, hop, hm, hy, hv, hrun, Result.andThen]
 exact hK' _ _ (hK w' h1 h2)
end Go.Proofs.Ytgpjfpcjiebjiaa
