/- append of rows of any element onto rows of the call's own. Words for Odd: the maze while it is changed. -/
import Derived.Test.YtgpjfpcjiebjiaaGn
namespace Go.Proofs.Ytgpjfpcjiebjiaa
open Go.RowKit
set_option linter.unusedVariables false
set_option linter.unusedSimpArgs false

/-- What an element's type is: its zero, its cells, its bytes. -/
structure ElemI (t e : TypeId) (z : Value) (sz bytes : Nat) : Prop where
 ht : Try.prog.underlying t = some (.slice e)
 hi : (Try.prog.info? e).map (fun i => (i.zero, i.size, i.bytes)) = some (some z, sz, bytes)
 hz : z.cells.size = sz
 h0 : 0 < sz
theorem run_append_rowS {ok : Nat → Prop} (w : World) (base : Nat) (t ty e : TypeId) (z : Value) (sz bytes : Nat) (I : ElemI t e z sz bytes)
  (v : Value) (n : Nat) (xs : List Value) (hown : w.ownsRow base e sz v n xs) (u : Value) (m : Nat) (news : List Value) (hu : Row w ok sz u m news) (h1 : ∀ u ∈ news, u.oneCell' = true)
  (h63 : n + m ≤ maxLen) (hbytes : (n + m) * bytes ≤ 140737488355328) (hbase : base ≤ w.heap.size) :
  ∃ v' w', (Builtin.append_ #[t, t] ty #[v, u]).run Try.prog w = .ok v' w' ∧ w'.ownsRow base e sz v' (n + m) (xs ++ news) ∧ w.grownBy w' v.ownBlock ∧ (v'.ownBlock = v.ownBlock ∨ v'.ownBlock = some w.heap.size) := by
 obtain ⟨i, hi, hz, hsize, hby⟩ := info_parts I.hi
 have ht := I.ht
 have hzs := I.hz
 have hpos := I.h0
 obtain ⟨A, c, rfl, hc, hl, hcells⟩ := hu
 rcases A with _ | a
 ·have hm : m = 0 := by
   rcases Nat.eq_zero_or_pos m with h | h
   ·exact h
   ·obtain ⟨b, off, e, _⟩ := hcells h
    cases e
  subst hm
  have hn : news = [] := List.eq_nil_of_length_eq_zero (by simpa using hl)
  subst hn
  refine ⟨v, w, ?_, by simpa using hown, ⟨rfl, rfl, rfl, Nat.le_refl _, fun _ _ _ => rfl⟩, .inl rfl⟩
  rcases hown.2 with ⟨rfl, rfl⟩ | ⟨g, cap, cur, rfl, hbg, hg, hnc, hcm, hcs, htake⟩
  ·simp [Builtin.append_, run_underlying ht, sizeOf, typeInfo, hi, hsize, Builtin.lenOf, Builtin.firstCells, loadCells, loadCellsFrom]
  ·have h := run_append_room_src (P := Try.prog) w t t ty e i ht hi g 0 n cap (.slice none 0 c) 0 [] (by rw [hsize]; exact Src.ofNil w ht c) (by omega) (by simp) (by simp)
   rw [setCells_nil] at h
   simpa using h
 ·rcases Nat.eq_zero_or_pos m with h0 | hmp
  ·subst h0
   have hn : news = [] := List.eq_nil_of_length_eq_zero (by simpa using hl)
   subst hn
   obtain ⟨v', w', h1, h2, h3, h4, h5⟩ := run_append_own_at (P := Try.prog) w base t ty e i z sz bytes ht hi hz hsize hby hzs hpos v n xs hown a 0 c [] (by simp) (by simp) (by simp) h63 hbytes hbase
   exact ⟨v', w', h1, h2, h3, h5⟩
  ·obtain ⟨b, off, he, _, hc'⟩ := hcells hmp
   injection he with he
   subst he
   obtain ⟨v', w', h1, h2, h3, h4, h5⟩ := run_append_own_at (P := Try.prog) w base t ty e i z sz bytes ht hi hz hsize hby hzs hpos v n xs hown ⟨b, off, none⟩ m c news hl (fun j u hj => by rw [Addr.add_lit]; exact hc' j u hj) h1 h63 hbytes hbase
   exact ⟨v', w', h1, h2, h3, h5⟩
theorem wp_append_row {ok : Nat → Prop} {o : Oper} {a : Act} {K : Act → World → Prop} {Q : Exit → Act → World → Prop} (W : World) (s x : Operand) {t e : TypeId} {z : Value} {sz bytes : Nat} (I : ElemI t e z sz bytes)
  (ho : o.op = .call { callee := .builtin .append, args := #[s, x], argTypes := #[t, t] }) (base n m : Nat) (l l2 : List Value) (v u : Value) (hs : a.eval s = v) (hx : a.eval x = u)
  (hown : W.ownsRow base e sz v n l) (hu : Row W ok sz u m l2) (h1 : ∀ u ∈ l2, u.oneCell' = true) (hbase : base ≤ W.heap.size) (h63 : n + m ≤ maxLen) (hl : (n + m) * bytes ≤ 140737488355328)
  (h : ∀ v' w', w'.ownsRow base e sz v' (n + m) (l ++ l2) → W.grownBy w' v.ownBlock → (v'.ownBlock = v.ownBlock ∨ v'.ownBlock = some W.heap.size) → K (a.put o.dst v') w') : Oper.wp Try.prog o a W K Q := by
 obtain ⟨v', w', hr, h2, h3, h5⟩ := run_append_rowS (ok := ok) W base t o.type e z sz bytes I v n l hown u m l2 hu h1 h63 hl hbase
 unfold Oper.wp execOp
 simp only [ho, resolve, invoke, builtin, Sem.run_bind, Sem.run_pure, Result.andThen_ok, List.map_toArray, List.map_cons, List.map_nil, hs, hx, hr]
 exact h v' w' h2 h3 h5
theorem wpList_append_row {ok : Nat → Prop} {ops : Array Oper} {rest : List Oper} {o : Oper} {a : Act} {Q : Exit → Act → World → Prop} (hgd : o.guard = none) (W : World) (s x : Operand) {t e : TypeId} {z : Value} {sz bytes : Nat} (I : ElemI t e z sz bytes)
  (ho : o.op = .call { callee := .builtin .append, args := #[s, x], argTypes := #[t, t] }) (base n m : Nat) (l l2 : List Value) (v u : Value) (hs : a.eval s = v) (hx : a.eval x = u)
  (hown : W.ownsRow base e sz v n l) (hu : Row W ok sz u m l2) (h1 : ∀ u ∈ l2, u.oneCell' = true) (hbase : base ≤ W.heap.size) (h63 : n + m ≤ maxLen) (hl : (n + m) * bytes ≤ 140737488355328)
  (h : ∀ v' w', w'.ownsRow base e sz v' (n + m) (l ++ l2) → W.grownBy w' v.ownBlock → (v'.ownBlock = v.ownBlock ∨ v'.ownBlock = some W.heap.size) → wpList Try.prog ops Q rest (a.put o.dst v') w') : wpList Try.prog ops Q (o :: rest) a W := by
 refine wpList_plain hgd fun K hK => ?_
 exact wp_append_row W s x I ho base n m l l2 v u hs hx hown hu h1 hbase h63 hl fun v' w' h1 h2 h3 => hK _ _ (h v' w' h1 h2 h3)
theorem step_append_row {ok : Nat → Prop} {ops : Array Oper} {o : Oper} {a : Act} {K : Act → World → Prop} {Q : Exit → Act → World → Prop} {E : Prop} (hgd : o.guard = none) (W : World) (s x : Operand) {t e : TypeId} {z : Value} {sz bytes : Nat} (I : ElemI t e z sz bytes)
  (ho : o.op = .call { callee := .builtin .append, args := #[s, x], argTypes := #[t, t] }) (base n m : Nat) (l l2 : List Value) (v u : Value) (hs : a.eval s = v) (hx : a.eval x = u)
  (hown : W.ownsRow base e sz v n l) (hu : Row W ok sz u m l2) (h1 : ∀ u ∈ l2, u.oneCell' = true) (hbase : base ≤ W.heap.size) (h63 : n + m ≤ maxLen) (hl : (n + m) * bytes ≤ 140737488355328)
  (h : ∀ v' w', w'.ownsRow base e sz v' (n + m) (l ++ l2) → W.grownBy w' v.ownBlock → (v'.ownBlock = v.ownBlock ∨ v'.ownBlock = some W.heap.size) → K (a.put o.dst v') w') :
  if Region.wanted o (yielded ops a.tmps) = true then Oper.wp Try.prog o a W K Q else E := by
 have hw : Region.wanted o (yielded ops a.tmps) = true := by simp [Region.wanted, hgd]
 rw [if_pos hw]
 exact wp_append_row W s x I ho base n m l l2 v u hs hx hown hu h1 hbase h63 hl h
theorem eTask : ElemI 29 75 (.agg #[.string ⟨#[]⟩, .slice none 0 0, .slice none 0 0]) 3 64 := ⟨Try.underlying29, Try.infoTask, rfl, by decide⟩
theorem eBools : ElemI 27 28 (.slice none 0 0) 1 24 := ⟨Try.underlying27, Try.infoBools, rfl, by decide⟩
theorem eBool : ElemI 28 4 (.bool false) 1 1 := ⟨Try.underlying28, Try.infoBool, rfl, by decide⟩
theorem eInt : ElemI 24 3 (.int .i64 0) 1 8 := ⟨Try.underlying24, Try.infoInt, rfl, by decide⟩
theorem eInts : ElemI 22 24 (.slice none 0 0) 1 24 := ⟨Try.underlying22, Try.infoInts, rfl, by decide⟩
/-- An empty row made. -/
theorem own_emptyT (W : World) (B : Nat) (e : TypeId) (sz : Nat) (hB : B ≤ W.heap.size) : (W.alloc (.cells #[] e)).ownsRow B e sz (.slice (some ⟨W.heap.size, 0, none⟩) 0 0) 0 [] :=
 ⟨by simp, .inr ⟨W.heap.size, 0, #[], rfl, hB, heap_alloc_new W _, Nat.le_refl _, by decide, by simp, by simp⟩⟩
end Go.Proofs.Ytgpjfpcjiebjiaa

namespace Go.Proofs.Ytgpjfpcjiebjiaa
open Go.RowKit
set_option linter.unusedVariables false
set_option linter.unusedSimpArgs false

/-- A maze within bounds. -/
structure OB (m : MZ) (A Y : Int) (K : Nat) : Prop where
 w : -A ≤ m.w ∧ m.w ≤ A
 h : -Y ≤ m.h ∧ m.h ≤ Y
 l : -A ≤ m.l ∧ m.l ≤ A
 fr : m.free.length ≤ K
 up : m.up.length ≤ K
 tk : m.tasks.length ≤ K
 te : ∀ t ∈ m.tasks, t.1.length ≤ K ∧ t.2.length ≤ K
theorem OB.lens {m : MZ} {A Y : Int} {K : Nat} (h : OB m A Y K) (hK : K ≤ 1000) : Lens m :=
 ⟨by have := h.fr; omega, by have := h.up; omega, by have := h.tk; omega, fun t ht => by have := h.te t ht; omega⟩
def OddPost (w : World) (A Y : Int) (K : Nat) (e : Ending) (w' : World) : Prop := ∃ v' m', e = .returned v' ∧ Ext w w' ∧ MazeV w' (fun _ => True) v' m' ∧ OB m' A Y K
/-- The maze while it is changed, in the block b. -/
def OdS (wA wx : World) (b : Nat) (A Y : Int) (K : Nat) : Prop :=
 ∃ m' vF vU vT, Blk wx b 31 #[.int .i64 m'.w, .int .i64 m'.h, .int .i64 m'.l, vF, vU, vT] ∧ MazeV wx (fun b => b + 1 ≠ wA.heap.size) (.agg #[.int .i64 m'.w, .int .i64 m'.h, .int .i64 m'.l, vF, vU, vT]) m' ∧ OB m' A Y K ∧ Ext wA wx
theorem tasks_one {w : World} {ok : Nat → Prop} {v : Value} {n : Nat} {vs : List Value} {l : List (List Int × List Int)} (hr : Row w ok 3 v n vs) (hn : n = l.length) (he : ∀ (i : Nat) x, l[i]? = some x → ∃ s u1 u2, vs[i * 3]? = some (.string s) ∧ vs[i * 3 + 1]? = some u1 ∧ vs[i * 3 + 2]? = some u2 ∧ Ints w ok u1 x.1 ∧ Ints w ok u2 x.2) :
  ∀ u ∈ vs, u.oneCell' = true := by
 intro u hu
 obtain ⟨j, hj, rfl⟩ := List.getElem_of_mem hu
 obtain ⟨A, c, _, _, hl, _⟩ := hr
 have hi : j / 3 < l.length := by omega
 obtain ⟨s, u1, u2, h0, h1, h2, i1, i2⟩ := he (j / 3) _ (List.getElem?_eq_getElem hi)
 have h3 : vs[j]? = some vs[j] := List.getElem?_eq_getElem hj
 rcases (show j = j / 3 * 3 ∨ j = j / 3 * 3 + 1 ∨ j = j / 3 * 3 + 2 by omega) with h | h | h
 ·rw [← h, h3] at h0; injection h0 with h0; rw [h0]; rfl
 ·rw [← h, h3] at h1; injection h1 with h1; rw [h1]; exact ints_oneCell i1
 ·rw [← h, h3] at h2; injection h2 with h2; rw [h2]; exact ints_oneCell i2
theorem bools_oneCell {w : World} {ok : Nat → Prop} {v : Value} {l : List Bool} (h : Bools w ok v l) : v.oneCell' = true := by
 obtain ⟨A, c, rfl, _⟩ := h
 rfl
theorem each_one {α : Type} {R : Value → α → Prop} {w : World} {ok : Nat → Prop} {v : Value} {l : List α} {vs : List Value} (hr : Row w ok 1 v l.length vs) (he : ∀ (i : Nat) x, l[i]? = some x → ∃ u, vs[i]? = some u ∧ R u x) (h1 : ∀ u x, R u x → u.oneCell' = true) : ∀ u ∈ vs, u.oneCell' = true := by
 intro u hu
 obtain ⟨j, hj, rfl⟩ := List.getElem_of_mem hu
 obtain ⟨A, c, _, _, hl, _⟩ := hr
 obtain ⟨u, h2, h3⟩ := he j _ (List.getElem?_eq_getElem (show j < l.length by omega))
 rw [List.getElem?_eq_getElem hj] at h2
 injection h2 with h2
 rw [h2]; exact h1 _ _ h3


/-- A row of booleans: an old one, or one of the call's own. -/
def FI (w : World) (B : Nat) (u : Value) : Prop := ∃ l, Bools w (fun b => b + 1 < B) u l ∨ OwnB w B u l
/-- A list of at most K numbers: an old one, or one of the call's own. -/
def TI (w : World) (B K : Nat) (u : Value) : Prop := ∃ l, l.length ≤ K ∧ (Ints w (fun b => b + 1 < B) u l ∨ OwnI w B u l)
/-- What is kept: old blocks, and blocks of numbers and booleans. -/
structure KeepI (B : Nat) (w w' : World) : Prop where
 old : ∀ b, b < B → b < w.heap.size → w'.heap[b]? = w.heap[b]?
 typ : ∀ g ty cs, Blk w g ty cs → ty = 3 ∨ ty = 4 → w'.heap[g]? = w.heap[g]?
theorem KeepI.of_ext {B : Nat} {w w' : World} (h : Ext w w') : KeepI B w w' := ⟨fun b _ hb => h.block b hb, fun g ty cs hb _ => h.block g (lt_of_some hb)⟩
theorem KeepI.trans {B : Nat} {a b c : World} (h : KeepI B a b) (hs : a.heap.size ≤ b.heap.size) (h' : KeepI B b c) : KeepI B a c :=
 ⟨fun k hk hl => (h'.old k hk (Nat.lt_of_lt_of_le hl hs)).trans (h.old k hk hl), fun g ty cs hb ht => (h'.typ g ty cs ((h.typ g ty cs hb ht).trans hb) ht).trans (h.typ g ty cs hb ht)⟩
theorem KeepI.set {B : Nat} {w : World} {g k : Nat} {ty : TypeId} {cs : Array Value} (hb : Blk w g ty cs) (hg : B ≤ g) (hty : ty ≠ 3 ∧ ty ≠ 4) (v : Value) : KeepI B w (w.setCell ⟨g, k, none⟩ v) :=
 ⟨fun b hb' _ => Below.heap_setCell w ⟨g, k, none⟩ v b (by show b ≠ g; omega), fun g' ty' cs' hb' ht => Below.heap_setCell w ⟨g, k, none⟩ v g' (Blk.ne_ hb' hb (by rcases ht with rfl | rfl; exact Ne.symm hty.1; exact Ne.symm hty.2))⟩
theorem KeepI.grown {B : Nat} {w w' : World} {o : Obj} {v : Value} {n sz : Nat} {e : TypeId} {xs : List Value} (ho : w.ownsRow B e sz v n xs) (hty : e ≠ 3 ∧ e ≠ 4) (hg : (w.alloc o).grownBy w' v.ownBlock) : KeepI B w w' :=
 ⟨fun b hb hl => (hg.block b (by simp; omega) (fun e' => by have := (ho.lt b e'.symm).1; omega)).trans (Below.heap_alloc _ _ _ hl),
 fun g' ty' cs' hb' ht => (hg.block g' (by have := lt_of_some hb'; simp; omega) (fun e' => own_blk_ne ho hb' (by rcases ht with rfl | rfl; exact hty.1; exact hty.2) e'.symm)).trans (Below.heap_alloc _ _ _ (lt_of_some hb'))⟩
theorem FI.keep {B : Nat} {w w' : World} {u : Value} (h : FI w B u) (hk : KeepI B w w') : FI w' B u := by
 obtain ⟨l, h | h⟩ := h
 ·exact ⟨l, .inl (h.keep fun b hb hl => hk.old b (by omega) hl)⟩
 ·refine ⟨l, .inr ?_⟩
  obtain ⟨hl, h0 | ⟨g, cap, cur, rfl, h4, h5, h6⟩⟩ := h
  ·exact ⟨hl, .inl h0⟩
  ·exact ⟨hl, .inr ⟨g, cap, cur, rfl, h4, (hk.typ g _ cur h5 (.inr rfl)).trans h5, h6⟩⟩
theorem TI.keep {B K : Nat} {w w' : World} {u : Value} (h : TI w B K u) (hk : KeepI B w w') : TI w' B K u := by
 obtain ⟨l, hK, h | h⟩ := h
 ·exact ⟨l, hK, .inl (h.keep fun b hb hl => hk.old b (by omega) hl)⟩
 ·refine ⟨l, hK, .inr ?_⟩
  exact ownI_keepT h fun g cs _ hb => hk.typ g _ cs hb (.inl rfl)
theorem FI.bools {B : Nat} {w : World} {u : Value} (h : FI w B u) : ∃ l, Bools w (fun b => b + 1 ≠ B) u l := by
 obtain ⟨l, h | h⟩ := h
 ·exact ⟨l, h.weaken fun _ _ => by omega⟩
 ·exact ⟨l, h.bools.weaken fun _ _ => by omega⟩
theorem TI.ints {B K : Nat} {w : World} {u : Value} (h : TI w B K u) : ∃ l, l.length ≤ K ∧ Ints w (fun b => b + 1 ≠ B) u l := by
 obtain ⟨l, hK, h | h⟩ := h
 ·exact ⟨l, hK, h.weaken fun _ _ => by omega⟩
 ·exact ⟨l, hK, Ints.weaken (Row.of_own h) fun _ _ => by omega⟩
/-- The rows of tasks: each has two lists. -/
def TD (w : World) (B K n : Nat) (ts : List Value) : Prop := ∀ j, j < n → ∃ s u1 u2, ts[j * 3]? = some (.string s) ∧ ts[j * 3 + 1]? = some u1 ∧ ts[j * 3 + 2]? = some u2 ∧ TI w B K u1 ∧ TI w B K u2
theorem TD.keep {B K n : Nat} {w w' : World} {ts : List Value} (h : TD w B K n ts) (hk : KeepI B w w') : TD w' B K n ts := fun j hj => by
 obtain ⟨s, u1, u2, h0, h1, h2, h3, h4⟩ := h j hj
 exact ⟨s, u1, u2, h0, h1, h2, h3.keep hk, h4.keep hk⟩
theorem TD.more {B K K' n : Nat} {w : World} {ts : List Value} (h : TD w B K n ts) (hK : K ≤ K') : TD w B K' n ts := fun j hj => by
 obtain ⟨s, u1, u2, h0, h1, h2, ⟨l1, h3, h4⟩, ⟨l2, h5, h6⟩⟩ := h j hj
 exact ⟨s, u1, u2, h0, h1, h2, ⟨l1, Nat.le_trans h3 hK, h4⟩, ⟨l2, Nat.le_trans h5 hK, h6⟩⟩
theorem TD.tasks {B K n : Nat} {w : World} {v : Value} {ts : List Value} (h : TD w B K n ts) (hr : Row w (fun b => b + 1 ≠ B) 3 v n ts) : ∃ l, Tasks w (fun b => b + 1 ≠ B) v l ∧ l.length = n ∧ ∀ t ∈ l, t.1.length ≤ K ∧ t.2.length ≤ K := by
 obtain ⟨l, hl, hp⟩ := chooseL (p := fun j (x : List Int × List Int) => ∃ s u1 u2, ts[j * 3]? = some (.string s) ∧ ts[j * 3 + 1]? = some u1 ∧ ts[j * 3 + 2]? = some u2 ∧ Ints w (fun b => b + 1 ≠ B) u1 x.1 ∧ Ints w (fun b => b + 1 ≠ B) u2 x.2 ∧ x.1.length ≤ K ∧ x.2.length ≤ K) n (fun j hj => by
  obtain ⟨s, u1, u2, h0, h1, h2, h3, h4⟩ := h j hj
  obtain ⟨l1, k1, i1⟩ := h3.ints
  obtain ⟨l2, k2, i2⟩ := h4.ints
  exact ⟨(l1, l2), s, u1, u2, h0, h1, h2, i1, i2, k1, k2⟩)
 refine ⟨l, ⟨ts, by rw [hl]; exact hr, fun i x hx => ?_⟩, hl, fun t ht => ?_⟩
 ·obtain ⟨s, u1, u2, h0, h1, h2, h3, h4, _⟩ := hp i x hx
  exact ⟨s, u1, u2, h0, h1, h2, h3, h4⟩
 ·obtain ⟨j, hj, rfl⟩ := List.getElem_of_mem ht
  obtain ⟨_, _, _, _, _, _, _, _, h5⟩ := hp j _ (List.getElem?_eq_getElem hj)
  exact h5
theorem fds {B n : Nat} {w : World} {v : Value} {fs : List Value} (h : ∀ u ∈ fs, FI w B u) (hr : Row w (fun b => b + 1 ≠ B) 1 v n fs) : ∃ l, Boolss w (fun b => b + 1 ≠ B) v l ∧ l.length = n := by
 have hlen : fs.length = n := by
  obtain ⟨_, _, _, _, h1, _⟩ := hr
  omega
 obtain ⟨l, hl, hp⟩ := chooseL (p := fun j (x : List Bool) => ∃ u, fs[j]? = some u ∧ Bools w (fun b => b + 1 ≠ B) u x) n (fun j hj => by
  obtain ⟨x, hx⟩ := (h fs[j] (List.getElem_mem _)).bools
  exact ⟨x, _, List.getElem?_eq_getElem _, hx⟩)
 exact ⟨l, ⟨fs, by rw [hl]; exact hr, fun i x hx => hp i x hx⟩, hl⟩
/-- The maze while it is changed. -/
structure OS (wA wx : World) (B b5 nF nT K : Nat) (a b c : Int) (vF vU vT : Value) (fs ts : List Value) : Prop where
 hB : B = wA.heap.size
 h5 : B ≤ b5
 ext : Ext wA wx
 blk : Blk wx b5 31 #[.int .i64 a, .int .i64 b, .int .i64 c, vF, vU, vT]
 F : wx.ownsRow B 28 1 vF nF fs
 T : wx.ownsRow B 75 3 vT nT ts
 fd : ∀ u ∈ fs, FI wx B u
 td : TD wx B K nT ts
 U : ∃ l, l.length ≤ K ∧ (Bools wx (fun b => b + 1 < B) vU l ∨ OwnB wx B vU l)
 kF : nF ≤ K
 kT : nT ≤ K
section
variable {wA wx w' : World} {B b5 nF nT K : Nat} {a b c : Int} {vF vU vT : Value} {fs ts : List Value}
theorem U_keep {w w' : World} {u : Value} (h : ∃ l, l.length ≤ K ∧ (Bools w (fun b => b + 1 < B) u l ∨ OwnB w B u l)) (hk : KeepI B w w') : ∃ l, l.length ≤ K ∧ (Bools w' (fun b => b + 1 < B) u l ∨ OwnB w' B u l) := by
 obtain ⟨l, hK, h | h⟩ := h
 ·exact ⟨l, hK, .inl (h.keep fun b hb hl => hk.old b (by omega) hl)⟩
 ·refine ⟨l, hK, .inr ?_⟩
  obtain ⟨hl, h0 | ⟨g, cap, cur, rfl, h4, h5, h6⟩⟩ := h
  ·exact ⟨hl, .inl h0⟩
  ·exact ⟨hl, .inr ⟨g, cap, cur, rfl, h4, (hk.typ g _ cur h5 (.inr rfl)).trans h5, h6⟩⟩
/-- The end: some maze. -/
theorem OS.fin (h : OS wA wx B b5 nF nT K a b c vF vU vT fs ts) {A Y : Int} (ha : -A ≤ a ∧ a ≤ A) (hb : -Y ≤ b ∧ b ≤ Y) (hc : -A ≤ c ∧ c ≤ A) : OdS wA wx b5 A Y K := by
 obtain ⟨fr, h1, h2⟩ := fds h.fd (Row.weaken (Row.of_own h.F) fun _ _ => by omega)
 obtain ⟨tk, h3, h4, h5⟩ := h.td.tasks (Row.weaken (Row.of_own h.T) fun _ _ => by omega)
 obtain ⟨up, h6, h7⟩ := h.U
 have h8 : Bools wx (fun b => b + 1 ≠ B) vU up := by
  rcases h7 with h7 | h7
  ·exact h7.weaken fun _ _ => by omega
  ·exact h7.bools.weaken fun _ _ => by omega
 have hB := h.hB
 subst hB
 exact ⟨⟨a, b, c, fr, up, tk⟩, vF, vU, vT, h.blk, ⟨vF, vU, vT, rfl, h1, h8, h3⟩, ⟨ha, hb, hc, by have := h.kF; show fr.length ≤ K; omega, h6, by have := h.kT; show tk.length ≤ K; omega, h5⟩, h.ext⟩
theorem OS.more {K' : Nat} (h : OS wA wx B b5 nF nT K a b c vF vU vT fs ts) (hK : K ≤ K') : OS wA wx B b5 nF nT K' a b c vF vU vT fs ts := by
 obtain ⟨l, h1, h2⟩ := h.U
 exact ⟨h.hB, h.h5, h.ext, h.blk, h.F, h.T, h.fd, h.td.more hK, ⟨l, Nat.le_trans h1 hK, h2⟩, Nat.le_trans h.kF hK, Nat.le_trans h.kT hK⟩
theorem OS.grow (h : OS wA wx B b5 nF nT K a b c vF vU vT fs ts) (hE : Ext wx w') : OS wA w' B b5 nF nT K a b c vF vU vT fs ts :=
 ⟨h.hB, h.h5, h.ext.trans hE, h.blk.ext hE, own_keep h.F fun g hg => hE.block g (h.F.lt g hg).2, own_keep h.T fun g hg => hE.block g (h.T.lt g hg).2, fun u hu => (h.fd u hu).keep (KeepI.of_ext hE), h.td.keep (KeepI.of_ext hE), U_keep h.U (KeepI.of_ext hE), h.kF, h.kT⟩
theorem own_other {w : World} {e : TypeId} {sz n k g : Nat} {v x : Value} {xs : List Value} {ty : TypeId} {cs : Array Value} (h : w.ownsRow B e sz v n xs) (hb : Blk w g ty cs) (hne : e ≠ ty) : (w.setCell ⟨g, k, none⟩ x).ownsRow B e sz v n xs :=
 own_keep h fun g' hg => Below.heap_setCell w ⟨g, k, none⟩ x g' (fun e' => own_blk_ne h hb hne (by rw [hg]; exact congrArg some e'))
/-- A side stored. -/
theorem OS.setI (h : OS wA wx B b5 nF nT K a b c vF vU vT fs ts) (k : Nat) (x : Int) {a' b' c' : Int} (hc : (#[.int .i64 a, .int .i64 b, .int .i64 c, vF, vU, vT] : Array Value).setIfInBounds k (.int .i64 x) = #[.int .i64 a', .int .i64 b', .int .i64 c', vF, vU, vT]) :
  OS wA (wx.setCell ⟨b5, k, none⟩ (.int .i64 x)) B b5 nF nT K a' b' c' vF vU vT fs ts := by
 have hk := KeepI.set (k := k) h.blk h.h5 (by decide) (.int .i64 x)
 exact ⟨h.hB, h.h5, h.ext.setCell (p := ⟨b5, k, none⟩) (show wA.heap.size ≤ b5 by have := h.hB; have := h.h5; omega) _, by have := h.blk.set (k := k) (.int .i64 x); rwa [hc] at this, own_other h.F h.blk (by decide), own_other h.T h.blk (by decide), fun u hu => (h.fd u hu).keep hk, h.td.keep hk, U_keep h.U hk, h.kF, h.kT⟩
/-- The rows at the beginning: copies of old rows. -/
theorem OS.addT (h : OS wA wx B b5 nF nT K a b c vF vU vT fs ts) {vT' : Value} {n' : Nat} {news : List Value} {w5 : World} {o : Obj} (ho : w5.ownsRow B 75 3 vT' n' (ts ++ news)) (hg : (wx.alloc o).grownBy w5 vT.ownBlock) (hn : n' ≤ K) (htd : ∀ w2, KeepI B wx w2 → wx.heap.size ≤ w2.heap.size → TD w2 B K n' (ts ++ news)) :
  OS wA (w5.setCell ⟨b5, 5, none⟩ vT') B b5 nF n' K a b c vF vU vT' fs (ts ++ news) := by
 have hk1 := KeepI.grown h.T (by decide) hg
 have hsz : wx.heap.size ≤ w5.heap.size := Nat.le_trans (by simp) hg.size
 have hb5 : Blk w5 b5 31 #[.int .i64 a, .int .i64 b, .int .i64 c, vF, vU, vT] := ((hg.block b5 (by have := lt_of_some h.blk; simp; omega) (fun e => own_blk_ne h.T h.blk (by decide) e.symm)).trans (Below.heap_alloc _ _ _ (lt_of_some h.blk))).trans h.blk
 have hF5 : w5.ownsRow B 28 1 vF nF fs := by
  obtain ⟨hl, h0 | ⟨g, cap, cur, e, h4, h5, h6⟩⟩ := h.F
  ·exact ⟨hl, .inl h0⟩
  ·exact ⟨hl, .inr ⟨g, cap, cur, e, h4, ((hg.block g (by have := lt_of_some h5; simp; omega) (fun e => own_blk_ne h.T h5 (by decide) e.symm)).trans (Below.heap_alloc _ _ _ (lt_of_some h5))).trans h5, h6⟩⟩
 have hk : KeepI B wx (w5.setCell ⟨b5, 5, none⟩ vT') := hk1.trans hsz (KeepI.set hb5 h.h5 (by decide) _)
 have hEx : Ext wA w5 := (h.ext.alloc o).grown hg (Nat.le_trans h.ext.size (by simp)) (fun k hk => by have := (h.T.lt k hk).1; have := h.hB; omega)
 refine ⟨h.hB, h.h5, hEx.setCell (p := ⟨b5, 5, none⟩) (show wA.heap.size ≤ b5 by have := h.hB; have := h.h5; omega) _, hb5.set (k := 5) vT', own_other hF5 hb5 (by decide), own_other ho hb5 (by decide), fun u hu => (h.fd u hu).keep hk, htd _ hk (by simpa [World.setCell] using hsz), U_keep h.U hk, h.kF, hn⟩
theorem OS.addF (h : OS wA wx B b5 nF nT K a b c vF vU vT fs ts) {vF' : Value} {n' : Nat} {news : List Value} {w5 : World} {o : Obj} (ho : w5.ownsRow B 28 1 vF' n' (fs ++ news)) (hg : (wx.alloc o).grownBy w5 vF.ownBlock) (hn : n' ≤ K) (hfd : ∀ w2, KeepI B wx w2 → wx.heap.size ≤ w2.heap.size → ∀ u ∈ news, FI w2 B u) :
  OS wA (w5.setCell ⟨b5, 3, none⟩ vF') B b5 n' nT K a b c vF' vU vT (fs ++ news) ts := by
 have hk1 := KeepI.grown h.F (by decide) hg
 have hsz : wx.heap.size ≤ w5.heap.size := Nat.le_trans (by simp) hg.size
 have hb5 : Blk w5 b5 31 #[.int .i64 a, .int .i64 b, .int .i64 c, vF, vU, vT] := ((hg.block b5 (by have := lt_of_some h.blk; simp; omega) (fun e => own_blk_ne h.F h.blk (by decide) e.symm)).trans (Below.heap_alloc _ _ _ (lt_of_some h.blk))).trans h.blk
 have hT5 : w5.ownsRow B 75 3 vT nT ts := by
  obtain ⟨hl, h0 | ⟨g, cap, cur, e, h4, h5, h6⟩⟩ := h.T
  ·exact ⟨hl, .inl h0⟩
  ·exact ⟨hl, .inr ⟨g, cap, cur, e, h4, ((hg.block g (by have := lt_of_some h5; simp; omega) (fun e => own_blk_ne h.F h5 (by decide) e.symm)).trans (Below.heap_alloc _ _ _ (lt_of_some h5))).trans h5, h6⟩⟩
 have hk : KeepI B wx (w5.setCell ⟨b5, 3, none⟩ vF') := hk1.trans hsz (KeepI.set hb5 h.h5 (by decide) _)
 have hEx : Ext wA w5 := (h.ext.alloc o).grown hg (Nat.le_trans h.ext.size (by simp)) (fun k hk => by have := (h.F.lt k hk).1; have := h.hB; omega)
 refine ⟨h.hB, h.h5, hEx.setCell (p := ⟨b5, 3, none⟩) (show wA.heap.size ≤ b5 by have := h.hB; have := h.h5; omega) _, hb5.set (k := 3) vF', own_other ho hb5 (by decide), own_other hT5 hb5 (by decide), fun u hu => ?_, h.td.keep hk, U_keep h.U hk, hn, h.kT⟩
 rcases List.mem_append.1 hu with hu | hu
 ·exact (h.fd u hu).keep hk
 ·exact hfd _ hk (by simpa [World.setCell] using hsz) u hu
/-- The beginning: both rows are copied. -/
theorem OS.start {w5 w6 w7 : World} {o1 o2 : Obj} {vF0 vT0 : Value} (hBA : B = wA.heap.size) (h5 : B ≤ b5) (hE5 : Ext wA w5) (hB5 : Blk w5 b5 31 #[.int .i64 a, .int .i64 b, .int .i64 c, vF0, vU, vT0])
  (hoT : w6.ownsRow B 75 3 vT nT ts) (hgT : (w5.alloc o1).grownBy w6 (some w5.heap.size)) (hoF : w7.ownsRow B 28 1 vF nF fs) (hgF : ((w6.setCell ⟨b5, 5, none⟩ vT).alloc o2).grownBy w7 (some w6.heap.size))
  (hfd : ∀ u ∈ fs, ∃ l, Bools wA (fun b => b + 1 < B) u l) (htd : TD wA B K nT ts) (hU : ∃ l, l.length ≤ K ∧ Bools wA (fun b => b + 1 < B) vU l) (hkF : nF ≤ K) (hkT : nT ≤ K) : OS wA (w7.setCell ⟨b5, 3, none⟩ vF) B b5 nF nT K a b c vF vU vT fs ts := by
 have l5 := lt_of_some hB5
 have hE5' := hE5.size
 have hE6 : Ext wA w6 := (hE5.alloc o1).grown hgT (Nat.le_trans hE5.size (by simp)) (fun k hk => by injection hk with hk; omega)
 have h6 : Blk w6 b5 31 #[.int .i64 a, .int .i64 b, .int .i64 c, vF0, vU, vT0] := ((hgT.block b5 (by simp; omega) (fun e => by injection e with e; omega)).trans (Below.heap_alloc _ _ _ l5)).trans hB5
 have s6 : w5.heap.size + 1 ≤ w6.heap.size := by have := hgT.size; simpa using this
 have h6' : Blk (w6.setCell ⟨b5, 5, none⟩ vT) b5 31 #[.int .i64 a, .int .i64 b, .int .i64 c, vF0, vU, vT] := h6.set (k := 5) vT
 have hT6 : (w6.setCell ⟨b5, 5, none⟩ vT).ownsRow B 75 3 vT nT ts := own_other hoT h6 (by decide)
 have hE6' : Ext wA (w6.setCell ⟨b5, 5, none⟩ vT) := hE6.setCell (p := ⟨b5, 5, none⟩) (show wA.heap.size ≤ b5 by omega) _
 have z6 : (w6.setCell ⟨b5, 5, none⟩ vT).heap.size = w6.heap.size := by simp [World.setCell]
 have hE7 : Ext wA w7 := (hE6'.alloc o2).grown hgF (Nat.le_trans hE6'.size (by simp)) (fun k hk => by injection hk with hk; have := hE6.size; omega)
 have hblk : ∀ g, g < w6.heap.size → w7.heap[g]? = (w6.setCell ⟨b5, 5, none⟩ vT).heap[g]? := fun g hg => (hgF.block g (by simp [z6]; omega) (fun e => by injection e with e; omega)).trans (Below.heap_alloc _ _ _ (by omega))
 have h7 : Blk w7 b5 31 #[.int .i64 a, .int .i64 b, .int .i64 c, vF0, vU, vT] := (hblk b5 (by omega)).trans h6'
 have hT7 : w7.ownsRow B 75 3 vT nT ts := own_keep hT6 fun g hg => hblk g (by have := (hT6.lt g hg).2; omega)
 have hE9 : Ext wA (w7.setCell ⟨b5, 3, none⟩ vF) := hE7.setCell (p := ⟨b5, 3, none⟩) (show wA.heap.size ≤ b5 by omega) _
 obtain ⟨l, hl, hU⟩ := hU
 refine ⟨hBA, h5, hE9, h7.set (k := 3) vF, own_other hoF h7 (by decide), own_other hT7 h7 (by decide), fun u hu => ?_, fun j hj => ?_, ⟨l, hl, .inl (hU.below hE9)⟩, hkF, hkT⟩
 ·obtain ⟨x, hx⟩ := hfd u hu
  exact ⟨x, .inl (hx.below hE9)⟩
 ·exact htd.keep (KeepI.of_ext hE9) j hj
/-- A list of a task stored. -/
theorem OS.setT (h : OS wA wx B b5 nF nT K a b c vF vU vT fs ts) {g cap j r : Nat} {x : Value} (hv : vT = .slice (some ⟨g, 0, none⟩) nT cap) (hj : j < nT) (hr : r = 1 ∨ r = 2) (hx : TI wx B K x) :
  OS wA (wx.setCell ⟨g, j * 3 + r, none⟩ x) B b5 nF nT K a b c vF vU vT fs (ts.set (j * 3 + r) x) := by
 subst hv
 have hlt := h.T.lt g rfl
 obtain ⟨cs, hb⟩ := own_blkB h.T
 have hk := KeepI.set (k := j * 3 + r) hb hlt.1 (by decide) x
 have hst := h.T.stored (j * 3 + r) x
 have hlen : ts.length = nT * 3 := h.T.1
 refine ⟨h.hB, h.h5, h.ext.setCell (p := ⟨g, j * 3 + r, none⟩) (show wA.heap.size ≤ g by have := h.hB; omega) _, (Below.heap_setCell wx ⟨g, j * 3 + r, none⟩ x b5 (Blk.ne_ h.blk hb (by decide))).trans h.blk, own_other h.F hb (by decide), hst.1, fun u hu => (h.fd u hu).keep hk, fun i hi => ?_, U_keep h.U hk, h.kF, h.kT⟩
 obtain ⟨s, u1, u2, h0, h1, h2, h3, h4⟩ := h.td.keep hk i hi
 have hx' := hx.keep hk
 by_cases hij : i = j
 ·subst hij
  rcases hr with rfl | rfl
  ·exact ⟨s, x, u2, by rw [List.getElem?_set_ne (by omega)]; exact h0, by rw [List.getElem?_set_self (by omega)], by rw [List.getElem?_set_ne (by omega)]; exact h2, hx', h4⟩
  ·exact ⟨s, u1, x, by rw [List.getElem?_set_ne (by omega)]; exact h0, by rw [List.getElem?_set_ne (by omega)]; exact h1, by rw [List.getElem?_set_self (by omega)], h3, hx'⟩
 ·exact ⟨s, u1, u2, by rw [List.getElem?_set_ne (by omega)]; exact h0, by rw [List.getElem?_set_ne (by omega)]; exact h1, by rw [List.getElem?_set_ne (by omega)]; exact h2, h3, h4⟩
/-- The row of vertical ways replaced. -/
theorem OS.setU (h : OS wA wx B b5 nF nT K a b c vF vU vT fs ts) {vU' : Value} {l : List Bool} (hl : l.length ≤ K) (ho : OwnB wx B vU' l) : OS wA (wx.setCell ⟨b5, 4, none⟩ vU') B b5 nF nT K a b c vF vU' vT fs ts := by
 have hk := KeepI.set (k := 4) h.blk h.h5 (by decide) vU'
 exact ⟨h.hB, h.h5, h.ext.setCell (p := ⟨b5, 4, none⟩) (show wA.heap.size ≤ b5 by have := h.hB; have := h.h5; omega) _, h.blk.set (k := 4) vU', own_other h.F h.blk (by decide), own_other h.T h.blk (by decide), fun u hu => (h.fd u hu).keep hk, h.td.keep hk, ⟨l, hl, .inr (own_other ho h.blk (by decide))⟩, h.kF, h.kT⟩
/-- The first row dropped. -/
theorem OS.drop1 (h : OS wA wx B b5 nF nT K a b c vF vU vT fs ts) {g cap : Nat} (hv : vF = .slice (some ⟨g, 0, none⟩) nF cap) (hp : 0 < nF) {A Y : Int} (ha : -A ≤ a ∧ a ≤ A) (hb : -Y ≤ b ∧ b ≤ Y) (hc : -A ≤ c ∧ c ≤ A) :
  OdS wA (wx.setCell ⟨b5, 3, none⟩ (.slice (some ⟨g, 1, none⟩) (nF - 1) (cap - 1))) b5 A Y K := by
 subst hv
 have hk := KeepI.set (k := 3) h.blk h.h5 (by decide) (.slice (some ⟨g, 1, none⟩) (nF - 1) (cap - 1))
 obtain ⟨tk, h3, h4, h5⟩ := (h.td.keep hk).tasks (Row.weaken (Row.of_own (own_other h.T h.blk (k := 3) (x := .slice (some ⟨g, 1, none⟩) (nF - 1) (cap - 1)) (by decide))) fun _ _ => by omega)
 obtain ⟨up, h6, h7⟩ := U_keep h.U hk
 have h8 : Bools (wx.setCell ⟨b5, 3, none⟩ (.slice (some ⟨g, 1, none⟩) (nF - 1) (cap - 1))) (fun b => b + 1 ≠ B) vU up := by
  rcases h7 with h7 | h7
  ·exact h7.weaken fun _ _ => by omega
  ·exact h7.bools.weaken fun _ _ => by omega
 have hF := own_other h.F h.blk (k := 3) (x := .slice (some ⟨g, 1, none⟩) (nF - 1) (cap - 1)) (by decide)
 have hlen : fs.length = nF := by have := h.F.1; omega
 have hcap := own_cap h.F
 have hgB := (h.F.lt g rfl).1
 obtain ⟨fr, h1, h2⟩ := fds (v := .slice (some ⟨g, 1, none⟩) (nF - 1) (cap - 1)) (n := nF - 1) (fs := fs.drop 1) (B := B) (fun u hu => (h.fd u (List.mem_of_mem_drop hu)).keep hk)
  ⟨_, _, rfl, by omega, by simp [hlen], fun _ => ⟨g, 1, rfl, by omega, fun j u hu => by
   rw [List.getElem?_drop] at hu
   have hj : 1 + j < fs.length := by
    rcases Nat.lt_or_ge (1 + j) fs.length with h9 | h9
    ·exact h9
    ·rw [List.getElem?_eq_none h9] at hu; cases hu
   exact (hF.cellAt (1 + j) (by omega)).trans hu⟩⟩
 have hB := h.hB
 subst hB
 exact ⟨⟨a, b, c, fr, up, tk⟩, _, vU, vT, h.blk.set (k := 3) _, ⟨_, vU, vT, rfl, h1, h8, h3⟩, ⟨ha, hb, hc, by have := h.kF; show fr.length ≤ K; omega, h6, by have := h.kT; show tk.length ≤ K; omega, h5⟩, h.ext.setCell (p := ⟨b5, 3, none⟩) h.h5 _⟩
/-- No row left. -/
theorem OS.drop0 (h : OS wA wx B b5 nF nT K a b c vF vU vT fs ts) (A0 : Option Addr) (c0 : Nat) {A Y : Int} (ha : -A ≤ a ∧ a ≤ A) (hb : -Y ≤ b ∧ b ≤ Y) (hc : -A ≤ c ∧ c ≤ A) :
  OdS wA (wx.setCell ⟨b5, 3, none⟩ (.slice A0 0 c0)) b5 A Y K := by
 have hk := KeepI.set (k := 3) h.blk h.h5 (by decide) (.slice A0 0 c0)
 obtain ⟨tk, h3, h4, h5⟩ := (h.td.keep hk).tasks (Row.weaken (Row.of_own (own_other h.T h.blk (k := 3) (x := .slice A0 0 c0) (by decide))) fun _ _ => by omega)
 obtain ⟨up, h6, h7⟩ := U_keep h.U hk
 have h8 : Bools (wx.setCell ⟨b5, 3, none⟩ (.slice A0 0 c0)) (fun b => b + 1 ≠ B) vU up := by
  rcases h7 with h7 | h7
  ·exact h7.weaken fun _ _ => by omega
  ·exact h7.bools.weaken fun _ _ => by omega
 have hB := h.hB
 subst hB
 exact ⟨⟨a, b, c, [], up, tk⟩, _, vU, vT, h.blk.set (k := 3) _, ⟨_, vU, vT, rfl, ⟨[], ⟨A0, c0, rfl, Nat.zero_le _, RowA.nil _ _ _ _⟩, fun i x hx => by simp at hx⟩, h8, h3⟩, ⟨ha, hb, hc, Nat.zero_le _, h6, by have := h.kT; show tk.length ≤ K; omega, h5⟩, h.ext.setCell (p := ⟨b5, 3, none⟩) h.h5 _⟩
end
/-- A row of one element made. -/
theorem own_one (W : World) (B : Nat) (e : TypeId) (x : Value) (hB : B ≤ W.heap.size) : (W.alloc (.cells #[x] e)).ownsRow B e 1 (.slice (some ⟨W.heap.size, 0, none⟩) 1 1) 1 [x] :=
 ⟨by simp, .inr ⟨W.heap.size, 1, #[x], rfl, hB, heap_alloc_new W _, Nat.le_refl _, by decide, by simp, by simp⟩⟩
theorem intsOne {l : List Int} : ∀ u ∈ l.map (Value.int .i64), u.oneCell' = true := by
 intro u hu
 obtain ⟨_, _, rfl⟩ := List.mem_map.1 hu
 rfl
/-- A product within bounds. -/
theorem prodB {x y a b : Int} (hx : -a ≤ x ∧ x ≤ a) (hy : -b ≤ y ∧ y ≤ b) (ha : 0 ≤ a) (hb : 0 ≤ b) : -(a * b) ≤ x * y ∧ x * y ≤ a * b := by
 have h1 : x.natAbs ≤ a.natAbs := by omega
 have h2 : y.natAbs ≤ b.natAbs := by omega
 have h3 : (x * y).natAbs ≤ (a * b).natAbs := by rw [Int.natAbs_mul, Int.natAbs_mul]; exact Nat.mul_le_mul h1 h2
 have h4 : 0 ≤ a * b := Int.mul_nonneg ha hb
 omega
theorem row3 (W : World) (a b c : Value) (t : TypeId) : Row (W.alloc (.cells #[a, b, c] t)) (fun _ => True) 3 (.slice (some ⟨W.heap.size, 0, none⟩) 1 1) 1 [a, b, c] :=
 ⟨_, _, rfl, Nat.le_refl _, rfl, fun _ => ⟨_, 0, rfl, trivial, fun j u hu => by have := cells3n W a b c t j u hu; rwa [Addr.add_lit] at this⟩⟩
theorem own_made (W : World) (B N : Nat) (hB : B ≤ W.heap.size) (hN : N ≤ 1000) : OwnB (W.alloc (.cells (madeCells #[.bool false] N) 4)) B (.slice (some ⟨W.heap.size, 0, none⟩) N N) (List.replicate N false) := by
 have h1 : (madeCells #[Value.bool false] N).toList = (List.replicate N false).map Value.bool := by
  apply List.ext_getElem
  ·simp [madeCells]
  ·intro i h2 h3
   simp [madeCells, Nat.mod_one]
 unfold OwnB
 rw [List.length_replicate]
 exact ⟨by simp, .inr ⟨W.heap.size, N, madeCells #[.bool false] N, rfl, hB, heap_alloc_new W _, Nat.le_refl _, by unfold maxLen; omega, by rw [← Array.length_toList, h1]; simp, by rw [h1]; simp⟩⟩
end Go.Proofs.Ytgpjfpcjiebjiaa
