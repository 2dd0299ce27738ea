/- Plain facts: neighbours are nodes; what can be reached; lists of different nodes are short. Walks: sets of nodes. Walks: functions that are handed a predicate. -/
import Derived.Test.YtgpjfpcjiebjiaaGb
import Derived.Test.YtgpjfpcjiebjiaaGa
import Derived.Maps.AppendAt
import Derived.WalkSmall
import Derived.Deep.LoopGhost
namespace Go.Proofs.Ytgpjfpcjiebjiaa
open Go.RowKit
set_option linter.unusedVariables false
set_option linter.unusedSimpArgs false

def MZ.n (m : MZ) : Int := m.w * m.h * m.l
theorem mem_ap {c : Bool} {x y : Int} {l : List Int} : y ∈ ap c x l ↔ y ∈ l ∨ (c = true ∧ y = x) := by
 unfold ap
 cases c <;> simp
theorem row_step {y w k : Int} (hw : 0 < w) (hk : y < w * k) (hr : y % w + 1 < w) : y + 1 < w * k := by
 have h1 := Int.emod_add_mul_ediv y w
 have h2 : y / w < k := by
  apply Int.ediv_lt_of_lt_mul hw
  rwa [Int.mul_comm] 
 have h3 : w * (y / w + 1) ≤ w * k := Int.mul_le_mul_of_nonneg_left (by omega) (by omega)
 rw [Int.mul_add, Int.mul_one] at h3
 omega
theorem layer_step {y w h l : Int} (hw : 0 < w) (hh : 0 < h) (hy : y < w * h * l) (hr : y / w % h + 1 < h) : y + w < w * h * l := by
 have hq : y / w < h * l := by
  apply Int.ediv_lt_of_lt_mul hw
  rw [Int.mul_comm, ← Int.mul_assoc]; exact hy
 have h1 := row_step hh hq hr
 have h2 := Int.emod_add_mul_ediv y w
 have h3 := Int.emod_lt_of_pos y hw
 have h4 : w * (y / w + 2) ≤ w * (h * l) := Int.mul_le_mul_of_nonneg_left (by omega) (by omega)
 rw [Int.mul_add, ← Int.mul_assoc] at h4
 omega
theorem nextL_range {m : MZ} (d : Dim m) {x y : Int} (h0 : 0 ≤ y) (h1 : y < m.n) (h : x ∈ nextL m y) : 0 ≤ x ∧ x < m.n := by
 unfold MZ.n at h1 ⊢
 obtain ⟨l1, l2⟩ := d.layer
 have hw := d.w1
 have hh := d.h1
 simp only [nextL, mem_ap, Bool.and_eq_true, decide_eq_true_eq, List.not_mem_nil, false_or] at h
 rcases h with ((((( ⟨⟨a, _⟩, rfl⟩) | ⟨a, rfl⟩) | ⟨a, rfl⟩) | ⟨a, rfl⟩) | ⟨a, rfl⟩) | ⟨⟨a, _⟩, rfl⟩
 ·omega
 ·have h2 : 1 ≤ y / m.w := by
   have : 0 ≤ y / m.w := Int.ediv_nonneg h0 (by omega)
   rcases Int.lt_or_le 0 (y / m.w) with h | h
   ·omega
   ·have : y / m.w = 0 := by omega
    rw [this] at a; simp at a
  have h3 := Int.emod_add_mul_ediv y m.w
  have h4 := Int.emod_nonneg y (show m.w ≠ 0 by omega)
  have h5 : m.w * 1 ≤ m.w * (y / m.w) := Int.mul_le_mul_of_nonneg_left h2 (by omega)
  omega
 ·have : y ≠ 0 := by rintro rfl; simp at a
  omega
 ·have := row_step (y := y) (w := m.w) (k := m.h * m.l) (by omega) (by rw [← Int.mul_assoc]; exact h1) a
  rw [← Int.mul_assoc] at this
  omega
 ·have := layer_step (by omega) (by omega) h1 a
  omega
 ·omega

/-- Free for a task. -/
def freeAt (m : MZ) (t : Nat) (x : Int) : Bool := (m.free.getD t []).getD x.toNat false
/-- What can be reached: in every set that holds the beginnings and is closed. -/
def RP (m : MZ) (t : Nat) (from_ used : List Int) (x : Int) : Prop :=
 ∀ S : Int → Prop, (∀ y ∈ from_, 0 ≤ y → y < m.n → S y) → (∀ y z, S y → z ∈ nextL m y → freeAt m t z = true → z ∉ used → S z) → S x
theorem RP.base {m : MZ} {t : Nat} {from_ used : List Int} {x : Int} (h : x ∈ from_) (h0 : 0 ≤ x) (h1 : x < m.n) : RP m t from_ used x := fun _ hb _ => hb x h h0 h1
theorem RP.step {m : MZ} {t : Nat} {from_ used : List Int} {y x : Int} (h : RP m t from_ used y) (hx : x ∈ nextL m y) (hf : freeAt m t x = true) (hu : x ∉ used) : RP m t from_ used x :=
 fun S hb hs => hs y x (h S hb hs) hx hf hu
theorem RP.range {m : MZ} (d : Dim m) {t : Nat} {from_ used : List Int} {x : Int} (h : RP m t from_ used x) : 0 ≤ x ∧ x < m.n :=
 h (fun x => 0 ≤ x ∧ x < m.n) (fun y _ h0 h1 => ⟨h0, h1⟩) (fun y z hy hz _ _ => nextL_range d hy.1 hy.2 hz)
theorem RP.congr {m : MZ} {t : Nat} {from_ from' used used' : List Int} (hf : ∀ x, x ∈ from_ ↔ x ∈ from') (hu : ∀ x, x ∈ used ↔ x ∈ used') {x : Int} (h : RP m t from_ used x) : RP m t from' used' x :=
 h _ (fun y hy h0 h1 => RP.base ((hf y).1 hy) h0 h1) (fun y z hy hz hz' hu' => hy.step hz hz' (fun h => hu' ((hu z).2 h)))

theorem nodup_nat : ∀ (n : Nat) (l : List Nat), l.Nodup → (∀ x ∈ l, x < n) → l.length ≤ n
 | 0, l, _, h => by
  cases l with
  | nil => simp
  | cons a l => exact absurd (h a (List.mem_cons_self ..)) (by omega)
 | n + 1, l, hd, h => by
  by_cases hm : n ∈ l
  ·have h1 := nodup_nat n (l.erase n) (hd.erase n) (fun x hx => by
    have h2 := (hd.mem_erase_iff).1 hx
    have h3 := h x h2.2
    omega)
   rw [List.length_erase_of_mem hm] at h1
   omega
  ·have h1 := nodup_nat n l hd (fun x hx => by
    have h3 := h x hx
    have : x ≠ n := by rintro rfl; exact hm hx
    omega)
   omega
theorem nodup_len {l : List Int} (hd : l.Nodup) (n : Int) (hr : ∀ x ∈ l, 0 ≤ x ∧ x < n) : l.length ≤ n.toNat := by
 have hd' : (l.map Int.toNat).Nodup := by
  rw [List.nodup_iff_pairwise_ne, List.pairwise_map]
  refine List.Pairwise.imp_of_mem ?_ (List.nodup_iff_pairwise_ne.1 hd)
  intro a b ha hb hab he
  have := hr a ha
  have := hr b hb
  omega
 have := nodup_nat n.toNat (l.map Int.toNat) hd' (fun x hx => by
  rw [List.mem_map] at hx
  obtain ⟨y, hy, rfl⟩ := hx
  have := hr y hy
  omega)
 simpa using this
end Go.Proofs.Ytgpjfpcjiebjiaa

namespace Go.Proofs.Ytgpjfpcjiebjiaa
open Go.RowKit
set_option linter.unusedVariables false
set_option linter.unusedSimpArgs false

theorem grown_below {B : Nat} {a w w' : World} {g : Nat} (h : Below B a w) (hg : w.grownBy w' (some g)) (hB : B ≤ w.heap.size) (hBg : B ≤ g) : Below B a w' :=
 h.grown hg hB (fun k hk => by injection hk with hk; omega)

set_option maxRecDepth 100000 in
theorem setOf_calls {ok : Nat → Prop} {v : Value} {l : List Int} (w : World) (h : Ints w ok v l) (hl : l.length ≤ 20000000000000) :
  Calls Try.prog 58 #[v] w fun e w' => ∃ s, e = .returned (.map (some w.heap.size)) ∧ Below w.heap.size w w' ∧ SetIs w' w.heap.size s ∧ ∀ x, x ∈ s ↔ x ∈ l := by
 obtain ⟨A, c, rfl, hc, hr⟩ := h
 have HR := Lib.hid hr; clear hr
 have hmm := @run_makeMap Try.prog
 go_enter Try.func58, Try.ntmps58
 go_wp2
 go_loopw [9] (fun i wr => ∃ k s, k ≤ l.length ∧ i = .int .i64 (k : Nat) ∧ Hid (Below w.heap.size w wr) ∧ Hid (SetIs wr w.heap.size s) ∧ Hid (∀ x, x ∈ s ↔ x ∈ l.take k)) (fun i _ => l.length - (intOf i).toNat)
 case atStart => exact ⟨0, [], Nat.zero_le _, rfl, (Below.refl _ _).alloc (Nat.le_refl _) _, SetIs.new w, by simp [Hid]⟩
 case round =>
  obtain ⟨k, s, hk, rfl, hb, hs, hx⟩ := hrel
  by_cases hlt : k < l.length
  ·obtain ⟨b, off, rfl, _, hcell⟩ := intsAt (HR.out.keep (Same.of_below hb.out)) hlt hlt
   obtain ⟨y, hy⟩ : ∃ y, y = l[k] := ⟨_, rfl⟩
   rw [← hy] at hcell
   have HY := Lib.hid hy; clear hy
   go_wp2_with (at_mapUpdate; refine wpSetAdd rfl _ _ _ _ rfl Try.underlying82 w.heap.size s y rfl rfl rfl hs.out ?_)
   intro w1 hs1 hg1
   have HS1 := Lib.hid hs1; clear hs1
   have HG1 := Lib.hid hg1; clear hg1
   go_wp2
   go_roundw
   case rel => exact ⟨k + 1, ins s y, by omega, by go_num, grown_below hb.out HG1.out hb.out.size (Nat.le_refl _), HS1.out, fun x => by
    rw [mem_ins, mem_take_succ hlt, hx.out, HY.out]⟩
   case measure => simp [intOf]; omega
  ·obtain rfl : k = l.length := by omega
   go_wp2
   go_ret
   exact ⟨s, rfl, hb.out, hs.out, fun x => by have := hx.out x; rwa [List.take_length] at this⟩

/-- A slice of the call's own that holds the numbers l. -/
def OwnI (w : World) (B : Nat) (v : Value) (l : List Int) : Prop := w.ownsRow B 3 1 v l.length (l.map (Value.int .i64))
/-- 'append(l, x)' onto a slice of the call's own, with what its block is. -/
theorem wpAppAt {ops : Array Oper} {rest : List Oper} {o : Oper} {a : Act} {Q : Exit → Act → World → Prop} (hgd : o.guard = none) (s y : Operand)
  (ho : o.op = .call { callee := .builtin .append, args := #[s, y], argTypes := #[24, 24] }) (W : World) (l : List Int) (x : Int) (B g c : Nat) (v : Value) (hs : a.eval s = v)
  (hy : a.eval y = .slice (some ⟨g, 0, none⟩) 1 c) (hown : W.ownsRow B 3 1 v l.length (l.map (Value.int .i64))) (hc : W.cell? ⟨g, 0, none⟩ = some (.int .i64 x)) (hB : B ≤ W.heap.size) (hl : l.length ≤ 1000000000000)
  (h : ∀ v' w', OwnI w' B v' (l ++ [x]) → Hid (W.grownBy w' v.ownBlock) → Hid (v'.ownBlock = v.ownBlock ∨ v'.ownBlock = some W.heap.size) → wpList Try.prog ops Q rest (a.put o.dst v') w') : wpList Try.prog ops Q (o :: rest) a W := by
 obtain ⟨i0, hi, hz0, hz1, hz2⟩ := info_parts Try.infoInt
 refine wpList_append_own_at _ hgd _ _ 24 ho B 3 i0 (.int .i64 0) 1 8 Try.underlying24 hi hz0 hz1 hz2 rfl (by decide) _ _ _ hs hown ⟨g, 0, none⟩ 1 c [.int .i64 x] hy rfl ?_ ?_ ?_ ?_ hB ?_
 ·intro j u hu
  match j, hu with
  | 0, hu =>
   have : u = .int .i64 x := by simpa using hu.symm
   rw [this]
   exact hc
 ·intro u hu
  have : u = .int .i64 x := by simpa using hu
  rw [this]; rfl
 ·unfold maxLen; omega
 ·omega
 ·intro v' w' h1 h2 _ h3
  refine h v' w' ?_ h2 h3
  unfold OwnI
  rw [map_snoc, List.length_append]
  exact h1

/-- The search's own memory: the maze's box at g, the set at g + 1, the list of what is to do in a row of its own behind them. -/
structure RI (w wr : World) (g : Nat) (mv : Array Value) (s todo : List Int) (v : Value) : Prop where
 below : Below w.heap.size w wr
 ge : w.heap.size ≤ g
 box : Blk wr g 31 mv
 set : SetIs wr (g + 1) s
 own : wr.ownsRow (g + 2) 3 1 v todo.length (todo.map (Value.int .i64))

section
variable {w wr w' : World} {g : Nat} {mv : Array Value} {s todo : List Int} {v : Value}
theorem RI.lt (h : RI w wr g mv s todo v) : g + 1 < wr.heap.size := lt_of_some h.set
theorem RI.call (h : RI w wr g mv s todo v) (hb : Below wr.heap.size wr w') : RI w w' g mv s todo v :=
 ⟨below_tr h.below hb (Nat.le_refl _), h.ge, h.box.below hb (by have := h.lt; omega), h.set.below hb,
  h.own.kept (row := none) ⟨hb.os, hb.tape, hb.output, hb.size, fun i hi _ => hb.block i hi⟩ (by cases h : v.ownBlock <;> simp)⟩
theorem RI.alloc (h : RI w wr g mv s todo v) (o : Obj) : RI w (wr.alloc o) g mv s todo v := h.call ((Below.refl _ _).alloc (Nat.le_refl _) _)
theorem RI.add {x : Int} (h : RI w wr g mv s todo v) (hs : SetIs w' (g + 1) (ins s x)) (hg : wr.grownBy w' (some (g + 1))) : RI w w' g mv (ins s x) todo v :=
 ⟨grown_below h.below hg h.below.size (by have := h.ge; omega), h.ge, (hg.block g (by have := h.lt; omega) (fun e => by injection e; omega)).trans h.box, hs,
  h.own.kept hg (.inr (fun e => by have := (h.own.lt _ e).1; omega))⟩
theorem RI.app {v' : Value} {x : Int} (h : RI w wr g mv s todo v) (ho : w'.ownsRow (g + 2) 3 1 v' (todo ++ [x]).length ((todo ++ [x]).map (Value.int .i64))) (hg : wr.grownBy w' v.ownBlock) : RI w w' g mv s (todo ++ [x]) v' :=
 ⟨h.below.grown hg h.below.size (fun k hk => by have := (h.own.lt _ hk).1; have := h.ge; omega), h.ge,
  (hg.block g (by have := h.lt; omega) (fun e => by have := (h.own.lt _ e.symm).1; omega)).trans h.box,
  (hg.block (g + 1) h.lt (fun e => by have := (h.own.lt _ e.symm).1; omega)).trans h.set, ho⟩
end

theorem look_t {w : World} {g : Nat} {l : List Int} {x : Int} (h : SetIs w g l) (hx : x ∈ l) : (Instr.lookup 82 (.map (some g)) (.int .i64 x) false).run Try.prog w = .ok (.bool true) w := by
 have := run_look h x 82 Try.underlying82
 rwa [decide_eq_true hx] at this
theorem look_f {w : World} {g : Nat} {l : List Int} {x : Int} (h : SetIs w g l) (hx : x ∉ l) : (Instr.lookup 82 (.map (some g)) (.int .i64 x) false).run Try.prog w = .ok (.bool false) w := by
 have := run_look h x 82 Try.underlying82
 rwa [decide_eq_false hx] at this
theorem ins_new {l : List Int} {x : Int} (h : x ∉ l) : ins l x = l ++ [x] := by simp [ins, h]
theorem nodup_snoc {l : List Int} {x : Int} (h : l.Nodup) (hx : x ∉ l) : (l ++ [x]).Nodup := by
 rw [List.nodup_append]
 exact ⟨h, by simp, fun a ha b hb => by
  have : b = x := by simpa using hb
  subst this
  rintro rfl
  exact hx ha⟩

/-- What is known of the set while the search runs: all of it can be reached, it holds the beginnings, and of whatever is not to be done any more the eligible neighbours are in it. -/
structure RO (m : MZ) (t : Nat) (from_ used s todo : List Int) : Prop where
 nd : s.Nodup
 rp : ∀ x ∈ s, RP m t from_ used x
 fr : ∀ x ∈ from_, 0 ≤ x → x < m.n → x ∈ s
 sub : ∀ x ∈ todo, x ∈ s
 cl : ∀ y ∈ s, y ∉ todo → ∀ z ∈ nextL m y, freeAt m t z = true → z ∉ used → z ∈ s
 ln : todo.length ≤ s.length
/-- .. while x's neighbours are gone through, up to the j-th. -/
structure RJ (m : MZ) (t : Nat) (from_ used s todo : List Int) (x : Int) (j : Nat) : Prop where
 nd : s.Nodup
 rp : ∀ x ∈ s, RP m t from_ used x
 fr : ∀ x ∈ from_, 0 ≤ x → x < m.n → x ∈ s
 sub : ∀ x ∈ todo, x ∈ s
 xs : x ∈ s
 cl : ∀ y ∈ s, y ∉ todo → y ≠ x → ∀ z ∈ nextL m y, freeAt m t z = true → z ∉ used → z ∈ s
 cx : ∀ z ∈ (nextL m x).take j, freeAt m t z = true → z ∉ used → z ∈ s
 ln : todo.length ≤ s.length
theorem RO.pop {m : MZ} {t : Nat} {from_ used s todo : List Int} {x : Int} (h : RO m t from_ used s (todo ++ [x])) : RJ m t from_ used s todo x 0 :=
 ⟨h.nd, h.rp, h.fr, fun y hy => h.sub y (by simp [hy]), h.sub x (by simp), fun y hy hn hne => h.cl y hy (by simp [hn, hne]), by simp, by have := h.ln; simp at this; omega⟩
theorem RJ.skip {m : MZ} {t : Nat} {from_ used s todo : List Int} {x : Int} {j : Nat} (h : RJ m t from_ used s todo x j) (hj : j < (nextL m x).length) (hs : (nextL m x)[j] ∈ s ∨ freeAt m t (nextL m x)[j] = false ∨ (nextL m x)[j] ∈ used) :
  RJ m t from_ used s todo x (j + 1) :=
 ⟨h.nd, h.rp, h.fr, h.sub, h.xs, h.cl, fun z hz hf hu => by
  rcases (mem_take_succ hj z).1 hz with h1 | h1
  ·exact h.cx z h1 hf hu
  ·subst h1
   rcases hs with h2 | h2 | h2
   ·exact h2
   ·rw [hf] at h2; cases h2
   ·exact absurd h2 hu, h.ln⟩
theorem RJ.push {m : MZ} {t : Nat} {from_ used s todo : List Int} {x : Int} {j : Nat} (h : RJ m t from_ used s todo x j) (hj : j < (nextL m x).length) (hs : (nextL m x)[j] ∉ s) (hf : freeAt m t (nextL m x)[j] = true) (hu : (nextL m x)[j] ∉ used) :
  RJ m t from_ used (s ++ [(nextL m x)[j]]) (todo ++ [(nextL m x)[j]]) x (j + 1) :=
 ⟨nodup_snoc h.nd hs, fun y hy => by
   rw [List.mem_append, List.mem_singleton] at hy
   rcases hy with hy | rfl
   ·exact h.rp y hy
   ·exact (h.rp x h.xs).step (List.getElem_mem hj) hf hu,
  fun y hy h0 h1 => by simp [h.fr y hy h0 h1],
  fun y hy => by
   rw [List.mem_append, List.mem_singleton] at hy ⊢
   rcases hy with hy | hy
   ·exact .inl (h.sub y hy)
   ·exact .inr hy,
  by simp [h.xs],
  fun y hy hn hne z hz hf' hu' => by
   rw [List.mem_append, List.mem_singleton] at hy hn
   rcases hy with hy | hy
   ·simp [h.cl y hy (fun h' => hn (.inl h')) hne z hz hf' hu']
   ·exact absurd (.inr hy) hn,
  fun z hz hf' hu' => by
   rcases (mem_take_succ hj z).1 hz with h1 | h1
   ·simp [h.cx z h1 hf' hu']
   ·simp [h1], by have := h.ln; simp; omega⟩
theorem RJ.done {m : MZ} {t : Nat} {from_ used s todo : List Int} {x : Int} {j : Nat} (h : RJ m t from_ used s todo x j) (hj : (nextL m x).length ≤ j) : RO m t from_ used s todo :=
 ⟨h.nd, h.rp, h.fr, h.sub, fun y hy hn z hz hf hu => by
  by_cases hne : y = x
  ·subst hne
   exact h.cx z (by rwa [List.take_of_length_le hj]) hf hu
  ·exact h.cl y hy hn hne z hz hf hu, h.ln⟩
theorem RO.end_ {m : MZ} {t : Nat} {from_ used s : List Int} (h : RO m t from_ used s []) (x : Int) : x ∈ s ↔ RP m t from_ used x :=
 ⟨h.rp x, fun hr => hr (· ∈ s) h.fr (fun y z hy hz hf hu => h.cl y hy (by simp) z hz hf hu)⟩

theorem own_cap {w : World} {base : Nat} {e : TypeId} {size g n cap : Nat} {xs : List Value} (h : w.ownsRow base e size (.slice (some ⟨g, 0, none⟩) n cap) n xs) : n ≤ cap := by
 rcases h.2 with ⟨h0, _⟩ | ⟨g', cap', cur, hv, _, _, hn, _⟩
 ·cases h0
 ·cases hv; exact hn
theorem nextL_len (m : MZ) (x : Int) : (nextL m x).length ≤ 6 := by
 have h (c : Bool) (y : Int) (l : List Int) (k : Nat) (hk : l.length ≤ k) : (ap c y l).length ≤ k + 1 := Nat.le_trans (ap_len c y l) (by omega)
 unfold nextL
 exact h _ _ _ 5 (h _ _ _ 4 (h _ _ _ 3 (h _ _ _ 2 (h _ _ _ 1 (h _ _ _ 0 (by simp))))))

set_option maxHeartbeats 4000000 in
set_option maxRecDepth 100000 in
theorem reach_calls {ok ok' : Nat → Prop} {vm vf : Value} {m : MZ} {from_ used : List Int} {gu : Nat} (t : Nat) (w : World) (hm : MazeV w ok vm m) (d : Dim m) (ht : t < m.free.length) (hfl : ∀ f ∈ m.free, (f.length : Int) = m.n)
  (hf : Ints w ok' vf from_) (hl : from_.length ≤ 20000000000000) (hu : SetIs w gu used) :
  Calls Try.prog 57 #[vm, .int .i64 t, vf, .map (some gu)] w fun e w' => ∃ s, e = .returned (.map (some (w.heap.size + 1))) ∧ Below w.heap.size w w' ∧ SetIs w' (w.heap.size + 1) s ∧ ∀ x, x ∈ s ↔ RP m t from_ used x := by
 have hmz := hm
 obtain ⟨vfr, vup, vts, rfl, hfr, _, _⟩ := hm
 obtain ⟨vsf, ⟨Af, cf, rfl, hcf, hrf⟩, hef⟩ := hfr
 obtain ⟨A, c, rfl, hc, hr⟩ := hf
 obtain ⟨hl1, hl2⟩ := d.layer
 have D := Lib.hid d
 obtain ⟨w1, w2, hh1, hh2, ll1, ll2, n1, hup⟩ := d
 have HM := Lib.hid hmz; clear hmz
 have HRF := Lib.hid hrf; clear hrf
 have HEF := Lib.hid hef; clear hef
 have HR := Lib.hid hr; clear hr
 have HU := Lib.hid hu; clear hu
 have HFL := Lib.hid hfl; clear hfl hup
 have hN : 0 ≤ m.w * m.h * m.l := by omega
 have hmm := @run_makeMap Try.prog
 go_enter Try.func57, Try.ntmps57
 go_wp2
 have hRI : RI w ((w.alloc (.cells #[.int .i64 m.w, .int .i64 m.h, .int .i64 m.l, .slice Af m.free.length cf, vup, vts] 31)).alloc (.map #[] 0)) w.heap.size #[.int .i64 m.w, .int .i64 m.h, .int .i64 m.l, .slice Af m.free.length cf, vup, vts] [] [] (.slice none 0 0) := by
  refine ⟨((Below.refl _ _).alloc (Nat.le_refl _) _).alloc (by simp) _, Nat.le_refl _, ?_, ?_, World.ownsRow_nil _ _ _ _⟩
  ·exact Blk.alloc (heap_alloc_new w _) _
  ·have := SetIs.new (w.alloc (.cells #[.int .i64 m.w, .int .i64 m.h, .int .i64 m.l, .slice Af m.free.length cf, vup, vts] 31))
   simpa using this
 go_loopw [10, 19] (fun v i wr => ∃ k s, k ≤ from_.length ∧ i = .int .i64 (k : Nat) ∧ Hid (RI w wr w.heap.size #[.int .i64 m.w, .int .i64 m.h, .int .i64 m.l, .slice Af m.free.length cf, vup, vts] s s v) ∧ Hid (s.Nodup) ∧ Hid (∀ x, x ∈ s ↔ x ∈ from_.take k ∧ 0 ≤ x ∧ x < m.n)) (fun _ i _ => from_.length - (intOf i).toNat)
 case atStart => exact ⟨0, [], Nat.zero_le _, rfl, hRI, List.nodup_nil, by simp [Hid]⟩
 clear hRI
 case round =>
  obtain ⟨k, s, hk, rfl, hI, hnd, hx⟩ := hrel
  by_cases hlt : k < from_.length
  ·obtain ⟨b, off, rfl, _, hcell⟩ := intsAt (HR.out.keep (Same.of_below hI.out.below)) hlt hlt
   obtain ⟨y, hy⟩ : ∃ y, y = from_[k] := ⟨_, rfl⟩
   rw [← hy] at hcell
   have HY := Lib.hid hy; clear hy
   obtain ⟨m0, m1, m2, m3, m4, m5⟩ := cells6 hI.out.box
   by_cases hy0 : 0 ≤ y
   ·by_cases hyn : y < m.w * m.h * m.l
    ·have hall : ∀ W : World, Calls Try.prog 49 #[.agg #[.int .i64 m.w, .int .i64 m.h, .int .i64 m.l, .slice Af m.free.length cf, vup, vts]] W _ := fun W => rnodes_calls m.w m.h m.l _ vup vts W (by omega) (by omega)
     have HALL := Lib.hid hall; clear hall
     by_cases hys : y ∈ s
     ·go_wp2_with fail
      refine (HALL.out _).mono ?_
      rintro e w' ⟨rfl, hb⟩
      have hI' := Lib.hid (hI.out.call hb)
      have hlk := look_t hI'.out.set hys
      go_wp2_with fail
      go_roundw
      case rel => exact ⟨k + 1, s, by omega, by go_num, hI', hnd, fun x => by
       rw [mem_take_succ hlt, hx.out, ← HY.out]
       constructor
       ·rintro ⟨h1, h2⟩; exact ⟨.inl h1, h2⟩
       ·rintro ⟨h1 | rfl, h2⟩
        ·exact ⟨h1, h2⟩
        ·exact (hx.out x).1 hys⟩
      case measure => simp [intOf]; omega
     ·go_wp2_with fail
      refine (HALL.out _).mono ?_
      rintro e w' ⟨rfl, hb⟩
      have hI' := Lib.hid (hI.out.call hb)
      have hlk := look_f hI'.out.set hys
      go_wp2_with (at_mapUpdate; refine wpSetAdd rfl _ _ _ _ rfl Try.underlying82 (w.heap.size + 1) s y rfl rfl rfl hI'.out.set ?_)
      intro wa hsa hga
      have hIa := Lib.hid (hI'.out.add hsa hga)
      have hsz : wa.heap.size = wa.heap.size := rfl
      have hgB : w.heap.size + 2 ≤ wa.heap.size := hIa.out.lt
      have hlen := nodup_len hnd.out m.n (fun x hxs => ((hx.out x).1 hxs).2)
      have hlen2 : s.length ≤ 300 := by unfold MZ.n at hlen; omega
      clear hsa hga hlk hlen
      go_wp2_with (at_builtin; refine wpAppAt rfl _ _ rfl _ s y (w.heap.size + 2) wa.heap.size 1 _ rfl rfl (hIa.out.own.alloc _) ?c1 ?c2 ?c3 ?_)
      case c2 => (first | omega | (simp; omega))
      case c3 => omega
      intro v' wb hob hgb _
      have hIb := Lib.hid ((hIa.out.alloc _).app hob hgb.out)
      clear hob hgb
      go_wp2
      go_roundw
      case rel => exact ⟨k + 1, s ++ [y], by omega, by go_num, by have := hIb.out; rwa [ins_new hys] at this, nodup_snoc hnd.out hys, fun x => by
       rw [List.mem_append, List.mem_singleton, mem_take_succ hlt, hx.out, ← HY.out]
       constructor
       ·rintro (⟨h1, h2⟩ | rfl)
        ·exact ⟨.inl h1, h2⟩
        ·exact ⟨.inr rfl, hy0, hyn⟩
       ·rintro ⟨h1 | rfl, h2⟩
        ·exact .inl ⟨h1, h2⟩
        ·exact .inr rfl⟩
      case measure => simp [intOf]; omega
    ·go_wp2_with (go_at_call 49; refine (rnodes_calls _ _ _ _ _ _ _ (by omega) (by omega)).mono ?_; rintro e w' ⟨rfl, hb⟩)
     go_roundw
     case rel => exact ⟨k + 1, s, by omega, by go_num, hI.out.call ‹_›, hnd, fun x => by
      rw [mem_take_succ hlt, hx.out, ← HY.out]
      constructor
      ·rintro ⟨h1, h2⟩; exact ⟨.inl h1, h2⟩
      ·rintro ⟨h1 | rfl, h2, h3⟩
       ·exact ⟨h1, h2, h3⟩
       ·unfold MZ.n at h3; omega⟩
     case measure => simp [intOf]; omega
   ·go_wp2
    go_roundw
    case rel => exact ⟨k + 1, s, by omega, by go_num, hI, hnd, fun x => by
     rw [mem_take_succ hlt, hx.out, ← HY.out]
     constructor
     ·rintro ⟨h1, h2⟩; exact ⟨.inl h1, h2⟩
     ·rintro ⟨h1 | rfl, h2, h3⟩
      ·exact ⟨h1, h2, h3⟩
      ·omega⟩
    case measure => simp [intOf]; omega
  ·obtain rfl : k = from_.length := by omega
   have hx' : Hid (∀ x, x ∈ s ↔ x ∈ from_ ∧ 0 ≤ x ∧ x < m.n) := fun x => by have := hx.out x; rwa [List.take_length] at this
   clear hx
   have hO : Hid (RO m t from_ used s s) := ⟨hnd.out, fun x h => RP.base ((hx'.out x).1 h).1 ((hx'.out x).1 h).2.1 ((hx'.out x).1 h).2.2, fun x h h0 h1 => (hx'.out x).2 ⟨h, h0, h1⟩, fun x h => h, fun y h hn => absurd h hn, Nat.le_refl _⟩
   clear hx' hnd hlt hk
   go_wp2
   go_loopg [10] (2 * (m.n.toNat - s.length) + s.length) (fun gk v wr => ∃ s todo, gk = 2 * (m.n.toNat - s.length) + todo.length ∧ Hid (RI w wr w.heap.size #[.int .i64 m.w, .int .i64 m.h, .int .i64 m.l, .slice Af m.free.length cf, vup, vts] s todo v) ∧ Hid (RO m t from_ used s todo))
   case atStart => exact ⟨s, s, rfl, hI, hO⟩
   clear hI hO
   case round =>
    obtain ⟨s, todo, rfl, hI, hO⟩ := hrel
    obtain ⟨wo, rfl⟩ : ∃ wo : World, wo = wr := ⟨_, rfl⟩
    rcases List.eq_nil_or_concat todo with rfl | ⟨td, x, rfl⟩
    ·obtain ⟨A0, c0, hv⟩ : ∃ A0 c0, u10 = .slice A0 0 c0 := by
      obtain ⟨A0, c0, hv, _⟩ := Row.of_own hI.out.own
      exact ⟨A0, c0, hv⟩
     subst hv
     go_wp2
     go_ret
     exact ⟨s, rfl, hI.out.below, hI.out.set, hO.out.end_⟩
    ·rw [List.concat_eq_append] at hI hO
     obtain ⟨gt, ct, hv, hgt1, hgt2⟩ := hI.out.own.form (by simp)
     subst hv
     have htl : (td ++ [x]).length = td.length + 1 := by simp
     try rw [htl]
     have hcx : wo.cell? ⟨gt, td.length, none⟩ = some (.int .i64 x) := by
      have := hI.out.own.cellAt td.length (by simp)
      rw [this]
      simp
     have hJ := Lib.hid hO.out.pop
     have hct := own_cap hI.out.own
     rw [htl] at hct
     have hrx := (hO.out.rp x (hJ.out.xs)).range D.out
     have hsl := nodup_len hO.out.nd m.n (fun y hy => (hO.out.rp y hy).range D.out)
     have htd := hJ.out.ln
     have hsl2 : s.length ≤ 300 := by unfold MZ.n at hsl; omega
     obtain ⟨hx0, hx1⟩ := hrx
     obtain ⟨m0, m1, m2, m3, m4, m5⟩ := cells6 hI.out.box
     have hI2 : Hid (RI w wo w.heap.size #[.int .i64 m.w, .int .i64 m.h, .int .i64 m.l, .slice Af m.free.length cf, vup, vts] s td (.slice (some ⟨gt, 0, none⟩) td.length ct)) := by
      have h := hI.out.own
      refine ⟨hI.out.below, hI.out.ge, hI.out.box, hI.out.set, ?_⟩
      rw [map_snoc, htl] at h
      exact ownsRow_pop (by simp) h
     clear hI hO
     go_wp2_with fail
     refine (next_calls m x wo (HM.out.keep (Same.of_below hI2.out.below)) D.out hx0 hx1).mono ?_
     rintro e wk ⟨v', rfl, hbk, hnx⟩
     have hI3 := Lib.hid (hI2.out.call hbk)
     have hnl := Lib.hid (Row.of_own hnx)
     have hnd2 := Lib.hid hnx; clear hnx
     obtain ⟨A2, c2, hv', hc2, hrow⟩ := hnl.out
     subst hv'
     clear hnl
     have hn6 := nextL_len m x
     have hmw := HM.out
     have HROW := Lib.hid hrow; clear hrow
     clear hmw m0 m1 m2 m3 m4 m5 hcx
     have hwkr : wo.heap.size ≤ wk.heap.size := hbk.size
     go_wp2
     go_loopw [10, 62] (fun v i wi => ∃ j s' todo', j ≤ (nextL m x).length ∧ i = .int .i64 (j : Nat) ∧ Hid (RI w wi w.heap.size #[.int .i64 m.w, .int .i64 m.h, .int .i64 m.l, .slice Af m.free.length cf, vup, vts] s' todo' v) ∧ Hid (RJ m t from_ used s' todo' x j) ∧ Hid (Same (fun b => wo.heap.size ≤ b ∧ b < wk.heap.size) wk wi) ∧ Hid (∀ k, v.ownBlock = some k → k < wo.heap.size ∨ wk.heap.size ≤ k) ∧ Hid (wk.heap.size ≤ wi.heap.size) ∧ Hid (todo'.length + s.length = td.length + s'.length ∧ s.length ≤ s'.length)) (fun _ i _ => (nextL m x).length - (intOf i).toNat)
     case atStart => exact ⟨0, s, td, Nat.zero_le _, rfl, hI3, hJ, Same.refl _ _, fun k hk => by
      have : k = gt := by simpa [Value.ownBlock] using hk.symm
      subst this; exact .inl hgt2, Nat.le_refl _, rfl, Nat.le_refl _⟩
     clear hI2 hI3 hJ
     case round =>
      obtain ⟨j, s', todo', hj, rfl, hI, hJ, hS, hOB, hsz, hln⟩ := hrel
      by_cases hjl : j < (nextL m x).length
      ·obtain ⟨b2, off2, rfl, hb2, hcell2⟩ := intsAt HROW.out hjl hjl
       have hb2lt := lt_of_cell hcell2
       have hcell := (cell_same (hS.out b2 ⟨hb2, hb2lt⟩ hb2lt)).trans hcell2
       clear hcell2
       have hyr := nextL_range D.out hx0 hx1 (List.getElem_mem hjl)
       have hskip := Lib.hid (hJ.out.skip hjl)
       have hpush := Lib.hid (hJ.out.push hjl)
       obtain ⟨y, hy⟩ : ∃ y, y = (nextL m x)[j] := ⟨_, rfl⟩
       rw [← hy] at hcell hyr hskip hpush
       clear hy
       obtain ⟨hy0, hy1⟩ := hyr
       obtain ⟨m0, m1, m2, m3, m4, m5⟩ := cells6 hI.out.box
       obtain ⟨bf, off3, uf, rfl, _, hcf1, hbf⟩ := eachAt (HRF.out.keep (Same.of_below hI.out.below)) HEF.out ht ht
       have hflen := HFL.out _ (List.getElem_mem ht)
       obtain ⟨A4, c4, rfl, hc4, hr4⟩ := hbf
       have hyl : y.toNat < (m.free[t]).length := by omega
       obtain ⟨b4, off4, rfl, _, hcf2⟩ := boolsAt (hr4.keep (Same.of_below hI.out.below)) hyl hyl
       have hfr : (m.free[t])[y.toNat] = freeAt m t y := by simp [freeAt, ht, hyl]
       rw [hfr] at hcf2
       have HFq := Lib.hid hfr; clear hfr
       obtain ⟨nf, hnf⟩ : ∃ nf, nf = (m.free[t]).length := ⟨_, rfl⟩
       rw [← hnf] at hcf1 hyl hflen hc4
       have HNF := Lib.hid hnf; clear hnf
       have HFL2 := Lib.hid hflen; clear hflen
       clear hr4
       have hset := hI.out.set
       have hHU := HU.out.below hI.out.below
       by_cases hys : y ∈ s'
       ·have hlk := look_t hset hys
        go_wp2
        go_roundw
        case rel => exact ⟨j + 1, s', todo', by omega, by go_num, hI, hskip.out (.inl hys), hS, hOB, hsz, hln⟩
        case measure => simp [intOf]; omega
       ·have hlk := look_f hset hys
        by_cases hf : freeAt m t y = true
        ·rw [hf] at hcf2
         by_cases hyu : y ∈ used
         ·have hlu := look_t hHU hyu
          have HF := Lib.hid hf; clear hf
          go_wp2
          go_roundw
          case rel => exact ⟨j + 1, s', todo', by omega, by go_num, hI, hskip.out (.inr (.inr hyu)), hS, hOB, hsz, hln⟩
          case measure => simp [intOf]; omega
         ·have hlu := look_f hHU hyu
          have HF := Lib.hid hf; clear hf
          have hJ' := Lib.hid (hpush.out hys HF.out hyu)
          have hsl3 := nodup_len hJ.out.nd m.n (fun y hy => (hJ.out.rp y hy).range D.out)
          have htl3 := hJ.out.ln
          have htl4 : todo'.length ≤ 300 := by unfold MZ.n at hsl3; omega
          go_wp2_with (at_mapUpdate; refine wpSetAdd rfl _ _ _ _ rfl Try.underlying82 (w.heap.size + 1) s' y rfl rfl rfl hI.out.set ?_)
          intro wa hsa hga
          have hIa := Lib.hid (hI.out.add hsa hga)
          have hSa : Hid (Same (fun b => wo.heap.size ≤ b ∧ b < wk.heap.size) wk wa) := fun b hb hlt => by
           refine (hga.block b (Nat.lt_of_lt_of_le hlt hsz.out) (fun e => ?_)).trans (hS.out b hb hlt)
           injection e with e
           have := hb.1
           omega
          have hza : Hid (wk.heap.size ≤ wa.heap.size) := Nat.le_trans hsz.out hga.size
          have hgB : w.heap.size + 2 ≤ wa.heap.size := hIa.out.lt
          clear hsa hga hlk hlu hset hHU m0 m1 m2 m3 m4 m5 hcf1 hcf2 hcell
          go_wp2_with (at_builtin; refine wpAppAt rfl _ _ rfl _ todo' y (w.heap.size + 2) wa.heap.size 1 _ rfl rfl (hIa.out.own.alloc _) ?d1 ?d2 ?d3 ?_)
          (try case d1 => simp)
          case d2 => (first | omega | (simp; omega))
          case d3 => omega
          intro v' wb hob hgb hbl
          have hIb := Lib.hid ((hIa.out.alloc _).app hob hgb.out)
          have hOb : Hid (∀ k, v'.ownBlock = some k → k < wo.heap.size ∨ wk.heap.size ≤ k) := fun k hk => by
           rcases hbl.out with e | e
           ·exact hOB.out k (e ▸ hk)
           ·have : k = wa.heap.size + 1 - 1 + 1 := by
             rw [e] at hk
             simpa using hk.symm
            have := hza.out
            omega
          have hSb : Hid (Same (fun b => wo.heap.size ≤ b ∧ b < wk.heap.size) wk wb) := fun b hb hlt => by
           have hz := hza.out
           refine (hgb.out.block b (by simp; omega) (fun e => ?_)).trans ((Below.heap_alloc wa _ b (by omega)).trans (hSa.out b hb hlt))
           have h1 := hOB.out b e.symm
           have h2 := hb.1
           omega
          have hzb : Hid (wk.heap.size ≤ wb.heap.size) := by
           have h1 := hgb.out.size
           have h2 := hza.out
           simp at h1
           show _ ≤ _
           omega
          clear hob hgb hbl
          go_wp2
          go_roundw
          case rel => exact ⟨j + 1, s' ++ [y], todo' ++ [y], by omega, by go_num, by have := hIb.out; rwa [ins_new hys] at this, hJ', hSb, hOb, hzb, by have h1 := hln.out; show _ ∧ _; simp only [List.length_append, List.length_cons, List.length_nil]; omega⟩
          case measure => simp [intOf]; omega
        ·have hf' : freeAt m t y = false := by simpa using hf
         rw [hf'] at hcf2
         have HF := Lib.hid hf'; clear hf hf'
         go_wp2
         go_roundw
         case rel => exact ⟨j + 1, s', todo', by omega, by go_num, hI, hskip.out (.inr (.inl HF.out)), hS, hOB, hsz, hln⟩
         case measure => simp [intOf]; omega
      ·have hO' := Lib.hid (hJ.out.done (by omega))
       have hsl3 := nodup_len hO'.out.nd m.n (fun y hy => (hO'.out.rp y hy).range D.out)
       have hl5 := hln.out
       go_wp2
       go_roundg (2 * (m.n.toNat - s'.length) + todo'.length)
       case measure =>
        have h1 : (td.concat x).length = td.length + 1 := by simp
        rw [h1]
        omega
       case rel => exact ⟨s', todo', rfl, hI, hO'⟩
end Go.Proofs.Ytgpjfpcjiebjiaa

namespace Go.Proofs.Ytgpjfpcjiebjiaa
open Go.RowKit
set_option linter.unusedVariables false
set_option linter.unusedSimpArgs false

theorem any_take_succ {α : Type} {l : List α} {k : Nat} (p : α → Bool) (h : k < l.length) : (l.take (k + 1)).any p = ((l.take k).any p || p l[k]) := by
 rw [List.take_succ_eq_append_getElem h, List.any_append]; simp

theorem callFunc_run {P : Program} {n : FuncId} {fn : Func} (h : P.funcs[n]? = some fn) (hn : (fn.name == "runtime.NumGoroutine") = false) (hb : fn.body.isNone = false) (a : Array Value) (w : World) : (callFunc n a).run P w = .ok (.enter n a) w := by
 unfold callFunc
 simp only [Sem.run_bind, run_program, Result.andThen_ok, h, hn, hb, Bool.false_eq_true, if_false, Sem.run_pure]

set_option maxRecDepth 100000 in
theorem indexFuncI_calls {ok : Nat → Prop} {v : Value} {l : List Int} (n : FuncId) (caps : Array Value) (p : Int → Bool) (w : World) (h : Ints w ok v l) (hl : l.length ≤ 20000000000000)
  (hcf : ∀ (a : Array Value) (w : World), (callFunc n a).run Try.prog w = .ok (.enter n a) w)
  (hp : ∀ x ∈ l, ∀ w1, Drew w w1 → Calls Try.prog n (#[.int .i64 x] ++ caps) w1 fun e w' => e = .returned (.bool (p x)) ∧ Drew w1 w') :
  Calls Try.prog 82 #[v, .func (.func n) #[] caps] w fun e w' => ∃ r : Int, e = .returned (.int .i64 r) ∧ (0 ≤ r ↔ l.any p = true) ∧ -1 ≤ r ∧ Drew w w' := by
 obtain ⟨A, c, rfl, hc, hr⟩ := h
 have HR := Lib.hid hr; clear hr
 have HP := Lib.hid hp; clear hp
 go_enter Try.func82, Try.ntmps82
 go_wp2_with fail
 go_loopw [8] (fun i wr => ∃ k : Nat, k ≤ l.length ∧ i = .int .i64 k ∧ Hid ((l.take k).any p = false) ∧ Hid (Drew w wr)) (fun i _ => l.length - (intOf i).toNat)
 case atStart => exact ⟨0, Nat.zero_le _, rfl, by simp [Hid], Drew.refl _⟩
 case round =>
  obtain ⟨k, hk, rfl, hn, hd⟩ := hrel
  by_cases hlt : k < l.length
  ·obtain ⟨b, off, rfl, _, hcell⟩ := intsAt (HR.out.keep (hd.out.same ok)) hlt hlt
   obtain ⟨x, hx⟩ : ∃ x, x = l[k] := ⟨_, rfl⟩
   rw [← hx] at hcell
   have hxl : x ∈ l := by rw [hx]; exact List.getElem_mem _
   have hsucc := Lib.hid (any_take_succ p hlt)
   rw [← hx] at hsucc
   clear hx
   have hcall := Lib.hid (HP.out x hxl wr hd.out)
   by_cases hpx : p x = true
   ·go_wp2_with fail
    refine hcall.out.mono ?_
    rintro e w1 ⟨rfl, hd1⟩
    rw [hpx]
    have HD1 := Lib.hid (hd.out.trans hd1); clear hd1
    have HPX := Lib.hid hpx; clear hpx
    go_wp2_with fail
    go_ret
    refine ⟨_, rfl, ⟨fun _ => ?_, fun _ => by omega⟩, by omega, HD1.out⟩
    rw [List.any_eq_true]
    exact ⟨x, hxl, HPX.out⟩
   ·have hpf : p x = false := by simpa using hpx
    clear hpx
    go_wp2_with fail
    refine hcall.out.mono ?_
    rintro e w1 ⟨rfl, hd1⟩
    rw [hpf]
    have HD1 := Lib.hid (hd.out.trans hd1); clear hd1
    have HPX := Lib.hid hpf; clear hpf
    go_wp2_with fail
    go_roundw
    case rel => exact ⟨k + 1, by omega, by go_num, by
     show _ = false
     rw [hsucc.out, hn.out, HPX.out]; rfl, HD1⟩
    case measure => simp [intOf]; omega
  ·obtain rfl : k = l.length := by omega
   go_wp2
   go_ret
   have h := hn.out
   rw [List.take_length] at h
   refine ⟨_, rfl, ⟨fun h' => by omega, fun h' => ?_⟩, by omega, hd.out⟩
   rw [h] at h'
   cases h'
set_option maxRecDepth 100000 in
theorem indexFuncB_calls {ok : Nat → Prop} {v : Value} {l : List (List Bool)} (n : FuncId) (caps : Array Value) (p : List Bool → Bool) (w : World) (h : Each (Bools w ok) w ok v l) (hl : l.length ≤ 20000000000000)
  (hcf : ∀ (a : Array Value) (w : World), (callFunc n a).run Try.prog w = .ok (.enter n a) w)
  (hp : ∀ x ∈ l, ∀ u, Bools w ok u x → ∀ w1, Drew w w1 → Calls Try.prog n (#[u] ++ caps) w1 fun e w' => e = .returned (.bool (p x)) ∧ Drew w1 w') :
  Calls Try.prog 81 #[v, .func (.func n) #[] caps] w fun e w' => ∃ r : Int, e = .returned (.int .i64 r) ∧ (0 ≤ r ↔ l.any p = true) ∧ -1 ≤ r ∧ Drew w w' := by
 obtain ⟨vs, ⟨A, c, rfl, hc, hr⟩, he⟩ := h
 have HR := Lib.hid hr; clear hr
 have HE := Lib.hid he; clear he
 have HP := Lib.hid hp; clear hp
 go_enter Try.func81, Try.ntmps81
 go_wp2_with fail
 go_loopw [8] (fun i wr => ∃ k : Nat, k ≤ l.length ∧ i = .int .i64 k ∧ Hid ((l.take k).any p = false) ∧ Hid (Drew w wr)) (fun i _ => l.length - (intOf i).toNat)
 case atStart => exact ⟨0, Nat.zero_le _, rfl, by simp [Hid], Drew.refl _⟩
 case round =>
  obtain ⟨k, hk, rfl, hn, hd⟩ := hrel
  by_cases hlt : k < l.length
  ·obtain ⟨b, off, u, rfl, _, hcell, hu⟩ := eachAt (HR.out.keep (hd.out.same ok)) HE.out hlt hlt
   obtain ⟨x, hx⟩ : ∃ x, x = l[k] := ⟨_, rfl⟩
   rw [← hx] at hu
   have hxl : x ∈ l := by rw [hx]; exact List.getElem_mem _
   have hsucc := Lib.hid (any_take_succ p hlt)
   rw [← hx] at hsucc
   clear hx
   have hcall := Lib.hid (HP.out x hxl u hu wr hd.out)
   clear hu
   by_cases hpx : p x = true
   ·go_wp2_with fail
    refine hcall.out.mono ?_
    rintro e w1 ⟨rfl, hd1⟩
    rw [hpx]
    have HD1 := Lib.hid (hd.out.trans hd1); clear hd1
    have HPX := Lib.hid hpx; clear hpx
    go_wp2_with fail
    go_ret
    refine ⟨_, rfl, ⟨fun _ => ?_, fun _ => by omega⟩, by omega, HD1.out⟩
    rw [List.any_eq_true]
    exact ⟨x, hxl, HPX.out⟩
   ·have hpf : p x = false := by simpa using hpx
    clear hpx
    go_wp2_with fail
    refine hcall.out.mono ?_
    rintro e w1 ⟨rfl, hd1⟩
    rw [hpf]
    have HD1 := Lib.hid (hd.out.trans hd1); clear hd1
    have HPX := Lib.hid hpf; clear hpf
    go_wp2_with fail
    go_roundw
    case rel => exact ⟨k + 1, by omega, by go_num, by
     show _ = false
     rw [hsucc.out, hn.out, HPX.out]; rfl, HD1⟩
    case measure => simp [intOf]; omega
  ·obtain rfl : k = l.length := by omega
   go_wp2
   go_ret
   have h := hn.out
   rw [List.take_length] at h
   refine ⟨_, rfl, ⟨fun h' => by omega, fun h' => ?_⟩, by omega, hd.out⟩
   rw [h] at h'
   cases h'
set_option maxRecDepth 100000 in
theorem indexFuncL_calls {ok : Nat → Prop} {v : Value} {l : List (List Int)} (n : FuncId) (caps : Array Value) (p : List Int → Bool) (w : World) (h : Each (Ints w ok) w ok v l) (hl : l.length ≤ 20000000000000)
  (hcf : ∀ (a : Array Value) (w : World), (callFunc n a).run Try.prog w = .ok (.enter n a) w)
  (hp : ∀ x ∈ l, ∀ u, Ints w ok u x → ∀ w1, Drew w w1 → Calls Try.prog n (#[u] ++ caps) w1 fun e w' => e = .returned (.bool (p x)) ∧ Drew w1 w') :
  Calls Try.prog 94 #[v, .func (.func n) #[] caps] w fun e w' => ∃ r : Int, e = .returned (.int .i64 r) ∧ (0 ≤ r ↔ l.any p = true) ∧ -1 ≤ r ∧ Drew w w' := by
 obtain ⟨vs, ⟨A, c, rfl, hc, hr⟩, he⟩ := h
 have HR := Lib.hid hr; clear hr
 have HE := Lib.hid he; clear he
 have HP := Lib.hid hp; clear hp
 go_enter Try.func94, Try.ntmps94
 go_wp2_with fail
 go_loopw [8] (fun i wr => ∃ k : Nat, k ≤ l.length ∧ i = .int .i64 k ∧ Hid ((l.take k).any p = false) ∧ Hid (Drew w wr)) (fun i _ => l.length - (intOf i).toNat)
 case atStart => exact ⟨0, Nat.zero_le _, rfl, by simp [Hid], Drew.refl _⟩
 case round =>
  obtain ⟨k, hk, rfl, hn, hd⟩ := hrel
  by_cases hlt : k < l.length
  ·obtain ⟨b, off, u, rfl, _, hcell, hu⟩ := eachAt (HR.out.keep (hd.out.same ok)) HE.out hlt hlt
   obtain ⟨x, hx⟩ : ∃ x, x = l[k] := ⟨_, rfl⟩
   rw [← hx] at hu
   have hxl : x ∈ l := by rw [hx]; exact List.getElem_mem _
   have hsucc := Lib.hid (any_take_succ p hlt)
   rw [← hx] at hsucc
   clear hx
   have hcall := Lib.hid (HP.out x hxl u hu wr hd.out)
   clear hu
   by_cases hpx : p x = true
   ·go_wp2_with fail
    refine hcall.out.mono ?_
    rintro e w1 ⟨rfl, hd1⟩
    rw [hpx]
    have HD1 := Lib.hid (hd.out.trans hd1); clear hd1
    have HPX := Lib.hid hpx; clear hpx
    go_wp2_with fail
    go_ret
    refine ⟨_, rfl, ⟨fun _ => ?_, fun _ => by omega⟩, by omega, HD1.out⟩
    rw [List.any_eq_true]
    exact ⟨x, hxl, HPX.out⟩
   ·have hpf : p x = false := by simpa using hpx
    clear hpx
    go_wp2_with fail
    refine hcall.out.mono ?_
    rintro e w1 ⟨rfl, hd1⟩
    rw [hpf]
    have HD1 := Lib.hid (hd.out.trans hd1); clear hd1
    have HPX := Lib.hid hpf; clear hpf
    go_wp2_with fail
    go_roundw
    case rel => exact ⟨k + 1, by omega, by go_num, by
     show _ = false
     rw [hsucc.out, hn.out, HPX.out]; rfl, HD1⟩
    case measure => simp [intOf]; omega
  ·obtain rfl : k = l.length := by omega
   go_wp2
   go_ret
   have h := hn.out
   rw [List.take_length] at h
   refine ⟨_, rfl, ⟨fun h' => by omega, fun h' => ?_⟩, by omega, hd.out⟩
   rw [h] at h'
   cases h'
set_option maxRecDepth 100000 in
theorem containsFuncI_calls {ok : Nat → Prop} {v : Value} {l : List (Int)} (n : FuncId) (caps : Array Value) (p : Int → Bool) (w : World) (h : Ints w ok v l) (hl : l.length ≤ 20000000000000) (hcf : ∀ (a : Array Value) (w : World), (callFunc n a).run Try.prog w = .ok (.enter n a) w)
  (hp : ∀ x ∈ l, ∀ w1, Drew w w1 → Calls Try.prog n (#[.int .i64 x] ++ caps) w1 fun e w' => e = .returned (.bool (p x)) ∧ Drew w1 w') :
  Calls Try.prog 53 #[v, .func (.func n) #[] caps] w fun e w' => e = .returned (.bool (l.any p)) ∧ Drew w w' := by
 have H := Lib.hid (indexFuncI_calls n caps p w h hl hcf hp)
 clear hp
 obtain ⟨A, c, rfl, hc, hr⟩ := h
 clear hr
 go_enter Try.func53, Try.ntmps53
 go_wp2_with fail
 refine H.out.mono ?_
 rintro e w1 ⟨r, rfl, hr, hr1, hd⟩
 have HR := Lib.hid hr; clear hr
 have HD := Lib.hid hd; clear hd
 go_wp2_with fail
 go_ret
 refine ⟨ret_bool ?_, HD.out⟩
 rw [Bool.eq_iff_iff, decide_eq_true_iff]
 exact HR.out

set_option maxRecDepth 100000 in
theorem containsFuncB_calls {ok : Nat → Prop} {v : Value} {l : List (List Bool)} (n : FuncId) (caps : Array Value) (p : List Bool → Bool) (w : World) (h : Each (Bools w ok) w ok v l) (hl : l.length ≤ 20000000000000) (hcf : ∀ (a : Array Value) (w : World), (callFunc n a).run Try.prog w = .ok (.enter n a) w)
  (hp : ∀ x ∈ l, ∀ u, Bools w ok u x → ∀ w1, Drew w w1 → Calls Try.prog n (#[u] ++ caps) w1 fun e w' => e = .returned (.bool (p x)) ∧ Drew w1 w') :
  Calls Try.prog 50 #[v, .func (.func n) #[] caps] w fun e w' => e = .returned (.bool (l.any p)) ∧ Drew w w' := by
 have H := Lib.hid (indexFuncB_calls n caps p w h hl hcf hp)
 clear hp
 obtain ⟨vs, ⟨A, c, rfl, hc, hr⟩, he⟩ := h
 clear hr he
 go_enter Try.func50, Try.ntmps50
 go_wp2_with fail
 refine H.out.mono ?_
 rintro e w1 ⟨r, rfl, hr, hr1, hd⟩
 have HR := Lib.hid hr; clear hr
 have HD := Lib.hid hd; clear hd
 go_wp2_with fail
 go_ret
 refine ⟨ret_bool ?_, HD.out⟩
 rw [Bool.eq_iff_iff, decide_eq_true_iff]
 exact HR.out

end Go.Proofs.Ytgpjfpcjiebjiaa
