/- Walks: the reference's search for what can be reached. -/
import Derived.Test.YtgpjfpcjiebjiaaGd
import Derived.Test.YtgpjfpcjiebjiaaGc
import Derived.Deep.OwnRows
import Derived.BigQuiet
import Derived.Deep.RegionHeld3
import Derived.Deep.DrawnRows
namespace Go.Proofs.Ytgpjfpcjiebjiaa
open Go.RowKit
set_option linter.unusedVariables false
set_option linter.unusedSimpArgs false
attribute [local go_sem ↓] Go.wp_at_zero Go.wp_at_succ

theorem Try.infoBool : (Try.prog.info? 4).map (fun i => (i.zero, i.size, i.bytes)) = some (some (.bool false), 1, 1) := by kernel_rfl

/-- A table of booleans: which numbers are in the list. -/
def memF (s : List Int) (i : Nat) : Value := .bool (decide ((i : Int) ∈ s))

open Classical in
/-- What Reach returns. -/
noncomputable def reachL (m : MZ) (t : Nat) (from_ used : List Int) : List Int := ((List.range m.n.toNat).map Int.ofNat).filter (fun x => decide (RP m t from_ used x))
theorem reachL_of {m : MZ} {t : Nat} {from_ used s : List Int} (h : ∀ x, x ∈ s ↔ RP m t from_ used x) : ((List.range m.n.toNat).map Int.ofNat).filter (fun x => decide (x ∈ s)) = reachL m t from_ used := by
 unfold reachL
 apply List.filter_congr
 intro x _
 rw [decide_eq_decide]
 exact h x
theorem mem_reachL {m : MZ} (d : Dim m) {t : Nat} {from_ used : List Int} {x : Int} : x ∈ reachL m t from_ used ↔ RP m t from_ used x := by
 unfold reachL
 simp only [List.mem_filter, List.mem_map, List.mem_range, decide_eq_true_eq]
 constructor
 ·rintro ⟨_, h⟩; exact h
 ·intro h
  have hr := h.range d
  exact ⟨⟨x.toNat, by omega, by simp; omega⟩, h⟩

structure QR (w1 wr : World) (gi gt n : Nat) (s tk : List Int) (v : Value) (todo : List Int) : Prop where
 ext : Ext w1 wr
 hi : w1.heap.size ≤ gi
 lt : gi < gt
 inn : wr.rowIs gi 4 n (memF s)
 tak : wr.rowIs gt 4 n (memF tk)
 own : OwnI wr (gt + 1) v todo

section
variable {w1 wr w' : World} {gi gt n : Nat} {s tk todo : List Int} {v : Value}
theorem memF_more {s : List Int} {x : Int} {n : Nat} (h : ¬ (0 ≤ x ∧ x < n)) {j : Nat} (hj : j < n) : memF s j = memF (s ++ [x]) j := by
 unfold memF
 congr 1
 rw [decide_eq_decide, List.mem_append, List.mem_singleton]
 constructor
 ·exact .inl
 ·rintro (h1 | h1)
  ·exact h1
  ·omega
theorem memF_set {s : List Int} {x : Int} (h : 0 ≤ x) (j : Nat) : (if j = x.toNat then Value.bool true else memF s j) = memF (s ++ [x]) j := by
 unfold memF
 by_cases hj : j = x.toNat
 ·rw [if_pos hj]
  congr 1
  symm
  rw [decide_eq_true_eq, List.mem_append, List.mem_singleton]
  right; omega
 ·rw [if_neg hj]
  congr 1
  rw [decide_eq_decide, List.mem_append, List.mem_singleton]
  constructor
  ·exact .inl
  ·rintro (h1 | h1)
   ·exact h1
   ·omega
theorem QR.more (h : QR w1 wr gi gt n s tk v todo) (hb : Ext wr w') : QR w1 w' gi gt n s tk v todo :=
 ⟨h.ext.trans hb, h.hi, h.lt, h.inn.of_block (hb.block _ h.inn.lt), h.tak.of_block (hb.block _ h.tak.lt),
  h.own.kept (row := none) ⟨hb.os, hb.tape, hb.output, hb.size, fun i hi _ => hb.block i hi⟩ (by cases h : v.ownBlock <;> simp)⟩
theorem QR.setI {x : Int} (h : QR w1 wr gi gt n s tk v todo) (hx : 0 ≤ x) : QR w1 (wr.setCell ⟨gi, x.toNat, none⟩ (.bool true)) gi gt n (s ++ [x]) tk v todo :=
 ⟨h.ext.setCell h.hi _, h.hi, h.lt, (h.inn.set x.toNat (.bool true)).congr fun j _ => memF_set hx j, h.tak.setOther (by show gt ≠ gi; have := h.lt; omega) _,
  ownsRow_setCell_below h.own (by show gi < gt + 1; have := h.lt; omega) _⟩
theorem QR.setT {x : Int} (h : QR w1 wr gi gt n s tk v todo) (hx : 0 ≤ x) : QR w1 (wr.setCell ⟨gt, x.toNat, none⟩ (.bool true)) gi gt n s (tk ++ [x]) v todo :=
 ⟨h.ext.setCell (by show _ ≤ gt; have := h.lt; have := h.hi; omega) _, h.hi, h.lt, h.inn.setOther (by show gi ≠ gt; have := h.lt; omega) _, (h.tak.set x.toNat (.bool true)).congr fun j _ => memF_set hx j,
  ownsRow_setCell_below h.own (by show gt < gt + 1; omega) _⟩
theorem QR.skipT {x : Int} (h : QR w1 wr gi gt n s tk v todo) (hx : ¬ (0 ≤ x ∧ x < n)) : QR w1 wr gi gt n s (tk ++ [x]) v todo :=
 ⟨h.ext, h.hi, h.lt, h.inn, h.tak.congr fun j hj => memF_more hx hj, h.own⟩
theorem QR.app {v' : Value} {l : List Int} (h : QR w1 wr gi gt n s tk v todo) (ho : OwnI w' (gt + 1) v' l) (hg : Hid (wr.grownBy w' v.ownBlock)) : QR w1 w' gi gt n s tk v' l :=
 ⟨below_app h.ext hg h.ext.size (fun k hk => by have := own_base h.own hk; have := h.lt; have := h.hi; omega), h.hi, h.lt,
  h.inn.of_block (hg.out.block _ h.inn.lt (fun e => by have := own_base h.own e.symm; have := h.lt; omega)),
  h.tak.of_block (hg.out.block _ h.tak.lt (fun e => by have := own_base h.own e.symm; omega)), ho⟩
theorem QR.cellI (h : QR w1 wr gi gt n s tk v todo) {x : Int} (h0 : 0 ≤ x) (h1 : x < n) : wr.cell? ⟨gi, x.toNat, none⟩ = some (.bool (decide (x ∈ s))) ∧ wr.frozen? ⟨gi, x.toNat, none⟩ = false := by
 refine ⟨?_, h.inn.frozen _⟩
 rw [h.inn.cell (by omega)]
 unfold memF
 rw [Int.toNat_of_nonneg h0]
theorem QR.cellT (h : QR w1 wr gi gt n s tk v todo) {x : Int} (h0 : 0 ≤ x) (h1 : x < n) : wr.cell? ⟨gt, x.toNat, none⟩ = some (.bool (decide (x ∈ tk))) ∧ wr.frozen? ⟨gt, x.toNat, none⟩ = false := by
 refine ⟨?_, h.tak.frozen _⟩
 rw [h.tak.cell (by omega)]
 unfold memF
 rw [Int.toNat_of_nonneg h0]
end

/-- A list of the call's own that stays beside one that grows. -/
structure QL (wr : World) (B : Nat) (vl v : Value) (l : List Int) : Prop where
 own : OwnI wr B vl l
 ne : ∀ k, vl.ownBlock = some k → v.ownBlock ≠ some k
section
variable {w1 wr w' : World} {B : Nat} {l : List Int} {v vl : Value}
theorem QL.more (h : QL wr B vl v l) (hb : Ext wr w') : QL w' B vl v l := ⟨h.own.kept (row := none) ⟨hb.os, hb.tape, hb.output, hb.size, fun i hi _ => hb.block i hi⟩ (by cases h : vl.ownBlock <;> simp), h.ne⟩
theorem QL.set (h : QL wr B vl v l) {a : Addr} (ha : a.block < B) (u : Value) : QL (wr.setCell a u) B vl v l := ⟨ownsRow_setCell_below h.own ha u, h.ne⟩
theorem QL.app {v' : Value} (h : QL wr B vl v l) (hg : Hid (wr.grownBy w' v.ownBlock)) (hv : Hid (v'.ownBlock = v.ownBlock ∨ v'.ownBlock = some wr.heap.size)) : QL w' B vl v' l := by
 refine ⟨h.own.kept hg.out ?_, fun k hk => ?_⟩
 ·cases hk : vl.ownBlock with
  | none => exact .inl rfl
  | some k => exact .inr (fun e => h.ne k hk e.symm)
 ·rcases hv.out with e | e
  ·rw [e]; exact h.ne k hk
  ·rw [e]
   intro e'
   injection e' with e'
   have := (h.own.lt k hk).2
   omega
end

/-- What is known of the list while the reference's search runs: .. and the neighbours of its first k are looked at. -/
structure QO (m : MZ) (t : Nat) (from_ used s : List Int) (k : Nat) : Prop where
 nd : s.Nodup
 rp : ∀ x ∈ s, RP m t from_ used x
 fr : ∀ x ∈ from_, 0 ≤ x → x < m.n → x ∈ s
 cl : ∀ y ∈ s.take k, ∀ z ∈ nextL m y, freeAt m t z = true → z ∉ used → z ∈ s
 kl : k ≤ s.length
structure QJ (m : MZ) (t : Nat) (from_ used s : List Int) (k : Nat) (x : Int) (j : Nat) : Prop where
 nd : s.Nodup
 rp : ∀ x ∈ s, RP m t from_ used x
 fr : ∀ x ∈ from_, 0 ≤ x → x < m.n → x ∈ s
 cl : ∀ y ∈ s.take k, ∀ z ∈ nextL m y, freeAt m t z = true → z ∉ used → z ∈ s
 kl : k < s.length
 xs : s[k]? = some x
 cx : ∀ z ∈ (nextL m x).take j, freeAt m t z = true → z ∉ used → z ∈ s
theorem QO.take_ {m : MZ} {t : Nat} {from_ used s : List Int} {k : Nat} (h : QO m t from_ used s k) (hk : k < s.length) : QJ m t from_ used s k s[k] 0 :=
 ⟨h.nd, h.rp, h.fr, h.cl, hk, List.getElem?_eq_getElem hk, by simp⟩
theorem QJ.xm {m : MZ} {t : Nat} {from_ used s : List Int} {k j : Nat} {x : Int} (h : QJ m t from_ used s k x j) : x ∈ s := List.mem_of_getElem? h.xs
theorem QJ.skip {m : MZ} {t : Nat} {from_ used s : List Int} {k j : Nat} {x : Int} (h : QJ m t from_ used s k x j) (hj : j < (nextL m x).length) (hs : (nextL m x)[j] ∈ s ∨ freeAt m t (nextL m x)[j] = false ∨ (nextL m x)[j] ∈ used) : QJ m t from_ used s k x (j + 1) :=
 ⟨h.nd, h.rp, h.fr, h.cl, h.kl, h.xs, fun z hz hf hu => by
  rcases (mem_take_succ hj z).1 hz with h1 | h1
  ·exact h.cx z h1 hf hu
  ·subst h1
   rcases hs with h2 | h2 | h2
   ·exact h2
   ·rw [hf] at h2; cases h2
   ·exact absurd h2 hu⟩
theorem QJ.push {m : MZ} {t : Nat} {from_ used s : List Int} {k j : Nat} {x : Int} (h : QJ m t from_ used s k x j) (hj : j < (nextL m x).length) (hs : (nextL m x)[j] ∉ s) (hf : freeAt m t (nextL m x)[j] = true) (hu : (nextL m x)[j] ∉ used) : QJ m t from_ used (s ++ [(nextL m x)[j]]) k x (j + 1) :=
 ⟨nodup_snoc h.nd hs, fun y hy => by
   rw [List.mem_append, List.mem_singleton] at hy
   rcases hy with hy | rfl
   ·exact h.rp y hy
   ·exact (h.rp x h.xm).step (List.getElem_mem hj) hf hu,
  fun y hy h0 h1 => by simp [h.fr y hy h0 h1],
  fun y hy z hz hf' hu' => by
   rw [List.take_append_of_le_length (by have := h.kl; omega)] at hy
   simp [h.cl y hy z hz hf' hu'],
  by have := h.kl; simp; omega,
  by rw [List.getElem?_append_left h.kl]; exact h.xs,
  fun z hz hf' hu' => by
   rcases (mem_take_succ hj z).1 hz with h1 | h1
   ·simp [h.cx z h1 hf' hu']
   ·simp [h1]⟩
theorem QJ.done {m : MZ} {t : Nat} {from_ used s : List Int} {k j : Nat} {x : Int} (h : QJ m t from_ used s k x j) (hj : (nextL m x).length ≤ j) : QO m t from_ used s (k + 1) :=
 ⟨h.nd, h.rp, h.fr, fun y hy z hz hf hu => by
  have hx : s[k]'h.kl = x := by
   have := h.xs
   rw [List.getElem?_eq_getElem h.kl] at this
   injection this
  rcases (mem_take_succ h.kl y).1 hy with h1 | h1
  ·exact h.cl y h1 z hz hf hu
  ·rw [hx] at h1
   subst h1
   exact h.cx z (by rwa [List.take_of_length_le hj]) hf hu, h.kl⟩
theorem QO.end_ {m : MZ} {t : Nat} {from_ used s : List Int} (h : QO m t from_ used s s.length) (x : Int) : x ∈ s ↔ RP m t from_ used x :=
 ⟨h.rp x, fun hr => hr (· ∈ s) h.fr (fun y z hy hz hf hu => h.cl y (by rwa [List.take_length]) z hz hf hu)⟩

set_option maxHeartbeats 4000000 in
set_option maxRecDepth 100000 in
theorem qreach_calls {ok ok' ok2 : Nat → Prop} {vm vf vu : Value} {m : MZ} {from_ used : List Int} (t : Nat) (w : World) (hm : MazeV w ok vm m) (d : Dim m) (ht : t < m.free.length) (hfl : ∀ f ∈ m.free, (f.length : Int) = m.n)
  (hf : Ints w ok' vf from_) (hl : from_.length ≤ 20000000000000) (hu : Ints w ok2 vu used) (hlu : used.length ≤ 20000000000000) :
  Calls Try.prog 59 #[vm, .int .i64 t, vf, vu] w fun e w' => ∃ v', e = .returned v' ∧ Mk w w' v' (reachL m t from_ used) := by
 have hmz := hm
 obtain ⟨vfr, vup, vts, rfl, hfr, _, _⟩ := hm
 obtain ⟨vsf, ⟨Af, cf, rfl, hcf, hrf⟩, hef⟩ := hfr
 obtain ⟨A, c, rfl, hc, hr⟩ := hf
 obtain ⟨A2, c2, rfl, hc2, hr2⟩ := hu
 obtain ⟨hl1, hl2⟩ := d.layer
 have D := Lib.hid d
 obtain ⟨dw1, dw2, hh1, hh2, ll1, ll2, n1, hup⟩ := d
 have HMZ := Lib.hid hmz; clear hmz
 have HRF := Lib.hid hrf; clear hrf
 have HEF := Lib.hid hef; clear hef
 have HR := Lib.hid hr; clear hr
 have HR2 := Lib.hid hr2; clear hr2
 have HFL := Lib.hid hfl; clear hfl hup
 obtain ⟨N, hN⟩ : ∃ N : Nat, m.w * m.h * m.l = (N : Int) := ⟨(m.w * m.h * m.l).toNat, by omega⟩
 have hN3 : N ≤ 300 := by omega
 have HN := Lib.hid hN; clear hN
 have hmk : ∀ W : World, (Instr.makeSlice 28 (.int .i64 (m.w * m.h * m.l)) (.int .i64 (m.w * m.h * m.l))).run Try.prog W = .ok (.slice (some ⟨W.heap.size, 0, none⟩) N N) (W.alloc (.cells (madeCells #[.bool false] N) 4)) := fun W => by
  rw [HN.out]
  exact run_make_row' 28 4 (.bool false) 1 Try.underlying28 Try.infoBool rfl .i64 .i64 N (by omega) (by omega) W
 go_enter Try.func59, Try.ntmps59
 go_wp2_with fail
 generalize hw1 : w.alloc (.cells #[.int .i64 m.w, .int .i64 m.h, .int .i64 m.l, .slice Af m.free.length cf, vup, vts] 31) = w1
 have hb1 : Ext w w1 := by rw [← hw1]; exact (Ext.refl w).alloc _
 have hgm : Blk w1 w.heap.size 31 #[.int .i64 m.w, .int .i64 m.h, .int .i64 m.l, .slice Af m.free.length cf, vup, vts] := by rw [← hw1]; exact heap_alloc_new _ _
 clear hw1
 obtain ⟨m0, m1, m2, m3, m4, m5⟩ := cells6 hgm
 have r0 := Ext.rule m0
 have r1 := Ext.rule m1
 have r2 := Ext.rule m2
 have r3 := Ext.rule m3
 have r4 := Ext.rule m4
 have r5 := Ext.rule m5
 clear m0 m1 m2 m3 m4 m5 hgm
 have ra := ext_allocs w1
 have hx : Ext w1 w1 := Ext.refl w1
 go_wp2_with fail
 refine (qnodes_calls _ _ _ _ _ _ _ (by omega) (by omega)).mono ?_
 rintro e wA ⟨rfl, hbA⟩
 have hxA : Ext w1 wA := hx.trans hbA
 go_wp2_with fail
 refine (qnodes_calls _ _ _ _ _ _ _ (by omega) (by omega)).mono ?_
 rintro e wB ⟨rfl, hbB⟩
 have hxB : Ext w1 wB := (hxA.alloc _).trans hbB
 have hzA : w1.heap.size ≤ wA.heap.size := hxA.size
 have hzB : wA.heap.size < wB.heap.size := by have := hbB.size; simp at this; omega
 have hQ : Hid (QR w1 (wB.alloc (.cells (madeCells #[.bool false] N) 4)) wA.heap.size wB.heap.size N [] [] (.slice none 0 0) []) := by
  refine ⟨hxB.alloc _, hzA, hzB, ?_, ?_, World.ownsRow_nil _ _ _ _⟩
  ·exact ((World.rowIs_made wA (.bool false) N 4).of_block (hbB.block _ (by simp))).alloc _
  ·exact World.rowIs_made wB (.bool false) N 4
 have hxC := hxB.alloc (.cells (madeCells #[.bool false] N) 4)
 generalize hwC : wB.alloc (.cells (madeCells #[.bool false] N) 4) = wC at hQ hxC
 go_wp2_with fail
 skip
 clear hwC
 generalize hgi : wA.heap.size = gi at *
 generalize hgt : wB.heap.size = gt at *
 clear hgi hgt hbA hbB hx hxA hxB hmk
 go_loopw [12] (fun i wr => ∃ k : Nat, k ≤ used.length ∧ i = .int .i64 k ∧ Hid (QR w1 wr gi gt N [] (used.take k) (.slice none 0 0) [])) (fun i _ => used.length - (intOf i).toNat)
 case atStart => exact ⟨0, by omega, rfl, hQ⟩
 clear hQ hxC
 case round =>
  obtain ⟨k, hk, rfl, hQ⟩ := hrel
  have hx : Ext w1 wr := hQ.out.ext
  by_cases hlt : k < used.length
  ·obtain ⟨b, off, rfl, _, hcell⟩ := intsAt (HR2.out.keep (Same.of_below (hb1.trans hx))) hlt hlt
   obtain ⟨y, hy⟩ : ∃ y, y = used[k] := ⟨_, rfl⟩
   have hsucc := Lib.hid (List.take_succ_eq_append_getElem hlt)
   rw [← hy] at hcell hsucc
   clear hy
   by_cases hy0 : 0 ≤ y
   ·by_cases hyn : y < N
    ·obtain ⟨hct, hft⟩ := hQ.out.cellT hy0 hyn
     have hQ' := Lib.hid (hQ.out.setT hy0)
     go_wp2
     go_roundw
     case rel => exact ⟨k + 1, by omega, by go_num, by rw [hsucc.out]; exact hQ'⟩
     case measure => simp [intOf]; omega
    ·have hQ' := Lib.hid (hQ.out.skipT (x := y) (by omega))
     go_wp2
     go_roundw
     case rel => exact ⟨k + 1, by omega, by go_num, by rw [hsucc.out]; exact hQ'⟩
     case measure => simp [intOf]; omega
   ·have hQ' := Lib.hid (hQ.out.skipT (x := y) (by omega))
    go_wp2
    go_roundw
    case rel => exact ⟨k + 1, by omega, by go_num, by rw [hsucc.out]; exact hQ'⟩
    case measure => simp [intOf]; omega
  ·obtain rfl : k = used.length := by omega
   rw [List.take_length] at hQ
   go_wp2_with fail
   go_loopw [11, 13] (fun v i wr => ∃ k s, k ≤ from_.length ∧ i = .int .i64 (k : Nat) ∧ Hid (QR w1 wr gi gt N s used v s) ∧ Hid (s.Nodup) ∧ Hid (∀ x, x ∈ s ↔ x ∈ from_.take k ∧ 0 ≤ x ∧ x < m.n)) (fun _ i _ => from_.length - (intOf i).toNat)
   case atStart => exact ⟨0, [], by omega, rfl, hQ, List.nodup_nil, by simp [Hid]⟩
   clear hQ hx hlt hk
   case round =>
    obtain ⟨k, s, hk, rfl, hQ, hnd, hxs⟩ := hrel
    have hx : Ext w1 wr := hQ.out.ext
    by_cases hlt : k < from_.length
    ·obtain ⟨b, off, rfl, _, hcell0⟩ := intsAt HR.out hlt hlt
     have hbs : Hid (b < w1.heap.size) := (Nat.lt_of_lt_of_le (lt_of_cell hcell0) hb1.size : b < w1.heap.size)
     have hcell := (hb1.trans hx).cell hcell0
     clear hcell0
     obtain ⟨y, hy⟩ : ∃ y, y = from_[k] := ⟨_, rfl⟩
     rw [← hy] at hcell
     have HY := Lib.hid hy; clear hy
     by_cases hy0 : 0 ≤ y
     ·by_cases hyn : y < N
      ·obtain ⟨hct, hft⟩ := hQ.out.cellI hy0 hyn
       by_cases hys : y ∈ s
       ·have HYS := Lib.hid hys
        rw [decide_eq_true hys] at hct
        clear hys
        go_wp2
        go_roundw
        case rel => exact ⟨k + 1, s, by omega, by go_num, hQ, hnd, fun x => by
         rw [mem_take_succ hlt, hxs.out, ← HY.out]
         constructor
         ·rintro ⟨h1, h2⟩; exact ⟨.inl h1, h2⟩
         ·rintro ⟨h1 | rfl, h2⟩
          ·exact ⟨h1, h2⟩
          ·exact (hxs.out x).1 HYS.out⟩
        case measure => simp [intOf]; omega
       ·have HYS := Lib.hid hys
        rw [decide_eq_false hys] at hct
        clear hys
        have hlen := nodup_len hnd.out m.n (fun x hxx => ((hxs.out x).1 hxx).2)
        have hlen2 : s.length ≤ 300 := by unfold MZ.n at hlen; omega
        clear hlen
        have hQ' := Lib.hid (hQ.out.setI hy0)
        have hgl : gt + 1 ≤ wr.heap.size := hQ.out.tak.lt
        have hcell2 : (wr.setCell ⟨gi, y.toNat, none⟩ (.bool true)).cell? ⟨b, off + k, none⟩ = some (.int .i64 y) := (World.cell?_of_block (w := wr) (Below.heap_setCell wr _ _ b (by show b ≠ gi; have := hbs.out; omega))).trans hcell
        go_wp2_with (at_builtin; refine wpAppAt rfl _ _ rfl _ s y (gt + 1) wr.heap.size 1 _ rfl rfl (hQ'.out.own.alloc _) ?d1 ?d2 ?d3 ?_)
        (try case d1 => exact cell_new _ _ _ (by simp))
        case d2 => (first | (simp; done) | (simp; omega) | omega)
        case d3 => omega
        intro v' wb hob hgb _
        have hQ2 := Lib.hid ((hQ'.out.more ((Ext.refl _).alloc _)).app hob hgb)
        clear hob hgb
        go_wp2
        go_roundw
        case rel => exact ⟨k + 1, s ++ [y], by omega, by go_num, hQ2, nodup_snoc hnd.out HYS.out, fun x => by
         rw [List.mem_append, List.mem_singleton, mem_take_succ hlt, hxs.out, ← HY.out]
         have hN' : m.n = N := HN.out
         constructor
         ·rintro (⟨h1, h2⟩ | rfl)
          ·exact ⟨.inl h1, h2⟩
          ·exact ⟨.inr rfl, hy0, by omega⟩
         ·rintro ⟨h1 | rfl, h2⟩
          ·exact .inl ⟨h1, h2⟩
          ·exact .inr rfl⟩
        case measure => simp [intOf]; omega
      ·go_wp2
       go_roundw
       case rel => exact ⟨k + 1, s, by omega, by go_num, hQ, hnd, fun x => by
        rw [mem_take_succ hlt, hxs.out, ← HY.out]
        have hN' : m.n = N := HN.out
        constructor
        ·rintro ⟨h1, h2⟩; exact ⟨.inl h1, h2⟩
        ·rintro ⟨h1 | rfl, h2, h3⟩
         ·exact ⟨h1, h2, h3⟩
         ·omega⟩
       case measure => simp [intOf]; omega
     ·go_wp2
      go_roundw
      case rel => exact ⟨k + 1, s, by omega, by go_num, hQ, hnd, fun x => by
       rw [mem_take_succ hlt, hxs.out, ← HY.out]
       constructor
       ·rintro ⟨h1, h2⟩; exact ⟨.inl h1, h2⟩
       ·rintro ⟨h1 | rfl, h2, h3⟩
        ·exact ⟨h1, h2, h3⟩
        ·omega⟩
      case measure => simp [intOf]; omega
    ·obtain rfl : k = from_.length := by omega
     have hO : Hid (QO m t from_ used s 0) := ⟨hnd.out, fun x h => RP.base (by have := ((hxs.out x).1 h).1; rwa [List.take_length] at this) ((hxs.out x).1 h).2.1 ((hxs.out x).1 h).2.2, fun x h h0 h1 => (hxs.out x).2 ⟨by rwa [List.take_length], h0, h1⟩, by simp, Nat.zero_le _⟩
     clear hnd hxs
     go_wp2_with fail
     go_loopw [11, 14] (fun v i wr => ∃ k s, i = .int .i64 (k : Nat) ∧ Hid (QR w1 wr gi gt N s used v s) ∧ Hid (QO m t from_ used s k)) (fun _ i _ => N - (intOf i).toNat)
     case atStart => exact ⟨0, s, rfl, hQ, hO⟩
     clear hQ hO hx hlt hk
     case round =>
      obtain ⟨k, s, rfl, hQ, hO⟩ := hrel
      have hx : Ext w1 wr := hQ.out.ext
      have hN' : m.n = N := HN.out
      have hsl := nodup_len hO.out.nd m.n (fun y hy => (hO.out.rp y hy).range D.out)
      have hsl2 : s.length ≤ N := by omega
      have hkl := hO.out.kl
      clear hsl hN'
      obtain ⟨wk, rfl⟩ : ∃ wk : World, wk = wr := ⟨_, rfl⟩
      by_cases hlt : k < s.length
      ·obtain ⟨g9, c9, hv, hg9, hg9'⟩ := hQ.out.own.form (by omega)
       subst hv
       have hcx : wk.cell? ⟨g9, k, none⟩ = some (.int .i64 s[k]) := by
        have := hQ.out.own.cellAt k (by omega)
        rw [this]
        simp [hlt]
       have hct := own_cap hQ.out.own
       have hJ := Lib.hid (hO.out.take_ hlt)
       have hrx := (hO.out.rp s[k] (List.getElem_mem hlt)).range D.out
       obtain ⟨x, hxx⟩ : ∃ x, x = s[k] := ⟨_, rfl⟩
       rw [← hxx] at hcx hJ hrx
       clear hxx
       obtain ⟨hx0, hx1⟩ := hrx
       unfold MZ.n at hx1
       have rx := Ext.rule hcx
       have hR := Lib.hid (Ext.refl wk)
       clear hcx
       go_wp2_with fail
       go_region_held3 (fun w' => Ext w1 w' ∧ Ext wk w')
        (first | (exact held_drew hx) | (exact held_ext (by assumption) hb9))
        ((go_at_call 56; refine (qnext_calls m x _ (HMZ.out.keep (Same.of_below (hb1.trans hx.drew))) D.out hx0 hx1).mono ?_; rintro e w9 ⟨v9, rfl, hb9, ho9⟩))
       rename_i hS
       have hQ9 := Lib.hid (hQ.out.more hS.2)
       have hL9 : Hid (QL w9 wk.heap.size v9 (.slice (some ⟨g9, 0, none⟩) s.length c9) (nextL m x)) := ⟨ho9, fun k hk e => by
        have h1 : wk.heap.size ≤ k := own_base ho9 hk
        have e : some g9 = some k := e
        injection e with e
        omega⟩
       obtain ⟨A3, c3, rfl, hc3, hr3⟩ := Row.of_own ho9
       have HR3 := Lib.hid hr3; clear hr3
       clear ho9 hb9 hS rx hQ hO
       have hln := nextL_len m x
       go_wp2_with fail
       go_loopw [11, 16] (fun v i wi => ∃ j s', j ≤ (nextL m x).length ∧ i = .int .i64 (j : Nat) ∧ Hid (QR w1 wi gi gt N s' used v s') ∧ Hid (QL wi wk.heap.size (.slice A3 (nextL m x).length c3) v (nextL m x)) ∧ Hid (QJ m t from_ used s' k x j)) (fun _ i _ => (nextL m x).length - (intOf i).toNat)
       case atStart => exact ⟨0, s, Nat.zero_le _, rfl, hQ9, hL9, hJ⟩
       clear hQ9 hL9 hJ
       case round =>
        obtain ⟨j, s', hj, rfl, hQ, hL, hJ⟩ := hrel
        obtain ⟨wi, rfl⟩ : ∃ wi : World, wi = wr := ⟨_, rfl⟩
        have hx : Ext w1 wi := hQ.out.ext
        by_cases hjl : j < (nextL m x).length
        ·obtain ⟨b2, rfl, hb2, hcell⟩ := own_at hL.out.own hjl
         have hyr := nextL_range D.out hx0 hx1 (List.getElem_mem hjl)
         have hskip := Lib.hid (hJ.out.skip hjl)
         have hpush := Lib.hid (hJ.out.push hjl)
         obtain ⟨y, hy⟩ : ∃ y, y = (nextL m x)[j] := ⟨_, rfl⟩
         rw [← hy] at hcell hyr hskip hpush
         have HYJ := Lib.hid hy; clear hy
         obtain ⟨hy0, hy1⟩ := hyr
         have hyn : y < N := by have hN' : m.n = N := HN.out; omega
         obtain ⟨bf, off3, uf, rfl, _, hcf1, hbf⟩ := eachAt (HRF.out.keep (Same.of_below (hb1.trans hx))) HEF.out ht ht
         have hflen := HFL.out _ (List.getElem_mem ht)
         obtain ⟨A4, c4, rfl, hc4, hr4⟩ := hbf
         have hyl : y.toNat < (m.free[t]).length := by omega
         obtain ⟨b4, off4, rfl, _, hcf2⟩ := boolsAt (hr4.keep (Same.of_below (hb1.trans hx))) hyl hyl
         have hfr : (m.free[t])[y.toNat] = freeAt m t y := by simp [freeAt, ht, hyl]
         rw [hfr] at hcf2
         have HFq := Lib.hid hfr; clear hfr
         obtain ⟨nf, hnf⟩ : ∃ nf, nf = (m.free[t]).length := ⟨_, rfl⟩
         rw [← hnf] at hcf1 hyl hflen hc4
         have HNF := Lib.hid hnf; clear hnf
         have HFL2 := Lib.hid hflen; clear hflen
         clear hr4 hy1
         obtain ⟨hci, hfi⟩ := hQ.out.cellI hy0 hyn
         obtain ⟨hct2, hft2⟩ := hQ.out.cellT hy0 hyn
         have hsl3 := nodup_len hJ.out.nd m.n (fun y hy => (hJ.out.rp y hy).range D.out)
         have hsl4 : s'.length ≤ N := by have hN' : m.n = N := HN.out; omega
         clear hsl3
         by_cases hys : y ∈ s'
         ·rw [decide_eq_true hys] at hci
          have HYS := Lib.hid hys; clear hys
          go_wp2_with fail
          go_quiet (fail)
          have hQ2 := Lib.hid (hQ.out.more ((Ext.refl wi).drewN nq))
          have hL2 := Lib.hid (hL.out.more ((Ext.refl wi).drewN nq))
          go_wp2
          go_roundw
          case rel => exact ⟨j + 1, s', by omega, by go_num, hQ2, hL2, hskip.out (.inl HYS.out)⟩
          case measure => simp [intOf]; omega
         ·rw [decide_eq_false hys] at hci
          have HYS := Lib.hid hys; clear hys
          by_cases hf : freeAt m t y = true
          ·rw [hf] at hcf2
           have HF := Lib.hid hf; clear hf
           by_cases hyu : y ∈ used
           ·rw [decide_eq_true hyu] at hct2
            have HYU := Lib.hid hyu; clear hyu
            go_wp2_with fail
            go_quiet (fail)
            have hQ2 := Lib.hid (hQ.out.more ((Ext.refl wi).drewN nq))
            have hL2 := Lib.hid (hL.out.more ((Ext.refl wi).drewN nq))
            go_wp2
            go_roundw
            case rel => exact ⟨j + 1, s', by omega, by go_num, hQ2, hL2, hskip.out (.inr (.inr HYU.out))⟩
            case measure => simp [intOf]; omega
           ·rw [decide_eq_false hyu] at hct2
            have HYU := Lib.hid hyu; clear hyu
            have hJ' := Lib.hid (hpush.out HYS.out HF.out HYU.out)
            go_wp2_with fail
            go_quiet (fail)
            generalize hW2 : wi.drewN nq = W2
            have hE2 : Ext wi W2 := by rw [← hW2]; exact (Ext.refl wi).drewN _
            clear hW2 hci hfi hct2 hft2 hcf1 hcf2
            have hQ2 := Lib.hid (hQ.out.more hE2)
            have hL2 := Lib.hid (hL.out.more hE2)
            have hcell2 : W2.cell? ⟨b2, j, none⟩ = some (.int .i64 y) := hE2.cell hcell
            clear hcell hx
            have hx := hQ2.out.ext
            obtain ⟨hci, hfi⟩ := hQ2.out.cellI hy0 hyn
            have hQ3 := Lib.hid (hQ2.out.setI hy0)
            have hgk : gi < wk.heap.size := by omega
            have hL3 := Lib.hid (hL2.out.set (a := ⟨gi, y.toNat, none⟩) hgk (.bool true))
            have hgl : gt + 1 ≤ W2.heap.size := hQ2.out.tak.lt
            have hcell3 : (W2.setCell ⟨gi, y.toNat, none⟩ (.bool true)).cell? ⟨b2, j, none⟩ = some (.int .i64 y) := (World.cell?_of_block (w := W2) (Below.heap_setCell W2 _ _ b2 (by show b2 ≠ gi; omega))).trans hcell2
            go_wp2_with (at_builtin; refine wpAppAt rfl _ _ rfl _ s' y (gt + 1) W2.heap.size 1 _ rfl rfl (hQ3.out.own.alloc _) ?d1 ?d2 ?d3 ?_)
            (try case d1 => exact cell_new _ _ _ (by simp))
            case d2 => (first | (simp; done) | (simp; omega) | omega)
            case d3 => omega
            intro v' wb hob hgb hbl
            have hQ4 := Lib.hid ((hQ3.out.more ((Ext.refl _).alloc _)).app hob hgb)
            have hL4 := Lib.hid ((hL3.out.more ((Ext.refl _).alloc _)).app hgb (by have h := hbl.out; show _ ∨ _; simpa using h))
            clear hob hgb hbl
            go_wp2
            go_roundw
            case rel => exact ⟨j + 1, s' ++ [y], by omega, by go_num, hQ4, hL4, hJ'⟩
            case measure => simp [intOf]; omega
          ·have hf' : freeAt m t y = false := by simpa using hf
           rw [hf'] at hcf2
           have HF := Lib.hid hf'; clear hf hf'
           go_wp2_with fail
           go_quiet (fail)
           have hQ2 := Lib.hid (hQ.out.more ((Ext.refl wi).drewN nq))
           have hL2 := Lib.hid (hL.out.more ((Ext.refl wi).drewN nq))
           go_wp2
           go_roundw
           case rel => exact ⟨j + 1, s', by omega, by go_num, hQ2, hL2, hskip.out (.inr (.inl HF.out))⟩
           case measure => simp [intOf]; omega
        ·have hO' := Lib.hid (hJ.out.done (by omega))
         have hsl3 := nodup_len hO'.out.nd m.n (fun y hy => (hO'.out.rp y hy).range D.out)
         have hsl4 : s'.length ≤ N := by have hN' : m.n = N := HN.out; omega
         have hk4 := hO'.out.kl
         go_wp2
         go_roundw
         case rel => exact ⟨k + 1, s', by go_num, hQ, hO'⟩
         case measure => simp [intOf]; omega
      ·have hkl2 : k = s.length := by omega
       subst hkl2
       obtain ⟨A0, c0, rfl, hc0⟩ := own_slice hQ.out.own
       have hE := Lib.hid (reachL_of hO.out.end_)
       have hMk := Lib.hid (Mk.nil wk)
       go_wp2_with fail
       go_loopw [17, 18] (fun v i wr => ∃ k : Nat, k ≤ N ∧ i = .int .i64 (k : Nat) ∧ Hid (Mk wk wr v (((List.range k).map Int.ofNat).filter (fun x => decide (x ∈ s))))) (fun _ i _ => N - (intOf i).toNat)
       case atStart => exact ⟨0, by omega, rfl, hMk⟩
       clear hMk
       case round =>
        obtain ⟨j, hj, rfl, hM⟩ := hrel
        have hxx := hM.out.ext
        by_cases hjl : j < N
        ·obtain ⟨hcj, _⟩ := (hQ.out.more hxx).cellI (x := (j : Int)) (by omega) (by omega)
         rw [Int.toNat_natCast] at hcj
         have hxw := hx.trans hxx
         have hstep : ((List.range (j + 1)).map Int.ofNat).filter (fun x => decide (x ∈ s)) = ((List.range j).map Int.ofNat).filter (fun x => decide (x ∈ s)) ++ [(j : Int)].filter (fun x => decide (x ∈ s)) := by
          rw [List.range_succ, List.map_append, List.filter_append]; rfl
         have HS := Lib.hid hstep; clear hstep
         by_cases hjs : (j : Int) ∈ s
         ·rw [decide_eq_true hjs] at hcj
          have HJS := Lib.hid hjs; clear hjs
          have hlen : (((List.range j).map Int.ofNat).filter (fun x => decide (x ∈ s))).length ≤ j := Nat.le_trans (List.length_filter_le _ _) (by simp)
          obtain ⟨lj, hlj⟩ : ∃ lj, lj = ((List.range j).map Int.ofNat).filter (fun x => decide (x ∈ s)) := ⟨_, rfl⟩
          rw [← hlj] at hM hlen HS
          clear hlj
          go_wp2_with (at_builtin; refine wpAppAt rfl _ _ rfl _ lj (j : Int) wk.heap.size wr.heap.size 1 _ rfl rfl (hM.out.own.alloc _) ?d1 ?d2 ?d3 ?_)
          (try case d1 => exact cell_new _ _ _ (by simp))
          case d2 => (first | (simp; done) | (have := hxx.size; simp; omega) | (have := hxx.size; omega))
          case d3 => omega
          intro v' wb hob hgb hbl
          have hM' := Lib.hid ((hM.out.alloc _).app hob hgb)
          clear hob hgb hbl
          go_wp2
          go_roundw
          case rel => exact ⟨j + 1, by omega, by go_num, by rw [HS.out, List.filter_cons_of_pos (by simpa using HJS.out)]; exact hM'⟩
          case measure => simp [intOf]; omega
         ·rw [decide_eq_false hjs] at hcj
          have HJS := Lib.hid hjs; clear hjs
          go_wp2
          go_roundw
          case rel => exact ⟨j + 1, by omega, by go_num, by rw [HS.out, List.filter_cons_of_neg (by simpa using HJS.out), List.filter_nil, List.append_nil]; exact hM⟩
          case measure => simp [intOf]; omega
        ·have hjN : j = N := by omega
         subst hjN
         go_wp2_with fail
         go_ret
         refine ⟨_, rfl, (hb1.trans hx).mono_mk ?_⟩
         rw [← hE.out]
         have hN' : m.n.toNat = j := by have : m.n = (j : Int) := HN.out; omega
         rw [hN']
         exact hM.out
end Go.Proofs.Ytgpjfpcjiebjiaa
