/- Walks: the numbers of a list, folded. Walks: can paths be found, by trying all? -/
import Derived.Test.YtgpjfpcjiebjiaaGr
import Derived.Test.YtgpjfpcjiebjiaaGF
namespace Go.Proofs.Ytgpjfpcjiebjiaa
open Go.RowKit
set_option linter.unusedVariables false
set_option linter.unusedSimpArgs false
attribute [local go_sem ↓] Go.wp_at_zero Go.wp_at_succ

set_option maxHeartbeats 4000000 in
set_option maxRecDepth 100000 in
theorem fold_calls {okl : Nat → Prop} {v : Value} {l : List Int} (n : Int) (w : World) (hli : Ints w okl v l) (hll : l.length ≤ 1000) (hx0 : ∀ x ∈ l, 0 ≤ x) (hn : 0 < n) (hn2 : n ≤ 1000) :
  Calls Try.prog 71 #[v, .int .i64 n] w fun e w' => ∃ v', e = .returned v' ∧ Mk w w' v' (l.map fun x => x % n) := by
 have HLI := Lib.hid hli
 obtain ⟨A, c, rfl, hcc, hr⟩ := hli
 have HR := Lib.hid hr
 have HX := Lib.hid hx0
 have hww := Ext.refl w
 clear hr hx0
 go_enter Try.func71, Try.ntmps71
 go_wp2_with fail
 go_loopw [5, 10] (fun v i wr => ∃ k : Nat, k ≤ l.length ∧ i = .int .i64 k ∧ Hid (Mk w wr v ((l.take k).map fun x => x % n))) (fun _ i _ => l.length - (intOf i).toNat)
 case atStart => exact ⟨0, by omega, rfl, Mk.nil w⟩
 case round =>
  obtain ⟨k, hk, rfl, hM⟩ := hrel
  obtain ⟨wk, rfl⟩ : ∃ wk : World, wk = wr := ⟨_, rfl⟩
  obtain ⟨L, hL⟩ : ∃ L, L = (l.take k).map (fun x => x % n) := ⟨_, rfl⟩
  rw [← hL] at hM
  obtain ⟨A5, c5, rfl, hc5⟩ := hM.out.slice
  have hxk : Ext w wk := hM.out.ext
  have hLl : L.length ≤ 1000 := by rw [hL, List.length_map, List.length_take]; omega
  have HM' := Lib.hid hM.out
  by_cases hgo : k < l.length
  ·have hd1 : decide ((k : Int) < (l.length : Int)) = true := decide_eq_true (by omega)
   have hd3 : decide (k < l.length) = true := decide_eq_true hgo
   obtain ⟨b, off, rfl, _, hcell⟩ := intsAt HR.out hgo hgo
   obtain ⟨x, hx⟩ : ∃ x, x = l[k] := ⟨_, rfl⟩
   rw [← hx] at hcell
   have rx : ∀ W, Ext w W → W.cell? ⟨b, off + k, none⟩ = some (.int .i64 x) := Ext.rule hcell
   have hx0 : 0 ≤ x := by rw [hx]; exact HX.out _ (List.getElem_mem hgo)
   have htm : x.tmod n = x % n := Int.tmod_eq_emod_of_nonneg hx0
   have hkk0 : (0 : Int) ≤ (k : Int) ∧ (k : Int) < (l.length : Int) := by omega
   have HN : Hid (L ++ [x % n] = (l.take (k + 1)).map fun x => x % n) := by
    show _ = _
    rw [hL, List.take_succ_eq_append_getElem hgo, List.map_append, ← hx]; rfl
   clear hx hcell hL hM
   go_wp2_with (at_builtin; refine wpAppAt rfl _ _ rfl _ L (x % n) w.heap.size wk.heap.size 1 _ rfl rfl (HM'.out.own.alloc _) ?d1 ?d2 ?d3 ?_)
   (try case d1 => exact cell_new _ _ _ (by simp))
   case d2 => (first | (simp; done) | (have := hxk.size; simp; omega) | (have := hxk.size; omega))
   case d3 => omega
   intro v' wb hob hgb hbl
   have hM'' := Lib.hid ((HM'.out.alloc _).app hob hgb)
   rw [HN.out] at hM''
   clear hob hgb hbl
   go_wp2
   go_roundw
   case rel => exact ⟨k + 1, by omega, by go_num, hM''⟩
   case measure => simp [intOf]; omega
  ·obtain rfl : k = l.length := by omega
   have hd1 : decide ((l.length : Int) < (l.length : Int)) = false := decide_eq_false (by omega)
   have hd3 : decide (l.length < l.length) = false := decide_eq_false (by omega)
   have HF : Hid (L = l.map fun x => x % n) := by rw [hL, List.take_length]; rfl
   clear hM hL
   go_wp2_with fail
   go_ret
   exact ⟨_, rfl, by rw [← HF.out]; exact HM'.out⟩
end Go.Proofs.Ytgpjfpcjiebjiaa

namespace Go.Proofs.Ytgpjfpcjiebjiaa
open Go.RowKit
set_option linter.unusedVariables false
set_option linter.unusedSimpArgs false
attribute [local go_sem ↓] Go.wp_at_zero Go.wp_at_succ

theorem row_same {w w' : World} {b n : Nat} {t : TypeId} {f : Nat → Value} (h : w.rowIs b t n f) (h' : w'.rowIs b t n f) : w'.heap[b]? = w.heap[b]? := by
 obtain ⟨c, h1, h2, h3⟩ := h
 obtain ⟨c', h4, h5, h6⟩ := h'
 have e : c' = c := by
  apply Array.ext_getElem?
  intro i
  rcases Nat.lt_or_ge i n with hi | hi
  ·rw [h3 i hi, h6 i hi]
  ·rw [Array.getElem?_eq_none (by omega), Array.getElem?_eq_none (by omega)]
 rw [h1, h4, e]
/-- A cell set, and set back behind a call. -/
theorem ext_restore {w w2 : World} {g x n : Nat} {us : List Int} (h : w.rowIs g 4 n (memF us)) (hx : x < n) (hf : (x : Int) ∉ us) (hE : Ext (w.setCell ⟨g, x, none⟩ (.bool true)) w2) : Ext w (w2.setCell ⟨g, x, none⟩ (.bool false)) := by
 have hsz : (w.setCell ⟨g, x, none⟩ (.bool true)).heap.size = w.heap.size := by simp [World.setCell]
 have h1 : (w.setCell ⟨g, x, none⟩ (.bool true)).rowIs g 4 n (fun j => if j = x then .bool true else memF us j) := h.set x (.bool true)
 have h2 := hE.block
 rw [hsz] at h2
 have h3 : w2.rowIs g 4 n (fun j => if j = x then .bool true else memF us j) := h1.of_block (h2 g h.lt)
 have h4 : (w2.setCell ⟨g, x, none⟩ (.bool false)).rowIs g 4 n (memF us) := (h3.set x (.bool false)).congr fun j hj => by
  by_cases e : j = x
  ·subst e
   rw [if_pos rfl]
   unfold memF
   rw [decide_eq_false hf]
  ·rw [if_neg e, if_neg e]
 refine ⟨hE.os, hE.tape, hE.output, ?_, fun k hk => ?_⟩
 ·have := hE.size
  rw [hsz] at this
  simpa [World.setCell] using this
 ·by_cases e : k = g
  ·subst e; exact row_same h h4
  ·rw [Below.heap_setCell _ _ _ _ e, h2 k hk, Below.heap_setCell _ _ _ _ e]
theorem row_set {w : World} {g n : Nat} {us : List Int} {x : Int} (h : w.rowIs g 4 n (memF us)) (hx : 0 ≤ x) : (w.setCell ⟨g, x.toNat, none⟩ (.bool true)).rowIs g 4 n (memF (us ++ [x])) :=
 (h.set x.toNat (.bool true)).congr fun j _ => by
  unfold memF
  by_cases e : j = x.toNat
  ·rw [if_pos e, decide_eq_true]
   refine List.mem_append_right _ (List.mem_singleton.2 ?_)
   omega
  ·rw [if_neg e]
   congr 1
   rw [decide_eq_decide]
   constructor
   ·exact fun h => List.mem_append_left _ h
   ·intro h
    rcases List.mem_append.1 h with h | h
    ·exact h
    ·rw [List.mem_singleton] at h
     omega
theorem same_set {w : World} {ok : Nat → Prop} (a : Addr) (u : Value) (hg : ¬ ok a.block) : Same ok w (w.setCell a u) := fun b hb _ => Below.heap_setCell _ _ _ _ (fun e => hg (by rw [← e]; exact hb))
open Classical in
/-- Can the tasks be done from here? -/
noncomputable def wayB (m : MZ) (t : Nat) (o : Option Int) (us : List Int) : Bool := decide (Way m t o us)
open Classical in
theorem wayB_true {m : MZ} {t : Nat} {o : Option Int} {us : List Int} (h : Way m t o us) : wayB m t o us = true := by unfold wayB; exact decide_eq_true h
open Classical in
theorem wayB_false {m : MZ} {t : Nat} {o : Option Int} {us : List Int} (h : ¬ Way m t o us) : wayB m t o us = false := by unfold wayB; exact decide_eq_false h
open Classical in
theorem wayB_iff {m : MZ} {t : Nat} {o : Option Int} {us : List Int} : wayB m t o us = true ↔ Way m t o us := by unfold wayB; exact decide_eq_true_iff
/-- What may come next. -/
def opts (m : MZ) (t : Nat) : Option Int → List Int
 | none => frm m t
 | some y => nextL m y
theorem way_try {m : MZ} {t : Nat} {o : Option Int} {us : List Int} {x : Int} (ht : t < m.tasks.length) (hx : x ∈ opts m t o) (hf : freeAt m t x = true) (hu : x ∉ us) (hw : Way m t (some x) (us ++ [x])) : Way m t o us := by
 cases o with
 | none => exact .beg ht hx hf hu hw
 | some y => exact .on ht hx hf hu hw
theorem way_no {m : MZ} {t : Nat} {o : Option Int} {us : List Int} (ht : t < m.tasks.length) (h1 : ∀ y, o = some y → ¬ (y ∈ tos m t ∧ Way m (t + 1) none us)) (h2 : ∀ x ∈ opts m t o, ¬ (freeAt m t x = true ∧ x ∉ us ∧ Way m t (some x) (us ++ [x]))) : ¬ Way m t o us := by
 intro h
 cases h with
 | done => omega
 | nxt _ h3 h4 => exact h1 _ rfl ⟨h3, h4⟩
 | beg _ h3 h4 h5 h6 => exact h2 _ h3 ⟨h4, h5, h6⟩
 | on _ h3 h4 h5 h6 => exact h2 _ h3 ⟨h4, h5, h6⟩

theorem one_ints (W : World) (x : Int) : Ints (W.alloc (.cells #[.int .i64 x] 3)) (fun b => b = W.heap.size) (.slice (some ⟨W.heap.size, 0, none⟩) 1 1) [x] :=
 ⟨some ⟨W.heap.size, 0, none⟩, 1, rfl, Nat.le_refl _, RowA.block (ok := fun b => b = W.heap.size) (cs := #[.int .i64 x]) (heap_alloc_new W _) rfl rfl⟩
theorem last_none {p : List Int} (h : p.getLast? = none) : p = [] := List.getLast?_eq_none_iff.1 h
theorem row_at {w : World} {g n : Nat} {us : List Int} (h : w.rowIs g 4 n (memF us)) {X : Nat} (hX : X < n) : w.cell? ⟨g, X, none⟩ = some (.bool (decide ((X : Int) ∈ us))) := h.cell hX
theorem blk_set {w : World} {g : Nat} {t : TypeId} {cs : Array Value} (h : Blk w g t cs) {a : Addr} (u : Value) (ha : g ≠ a.block) : Blk (w.setCell a u) g t cs := (Below.heap_setCell _ _ _ _ ha).trans h
set_option maxHeartbeats 8000000 in
set_option maxRecDepth 100000 in
theorem some_calls {m : MZ} (hg : Good m) (hl : Lens m) (htl : ∀ t ∈ m.tasks, t.1.length ≤ 1000 ∧ t.2.length ≤ 1000) {nu : Nat} (hnu : m.n = (nu : Int)) : ∀ (N : Nat) (w : World) {ok okp : Nat → Prop} {v vp : Value} {t g cu : Nat} {p us : List Int},
  MazeV w ok v m → ¬ ok g → Ints w okp vp p → ¬ okp g → p.length ≤ us.length → (∀ x ∈ p, 0 ≤ x ∧ x < m.n) → w.rowIs g 4 nu (memF us) → us.Nodup → (∀ x ∈ us, 0 ≤ x ∧ x < m.n) → t ≤ m.tasks.length → (p ≠ [] → t < m.tasks.length) → nu ≤ cu →
  (m.tasks.length - t) * 1000 + (nu - us.length) * 2 + (if p = [] then 1 else 0) < N →
  Calls Try.prog 35 #[v, .int .i64 t, vp, .slice (some ⟨g, 0, none⟩) nu cu] w fun e w' => e = .returned (.bool (wayB m t p.getLast? us)) ∧ Ext w w' := by
 intro N
 have hn300 : nu ≤ 300 := by
  have h1 := hg.dim.n1
  have h2 : m.n = m.w * m.h * m.l := rfl
  omega
 have HG := Lib.hid hg
 have HL := Lib.hid hl
 have HTL := Lib.hid htl
 have HNU := Lib.hid hnu
 have htk := hg.tk
 clear hg hl htl hnu
 induction N with
 | zero => intro w ok okp v vp t g cu p us h1 h2 h3 h4 h5 h6 h7 h8 h9 h10 h11 h12 h13; omega
 | succ N ih =>
  intro w ok okp v vp t g cu p us hm hgo hp hpg hpu hpr hrow hnd hur ht hpt hcu hN
  have IH := Lib.hid ih
  clear ih
  have hus : us.length ≤ nu := by
   have := nodup_len hnd m.n hur
   have := HNU.out
   omega
  have hpl : p.length ≤ 300 := by omega
  have HMZ := Lib.hid hm
  obtain ⟨vfr, vup, vts, rfl, hfr, -, hts⟩ := hm
  obtain ⟨vsf, ⟨Af, cf, rfl, hcf, -⟩, -⟩ := hfr
  have HTS := Lib.hid hts
  obtain ⟨vst, ⟨At, ct, rfl, hct, -⟩, -⟩ := hts
  have HP := Lib.hid hp
  obtain ⟨Ap, cp, rfl, hcp, hrp⟩ := hp
  have HRP := Lib.hid hrp
  have HROW := Lib.hid hrow
  have HND := Lib.hid hnd
  have HUR := Lib.hid hur
  have HPR := Lib.hid hpr
  have HNN := Lib.hid hN
  have HPG := Lib.hid hpg
  have HGO := Lib.hid hgo
  clear hrp hrow hnd hur hpr hN hpg hgo
  go_enter Try.func35, Try.ntmps35
  go_upto_region 1 with fail
  generalize hwm : w.alloc (.cells #[.int .i64 m.w, .int .i64 m.h, .int .i64 m.l, .slice Af m.free.length cf, vup, .slice At m.tasks.length ct] 31) = wm
  have hbm : Ext w wm := by rw [← hwm]; exact (Ext.refl w).alloc _
  have hgm : Blk wm w.heap.size 31 #[.int .i64 m.w, .int .i64 m.h, .int .i64 m.l, .slice Af m.free.length cf, vup, .slice At m.tasks.length ct] := by rw [← hwm]; exact heap_alloc_new _ _
  clear hwm
  have hglt : g < w.heap.size := HROW.out.lt
  have HBM := Lib.hid hgm
  obtain ⟨m0, m1, m2, m3, m4, m5⟩ := cells6 hgm
  have c0 := Ext.rule m0
  have c1 := Ext.rule m1
  have c2 := Ext.rule m2
  have c3 := Ext.rule m3
  have c4 := Ext.rule m4
  have c5 := Ext.rule m5
  clear m0 m1 m2 m3 m4 m5 hgm
  have hmm := Ext.refl wm
  have HPT := Lib.hid hpt
  clear hpt
  by_cases hT : t = m.tasks.length
  ·have hp0 : p = [] := by
    rcases List.eq_nil_or_concat p with h | ⟨a, b, h⟩
    ·exact h
    ·have := HPT.out (by rw [h]; simp); omega
   have hd1 : ((t : Int) == (m.tasks.length : Int)) = true := by rw [beq_iff_eq]; omega
   have HW : Hid (wayB m t p.getLast? us = true) := by
    show _ = _
    rw [hp0, hT]
    exact wayB_true Way.done
   clear hT
   go_wp2_with fail
   go_ret
   exact ⟨ret_bool HW.out.symm, hbm⟩
  ·have htl : t < m.tasks.length := by omega
   have htl2 : (t : Int) < (m.tasks.length : Int) := by omega
   have ht0 : (0 : Int) ≤ (t : Int) := by omega
   have hd1 : ((t : Int) == (m.tasks.length : Int)) = false := by rw [beq_eq_false_iff_ne]; omega
   clear hT
   obtain ⟨bt, offt, sn, u1, u2, rfl, hokt, hc0, hc1, hc2, hi1, hi2⟩ := tasksAt HTS.out htl
   have hlt12 := HTL.out _ (List.getElem_mem htl)
   have htd : m.tasks.getD t ([], []) = m.tasks[t] := by simp [htl]
   have HFR : Hid (frm m t = (m.tasks[t]).1) := by show _ = _; unfold frm; rw [htd]
   have HTO : Hid (tos m t = (m.tasks[t]).2) := by show _ = _; unfold tos; rw [htd]
   have HI1 := Lib.hid hi1
   have HI2 := Lib.hid hi2
   obtain ⟨A1, l1, rfl, hl1, -⟩ := hi1
   obtain ⟨A2, l2, rfl, hl2, -⟩ := hi2
   obtain ⟨n1, hn1⟩ : ∃ n1, n1 = (m.tasks[t]).1.length := ⟨_, rfl⟩
   obtain ⟨n2, hn2⟩ : ∃ n2, n2 = (m.tasks[t]).2.length := ⟨_, rfl⟩
   rw [← hn1] at hc1 HI1 hl1
   rw [← hn2] at hc2 HI2 hl2
   have HN1 := Lib.hid hn1
   have HN2 := Lib.hid hn2
   have rt1 : ∀ W, Ext wm W → W.cell? ⟨bt, offt + t * 3 + 1, none⟩ = some (.slice A1 n1 l1) := fun W hW => Ext.rule hc1 W (hbm.trans hW)
   have rt2 : ∀ W, Ext wm W → W.cell? ⟨bt, offt + t * 3 + 2, none⟩ = some (.slice A2 n2 l2) := fun W hW => Ext.rule hc2 W (hbm.trans hW)
   clear hc0 hc1 hc2 htd hn1 hn2
   go_upto_if 20 with (fail)
   go_cut [9] (fun v wx => ∃ A c L, v = .slice A L.length c ∧ L.length ≤ c ∧ L.length ≤ 1000 ∧ Hid (∃ okl, Ints wx okl (.slice A L.length c) L ∧ ¬ okl g) ∧ Hid (L = opts m t p.getLast?) ∧ Hid (Ext wm wx) ∧ Hid (∀ y, p.getLast? = some y → ¬ (y ∈ tos m t ∧ Way m (t + 1) none us)))
   case first =>
    by_cases hp0 : p = []
    ·subst hp0
     have hd2 : decide ((0 : Int) < (([] : List Int).length : Int)) = false := rfl
     go_wp2_with fail
     go_meet
     have hlen : n1 = (frm m t).length := by rw [HFR.out]; exact HN1.out
     refine ⟨A1, l1, frm m t, by rw [hlen], by omega, by rw [HFR.out]; omega, ⟨ok, ?_, HGO.out⟩, rfl, Ext.refl wm, fun y h => by cases h⟩
     have h9 := HI1.out.below hbm
     rw [HFR.out]
     rwa [HN1.out] at h9
    ·have hpl0 : 0 < p.length := List.length_pos_iff.2 hp0
     have hd2 : decide ((0 : Int) < (p.length : Int)) = true := decide_eq_true (by omega)
     have hd2' : decide (0 < p.length) = true := decide_eq_true hpl0
     obtain ⟨np, hnp⟩ : ∃ n, p.length = n + 1 := ⟨p.length - 1, by omega⟩
     have hnpl : np < p.length := by omega
     obtain ⟨bq, ofq, rfl, _, hcxl⟩ := intsAt HRP.out (k := np) hnpl hnpl
     obtain ⟨y, hy⟩ : ∃ y, y = p[np] := ⟨_, rfl⟩
     rw [← hy] at hcxl
     have hlast : p.getLast? = some y := by rw [List.getLast?_eq_getElem?, hnp, Nat.add_sub_cancel, List.getElem?_eq_getElem hnpl, hy]
     have hyr : 0 ≤ y ∧ y < m.n := HPR.out y (by rw [hy]; exact List.getElem_mem hnpl)
     have HYR := Lib.hid hyr
     have HLAST := Lib.hid hlast
     have rxl : ∀ W, Ext wm W → W.cell? ⟨bq, ofq + np, none⟩ = some (.int .i64 y) := fun W hW => Ext.rule hcxl W (hbm.trans hW)
     have hqw : IntKind.i64.wrap ((p.length : Int) - 1) = (np : Int) := by rw [IntKind.wrap_i64]; omega
     have hqw2 : IntKind.i64.wrap ((np : Int) + 1 - 1) = (np : Int) := by rw [IntKind.wrap_i64]; omega
     have hqw3 : IntKind.i64.wrap (np : Int) = (np : Int) := by rw [IntKind.wrap_i64]; omega
     have hqw4 : IntKind.i64.wrap ((t : Int) + 1) = (t : Int) + 1 := by rw [IntKind.wrap_i64]; omega
     have hnp0 : (0 : Int) ≤ (np : Int) := by omega
     have hnp1 : (np : Int) < (p.length : Int) := by omega
     obtain ⟨d1, hd1'⟩ : ∃ d1, d1 = decide (y ∈ (m.tasks[t]).2) := ⟨_, rfl⟩
     obtain ⟨d2, hd2''⟩ : ∃ d2, d2 = wayB m (t + 1) none us := ⟨_, rfl⟩
     have HHAS : Hid (∀ W, Ext wm W → Calls Try.prog 36 #[.slice A2 n2 l2, .int .i64 y] W fun e w' => e = .returned (.bool d1) ∧ W = w') := fun W hW => by
      have h9 := HI2.out.below (hbm.trans hW)
      rw [HN2.out] at h9 ⊢
      rw [hd1']
      exact has_calls y W h9 (by omega)
     have HSOM : Hid (∀ W, Ext wm W → Calls Try.prog 35 #[.agg #[.int .i64 m.w, .int .i64 m.h, .int .i64 m.l, .slice Af m.free.length cf, vup, .slice (some ⟨bt, offt, none⟩) m.tasks.length ct], .int .i64 ((t : Int) + 1), .slice none 0 0, .slice (some ⟨g, 0, none⟩) nu cu] W fun e w' => e = .returned (.bool d2) ∧ Ext W w') := fun W hW => by
      have ih := IH.out
      have h9 := ih W (t := t + 1) (p := []) (cu := cu) (HMZ.out.below (hbm.trans hW)) HGO.out (Ints.nil W (fun _ => False)) (fun h => h) (by simp) (fun x hx => by cases hx) (HROW.out.of_block ((hbm.trans hW).block g hglt)) HND.out HUR.out (by omega) (fun h => absurd rfl h) hcu (by
       have h8 := HNN.out
       rw [if_neg hp0] at h8
       rw [if_pos rfl]
       omega)
      rw [hd2'']
      exact h9
     have HD1 := Lib.hid hd1'
     have HD2 := Lib.hid hd2''
     have HP0 := Lib.hid hp0
     clear hd1' hd2'' hy hlast hyr hcxl hp0 hnp
     go_upto_region 5 with fail
     go_cut [40] (fun v wx => ∃ d, v = .bool d ∧ Hid (d = (d1 && d2)) ∧ Hid (Ext wm wx))
     case first =>
      cases d1
      ·go_quiet ((go_at_call 36; with_reducible refine (HHAS.out _ (hmm.drewN _)).mono ?_; rintro e w8 ⟨he8, rfl⟩; exact ⟨he8, ⟨_, rfl⟩⟩))
       go_wp2
       go_meet
       exact ⟨_, rfl, rfl, hmm.drewN _⟩
      ·go_region_held3 (fun w' => Ext wm w') (first | exact hmm.drew | exact hmm.drew.trans hE9) (first | (go_at_call 36; refine (HHAS.out _ hmm.drew).mono ?_; rintro e w9 ⟨rfl, rfl⟩) | (go_at_call 35; refine (HSOM.out _ hmm.drew).mono ?_; rintro e w9 ⟨rfl, hE9⟩))
       all_goals
        rename_i hS
        have HS := Lib.hid hS
        clear hS
        go_wp2_with fail
        go_meet
        exact ⟨_, rfl, rfl, HS.out⟩
     case rest =>
      obtain ⟨d, rfl, hdd, hx5⟩ := hcut
      have hx5 : Ext wm wc := hx5.out
      clear HSOM HHAS
      cases d
      ·go_upto_region 7 with fail
       have HNX : Hid (Calls Try.prog 18 #[.agg #[.int .i64 m.w, .int .i64 m.h, .int .i64 m.l, .slice Af m.free.length cf, vup, .slice (some ⟨bt, offt, none⟩) m.tasks.length ct], .int .i64 y] wc.drew fun e w' => ∃ v', e = .returned v' ∧ Mk wc.drew w' v' (nextO m y)) := rNext_calls y _ (HMZ.out.below (hbm.trans hx5.drew)) HL.out
       have hx5d : Ext wm wc.drew := hx5.drew
       go_region_held3 (fun w' => Ext wm w') (first | exact hx5d | exact hx5d.trans hM9.ext) ((go_at_call 18; refine HNX.out.mono ?_; rintro e w9 ⟨v9, rfl, hM9⟩))
       all_goals
        rename_i hS
        have HS := Lib.hid hS
        have HM9 := Lib.hid hM9
        have hcn : nextO m y = nextL m y := by unfold nextO; rw [if_pos ⟨good_chk HG.out, HYR.out.1, HYR.out.2⟩]
        obtain ⟨A9, c9, hv9, hc9⟩ := HM9.out.slice
        have HV9 := Lib.hid hv9
        have HCN := Lib.hid hcn
        clear hS hM9 hv9 hcn
        go_wp2_with fail
        go_meet
        refine ⟨A9, c9, nextO m y, HV9.out, hc9, by rw [HCN.out]; exact Nat.le_trans (nextL_len _ _) (by omega), ⟨fun b => wc.heap.size ≤ b, ?_, fun h => ?_⟩, ?_, HS.out, fun y' hy' hc => ?_⟩
        ·have h9 := HM9.out.ints
         rw [HV9.out] at h9
         exact h9
        ·have := hx5.size; have := hbm.size; omega
        ·show _ = _
         rw [HLAST.out]; exact HCN.out
        ·rw [HLAST.out] at hy'
         injection hy' with hy'
         subst hy'
         have h9 := hdd.out.symm
         have h8 : d1 = true := by rw [HD1.out, decide_eq_true_eq, ← HTO.out]; exact hc.1
         have h7 : d2 = true := by rw [HD2.out]; exact wayB_true hc.2
         rw [h8, h7] at h9
         cases h9
      ·have HW : Hid (wayB m t p.getLast? us = true) := by
        show _ = _
        rw [HLAST.out]
        have h9 := hdd.out.symm
        rw [Bool.and_eq_true] at h9
        have h8 : y ∈ tos m t := by rw [HTO.out]; rw [HD1.out] at h9; exact of_decide_eq_true h9.1
        exact wayB_true (.nxt htl h8 (wayB_iff.1 (by rw [← HD2.out]; exact h9.2)))
       clear hdd
       go_wp2_with fail
       go_ret
       exact ⟨ret_bool HW.out.symm, hbm.trans hx5⟩
   case rest =>
    obtain ⟨A, c, L, rfl, hLc, hL1, hLI, hLO, hxmc, hNT⟩ := hcut
    have hxmc : Ext wm wc := hxmc.out
    have hxwc : Ext w wc := hbm.trans hxmc
    have HOPT : Hid (∀ x ∈ L, 0 ≤ x ∧ x < m.n) := fun x hx => by
     rw [hLO.out] at hx
     cases hgl : p.getLast? with
     | none => rw [hgl] at hx; exact frm_range HG.out hx
     | some y =>
      rw [hgl] at hx
      have := HPR.out y (List.mem_of_getLast? hgl)
      exact nextL_range HG.out.dim this.1 this.2 hx
    obtain ⟨okl, hLi, hLg⟩ := hLI.out
    have HLi := Lib.hid hLi
    obtain ⟨A', c', e, -, hrL⟩ := hLi
    injection e with e1 e2 e3
    subst e1 e3
    clear e2
    have HRL := Lib.hid hrL
    clear hrL hLI
    go_wp2_with fail
    go_loopw [57] (fun i wr => ∃ k : Nat, k ≤ L.length ∧ i = .int .i64 k ∧ Hid (Ext wc wr) ∧ Hid (∀ j (hj : j < L.length), j < k → ¬ (freeAt m t L[j] = true ∧ L[j] ∉ us ∧ Way m t (some L[j]) (us ++ [L[j]])))) (fun i _ => L.length - (intOf i).toNat)
    case atStart => exact ⟨0, Nat.zero_le _, rfl, Ext.refl _, fun j hj h => by omega⟩
    case round =>
     obtain ⟨k, hk, rfl, hX, hNo⟩ := hrel
     obtain ⟨wk, rfl⟩ : ∃ wk : World, wk = wr := ⟨_, rfl⟩
     have hxck : Ext wc wk := hX.out
     have hxmk : Ext wm wk := hxmc.trans hxck
     have hxwk : Ext w wk := hbm.trans hxmk
     by_cases hkl : k < L.length
     ·obtain ⟨bL, oL, rfl, hokL, hcell⟩ := intsAt HRL.out hkl hkl
      obtain ⟨x, hx⟩ : ∃ x, x = L[k] := ⟨_, rfl⟩
      have hxr : 0 ≤ x ∧ x < m.n := HOPT.out x (by rw [hx]; exact List.getElem_mem hkl)
      have HIN : Hid (x ∈ opts m t p.getLast?) := by show _ ∈ _; rw [← hLO.out, hx]; exact List.getElem_mem hkl
      rw [← hx] at hcell
      have HNEXT : Hid (¬ (freeAt m t x = true ∧ x ∉ us ∧ Way m t (some x) (us ++ [x])) → ∀ j (hj : j < L.length), j < k + 1 → ¬ (freeAt m t L[j] = true ∧ L[j] ∉ us ∧ Way m t (some L[j]) (us ++ [L[j]]))) := fun h j hj h2 => by
       rcases Nat.lt_or_ge j k with h3 | h3
       ·exact hNo.out j hj h3
       ·obtain rfl : j = k := by omega
        rw [← hx]; exact h
      have rx := Ext.rule hcell
      obtain ⟨X, rfl⟩ : ∃ X : Nat, x = (X : Int) := ⟨x.toNat, by omega⟩
      have hXn : X < nu := by have := HNU.out; omega
      have hqf : t < m.free.length := by rw [HG.out.fl]; exact htl
      obtain ⟨bf, off3, cf', b4, off4, fl, c4', e1, hcf1, hfl, hfl2, _, hcf2⟩ := mazeFree HMZ.out HG.out.fn hqf hxr.1 hxr.2
      injection e1 with e1 _ e3
      subst e1 e3
      rw [Int.toNat_natCast] at hcf2
      obtain ⟨fr, hfr⟩ : ∃ fr, fr = freeAt m t (X : Int) := ⟨_, rfl⟩
      rw [← hfr] at hcf2
      have HFRE := Lib.hid hfr
      have rf1 : ∀ W, Ext wm W → W.cell? ⟨bf, off3 + t, none⟩ = some (.slice (some ⟨b4, off4, none⟩) fl c4') := fun W hW => Ext.rule hcf1 W (hbm.trans hW)
      have rf2 : ∀ W, Ext wm W → W.cell? ⟨b4, off4 + X, none⟩ = some (.bool fr) := fun W hW => Ext.rule hcf2 W (hbm.trans hW)
      have hrk : wk.rowIs g 4 nu (memF us) := HROW.out.of_block (hxwk.block g hglt)
      obtain ⟨du, hdu⟩ : ∃ d, d = decide ((X : Int) ∈ us) := ⟨_, rfl⟩
      have hsc := row_at hrk hXn
      rw [← hdu] at hsc
      have HDU := Lib.hid hdu
      have hsf := hrk.frozen X
      have HRK := Lib.hid hrk
      have rs := Ext.rule hsc
      have hkk := Ext.refl wk
      have hX0 : (0 : Int) ≤ (X : Int) := by omega
      have hX1 : (X : Int) < (fl : Int) := hfl
      have hX2 : (X : Int) < (nu : Int) := by omega
      have htf : (t : Int) < (m.free.length : Int) := by omega
      have hk0 : decide ((k : Int) < (L.length : Int)) = true := decide_eq_true (by omega)
      have hk0' : decide (k < L.length) = true := decide_eq_true hkl
      have hk1 : (0 : Int) ≤ (k : Int) ∧ (k : Int) < (L.length : Int) := by omega
      have hq3 : decide ((X : Int) < 0) = false := decide_eq_false (by omega)
      have hq4 : decide ((nu : Int) ≤ (X : Int)) = false := decide_eq_false (by omega)
      have hq5 : decide (nu ≤ X) = false := decide_eq_false (by omega)
      clear hcell hx hxr hcf1 hcf2 hfr hrk hdu hsc
      cases du
      ·cases fr
       ·go_wp2_with fail
        go_roundw
        case rel => exact ⟨k + 1, by omega, by go_num, hX, HNEXT.out fun h => by rw [← HFRE.out] at h; cases h.1⟩
        case measure => simp [intOf]; omega
       ·go_upto_region 14 with fail
        have hnu' : (X : Int) ∉ us := by have := HDU.out.symm; rwa [decide_eq_false_iff_not] at this
        generalize hws : wk.setCell ⟨g, X, none⟩ (.bool true) = ws
        have hbs : Blk ws w.heap.size 31 #[.int .i64 m.w, .int .i64 m.h, .int .i64 m.l, .slice (some ⟨bf, off3, none⟩) m.free.length cf, vup, .slice (some ⟨bt, offt, none⟩) m.tasks.length ct] := by
         rw [← hws]; exact blk_set (HBM.out.ext hxmk) _ (by show w.heap.size ≠ g; omega)
        have hms : Hid (MazeV ws ok (.agg #[.int .i64 m.w, .int .i64 m.h, .int .i64 m.l, .slice (some ⟨bf, off3, none⟩) m.free.length cf, vup, .slice (some ⟨bt, offt, none⟩) m.tasks.length ct]) m) := by
         rw [← hws]; exact (HMZ.out.below hxwk).keep (same_set _ _ HGO.out)
        have hps : Hid (Ints ws okp (.slice Ap p.length cp) p) := by
         rw [← hws]; exact (HP.out.below hxwk).keep (same_set _ _ HPG.out)
        have hrs : Hid (ws.rowIs g 4 nu (memF (us ++ [(X : Int)]))) := by
         rw [← hws]
         have h9 := row_set (x := (X : Int)) HRK.out (by omega)
         rw [Int.toNat_natCast] at h9
         exact h9
        have hss : Hid (ws.heap.size = wk.heap.size) := by rw [← hws]; show _ = _; simp [World.setCell]
        have HWS := Lib.hid hws
        obtain ⟨m0, m1, m2, m3, m4, m5⟩ := cells6 hbs
        have e0 := Ext.rule m0
        have e1 := Ext.rule m1
        have e2 := Ext.rule m2
        have e3 := Ext.rule m3
        have e4 := Ext.rule m4
        have e5 := Ext.rule m5
        clear m0 m1 m2 m3 m4 m5 hbs hws
        have hlen : us.length < nu := by
         have h9 := nodup_len (nd_snoc HND.out hnu') m.n (fun z hz => by
          rcases List.mem_append.1 hz with hz | hz
          ·exact HUR.out z hz
          ·rw [List.mem_singleton] at hz; subst hz; have := HNU.out; omega)
         have := HNU.out
         simp at h9
         omega
        obtain ⟨d, hd⟩ : ∃ d, d = wayB m t (some (X : Int)) (us ++ [(X : Int)]) := ⟨_, rfl⟩
        have HSM : Hid (∀ W v (okq : Nat → Prop), Ext ws W → Ints W okq v (p ++ [(X : Int)]) → ¬ okq g → Calls Try.prog 35 #[.agg #[.int .i64 m.w, .int .i64 m.h, .int .i64 m.l, .slice (some ⟨bf, off3, none⟩) m.free.length cf, vup, .slice (some ⟨bt, offt, none⟩) m.tasks.length ct], .int .i64 t, v, .slice (some ⟨g, 0, none⟩) nu cu] W fun e w' => e = .returned (.bool d) ∧ Ext W w') := fun W v okq hW hv hq => by
         have ih := IH.out
         have h9 := ih W (t := t) (p := p ++ [(X : Int)]) (us := us ++ [(X : Int)]) (cu := cu) (hms.out.below hW) HGO.out hv hq (by simp; omega) (fun z hz => by
          rcases List.mem_append.1 hz with hz | hz
          ·exact HPR.out z hz
          ·rw [List.mem_singleton] at hz; subst hz; have := HNU.out; omega) (hrs.out.of_block (hW.block g hrs.out.lt)) (nd_snoc HND.out hnu') (fun z hz => by
          rcases List.mem_append.1 hz with hz | hz
          ·exact HUR.out z hz
          ·rw [List.mem_singleton] at hz; subst hz; have := HNU.out; omega) (by omega) (fun _ => htl) hcu (by
           have h8 := HNN.out
           rw [if_neg (by simp), List.length_append, List.length_singleton]
           split at h8 <;> omega)
         rw [List.getLast?_append, List.getLast?_singleton, Option.some_or] at h9
         rw [hd]
         exact h9
        have HDD := Lib.hid hd
        have HNUS := Lib.hid hnu'
        clear hd hnu'
        go_cut [12] (fun v wx => v = .bool d ∧ Hid (Ext ws wx))
        case first =>
         refine wp_region_held_drew (S := (fun W => Ext ws W)) mixedA ((Ext.refl ws).drew) (fun hHeld => ?_)
         have hHd : Ext ws ws.drew := hHeld
         have hgd : ¬ (ws.drew.heap.size ≤ g) := by have h1 := hHd.size; have h2 := hss.out; have h3 := hxwk.size; omega
         generalize ws.drew = wd at hHeld hHd hgd ⊢
         refine wpAnyH_take (i := 0) (v := ?v1) rfl (by kernel_rfl) (by kernel_rfl) (by kernel_rfl) (fun _ _ _ h => h) (Or.inl ⟨?w1, ?y1⟩) hHeld ?r1
         case w1 => rfl
         case y1 => (intro w hSw; go_simp; try with_reducible rfl)
         simp only [rtPr, Act.put]
         refine wpAnyH_take (i := 1) (v := ?v2) rfl (by kernel_rfl) (by kernel_rfl) (by kernel_rfl) (fun _ _ _ h => h) (Or.inl ⟨?w2, ?y2⟩) hHeld ?r2
         case w2 => rfl
         case y2 => (intro w hSw; go_simp; try with_reducible rfl)
         simp only [rtPr, Act.put]
         refine wpAnyH_take (i := 3) (v := ?v3) rfl (by kernel_rfl) (by kernel_rfl) (by kernel_rfl) (fun _ _ _ h => h) (Or.inl ⟨?w3, ?y3⟩) hHeld ?r3
         case w3 => rfl
         case y3 => (intro w hSw; go_simp; try with_reducible rfl)
         simp only [rtPr, Act.put]
         refine wpAnyH_take (i := 5) (v := ?v4) rfl (by kernel_rfl) (by kernel_rfl) (by kernel_rfl) (fun _ _ _ h => h) (Or.inl ⟨?w4, ?y4⟩) hHeld ?r4
         case w4 => rfl
         case y4 => (intro w hSw; go_simp; try with_reducible rfl)
         simp only [rtPr, Act.put]
         refine wpAnyH_take (i := 8) (v := ?v5) rfl (by kernel_rfl) (by kernel_rfl) (by kernel_rfl) (fun _ _ _ h => h) (Or.inl ⟨?w5, ?y5⟩) hHeld ?r5
         case w5 => rfl
         case y5 => (intro w hSw; go_simp; try with_reducible rfl)
         simp only [rtPr, Act.put]
         refine wpAnyH_ready (rs := [2, 6]) (by kernel_rfl) (by simp) ?_
         refine AllReadyH.cons rfl (fun K hK => ?_) ?_
         ·go_simp
          have HO1 : Hid (OwnI (wd.alloc (.cells #[] 3)) wd.heap.size (.slice (some ⟨wd.heap.size, 0, none⟩) 0 0) []) := by have h := own_empty wd wd.heap.size ((Ext.refl wd)).size; exact (show OwnI _ _ _ _ by simpa using h)
          have hE1 : Ext wd (wd.alloc (.cells #[] 3)) := ((Ext.refl wd)).alloc (.cells #[] 3)
          have hX1 : Ext ws (wd.alloc (.cells #[] 3)) := hHd.trans hE1
          refine hK.out _ _ (hX1) (fun hHeld => ?_)
          clear hK K
          try simp only [rtPr, Act.put]
          refine wpAnyH_ready (rs := [4, 6]) (by kernel_rfl) (by simp) ?_
          refine AllReadyH.cons rfl (fun K hK => ?_) ?_
          ·refine step_append_ints (ok := okp) (by rfl) _ _ _ (by rfl) wd.heap.size [] p _ _ (by rfl) (by rfl) HO1.out (hps.out.below (hX1)) (hE1).size (by simp only [List.length_nil]; omega) ?_
           intro v2 w2 ho2 hg2 hat2
           rw [List.nil_append] at ho2
           have HO2 := Lib.hid ho2
           have hEE2 := below_app (hE1) hg2 (hE1).size (fun k hk => own_base HO1.out hk)
           clear ho2 hg2 hat2
           have hE2 : Ext wd w2 := hEE2
           have hX2 : Ext ws w2 := hHd.trans hE2
           refine hK.out _ _ (hX2) (fun hHeld => ?_)
           clear hK K
           try simp only [rtPr, Act.put]
           refine wpAnyH_ready (rs := [6]) (by kernel_rfl) (by simp) ?_
           refine AllReadyH.cons rfl (fun K hK => ?_) ?_
           ·go_simp
            have HO3 := Lib.hid (HO2.out.alloc (.cells #[.int .i64 (X : Int)] 3))
            have HS3 : Hid (Ints (w2.alloc (.cells #[.int .i64 (X : Int)] 3)) (fun b => b = w2.heap.size) (.slice (some ⟨w2.heap.size, 0, none⟩) 1 1) [(X : Int)]) := by have h := one_ints w2 (X : Int); exact (show Ints _ _ _ _ by simpa using h)
            have hE3 : Ext wd (w2.alloc (.cells #[.int .i64 (X : Int)] 3)) := (hE2).alloc (.cells #[.int .i64 (X : Int)] 3)
            have hX3 : Ext ws (w2.alloc (.cells #[.int .i64 (X : Int)] 3)) := hHd.trans hE3
            refine hK.out _ _ (hX3) (fun hHeld => ?_)
            clear hK K
            try simp only [rtPr, Act.put]
            refine wpAnyH_ready (rs := [7]) (by kernel_rfl) (by simp) ?_
            refine AllReadyH.cons rfl (fun K hK => ?_) ?_
            ·refine step_append_ints (ok := _) (by rfl) _ _ _ (by rfl) wd.heap.size p [(X : Int)] _ _ (by rfl) (by rfl) HO3.out HS3.out (hE3).size (by simp only [List.length_singleton]; omega) ?_
             intro v4 w4 ho4 hg4 hat4
             have HI4 : Hid (Ints w4 (fun b => wd.heap.size ≤ b) v4 (p ++ [(X : Int)])) := Row.of_own ho4
             have hEE4 := below_app (hE3) hg4 (hE3).size (fun k hk => own_base HO3.out hk)
             clear ho4 hg4 hat4
             have hE4 : Ext wd w4 := hEE4
             have hX4 : Ext ws w4 := hHd.trans hE4
             refine hK.out _ _ (hX4) (fun hHeld => ?_)
             clear hK K
             try simp only [rtPr, Act.put]
             refine wpAnyH_ready (rs := [9]) (by kernel_rfl) (by simp) ?_
             refine AllReadyH.cons rfl (fun K hK => ?_) ?_
             ·go_simp
              go_at_call 35
              refine (HSM.out _ _ _ (hX4) HI4.out hgd).mono ?_
              rintro e w5 ⟨rfl, hB5⟩
              have hE5 : Ext wd w5 := (hE4).trans hB5
              have hX5 : Ext ws w5 := hHd.trans hE5
              clear hB5
              refine hK.out _ _ (hX5) (fun hHeld => ?_)
              clear hK K
              try simp only [rtPr, Act.put]
              refine wpAnyH_take (i := 10) (v := ?v6) rfl (by kernel_rfl) (by kernel_rfl) (by kernel_rfl) (fun _ _ _ h => h) (Or.inl ⟨?w6, ?y6⟩) hHeld ?r6
              case w6 => rfl
              case y6 => (intro w hSw; go_simp; try with_reducible rfl)
              simp only [rtPr, Act.put]
              refine wpAnyH_done (by kernel_rfl) ?_ _
              have HXF := Lib.hid (hX5)
              go_wp2
              go_meet
              exact ⟨rfl, HXF.out⟩
             exact AllReadyH.nil
            exact AllReadyH.nil
           exact AllReadyH.nil
          refine AllReadyH.cons rfl (fun K hK => ?_) ?_
          ·go_simp
           have HO6 := Lib.hid (HO1.out.alloc (.cells #[.int .i64 (X : Int)] 3))
           have HS6 : Hid (Ints ((wd.alloc (.cells #[] 3)).alloc (.cells #[.int .i64 (X : Int)] 3)) (fun b => b = wd.heap.size + 1) (.slice (some ⟨wd.heap.size + 1, 0, none⟩) 1 1) [(X : Int)]) := by have h := one_ints (wd.alloc (.cells #[] 3)) (X : Int); exact (show Ints _ _ _ _ by simpa using h)
           have hE6 : Ext wd ((wd.alloc (.cells #[] 3)).alloc (.cells #[.int .i64 (X : Int)] 3)) := (hE1).alloc (.cells #[.int .i64 (X : Int)] 3)
           have hX6 : Ext ws ((wd.alloc (.cells #[] 3)).alloc (.cells #[.int .i64 (X : Int)] 3)) := hHd.trans hE6
           refine hK.out _ _ (hX6) (fun hHeld => ?_)
           clear hK K
           try simp only [rtPr, Act.put]
           refine wpAnyH_ready (rs := [4]) (by kernel_rfl) (by simp) ?_
           refine AllReadyH.cons rfl (fun K hK => ?_) ?_
           ·refine step_append_ints (ok := okp) (by rfl) _ _ _ (by rfl) wd.heap.size [] p _ _ (by rfl) (by rfl) HO6.out (hps.out.below (hX6)) (hE6).size (by simp only [List.length_nil]; omega) ?_
            intro v7 w7 ho7 hg7 hat7
            rw [List.nil_append] at ho7
            have HO7 := Lib.hid ho7
            have HS7 := Lib.hid (HS6.out.keep (Same.of_grown hg7.out (by simp)))
            have hEE7 := below_app (hE6) hg7 (hE6).size (fun k hk => own_base HO6.out hk)
            clear ho7 hg7 hat7
            have hE7 : Ext wd w7 := hEE7
            have hX7 : Ext ws w7 := hHd.trans hE7
            refine hK.out _ _ (hX7) (fun hHeld => ?_)
            clear hK K
            try simp only [rtPr, Act.put]
            refine wpAnyH_ready (rs := [7]) (by kernel_rfl) (by simp) ?_
            refine AllReadyH.cons rfl (fun K hK => ?_) ?_
            ·refine step_append_ints (ok := _) (by rfl) _ _ _ (by rfl) wd.heap.size p [(X : Int)] _ _ (by rfl) (by rfl) HO7.out HS7.out (hE7).size (by simp only [List.length_singleton]; omega) ?_
             intro v8 w8 ho8 hg8 hat8
             have HI8 : Hid (Ints w8 (fun b => wd.heap.size ≤ b) v8 (p ++ [(X : Int)])) := Row.of_own ho8
             have hEE8 := below_app (hE7) hg8 (hE7).size (fun k hk => own_base HO7.out hk)
             clear ho8 hg8 hat8
             have hE8 : Ext wd w8 := hEE8
             have hX8 : Ext ws w8 := hHd.trans hE8
             refine hK.out _ _ (hX8) (fun hHeld => ?_)
             clear hK K
             try simp only [rtPr, Act.put]
             refine wpAnyH_ready (rs := [9]) (by kernel_rfl) (by simp) ?_
             refine AllReadyH.cons rfl (fun K hK => ?_) ?_
             ·go_simp
              go_at_call 35
              refine (HSM.out _ _ _ (hX8) HI8.out hgd).mono ?_
              rintro e w9 ⟨rfl, hB9⟩
              have hE9 : Ext wd w9 := (hE8).trans hB9
              have hX9 : Ext ws w9 := hHd.trans hE9
              clear hB9
              refine hK.out _ _ (hX9) (fun hHeld => ?_)
              clear hK K
              try simp only [rtPr, Act.put]
              refine wpAnyH_take (i := 10) (v := ?v7) rfl (by kernel_rfl) (by kernel_rfl) (by kernel_rfl) (fun _ _ _ h => h) (Or.inl ⟨?w7, ?y7⟩) hHeld ?r7
              case w7 => rfl
              case y7 => (intro w hSw; go_simp; try with_reducible rfl)
              simp only [rtPr, Act.put]
              refine wpAnyH_done (by kernel_rfl) ?_ _
              have HXF := Lib.hid (hX9)
              go_wp2
              go_meet
              exact ⟨rfl, HXF.out⟩
             exact AllReadyH.nil
            exact AllReadyH.nil
           exact AllReadyH.nil
          exact AllReadyH.nil
         refine AllReadyH.cons rfl (fun K hK => ?_) ?_
         ·go_simp
          have HS10 : Hid (Ints (wd.alloc (.cells #[.int .i64 (X : Int)] 3)) (fun b => b = wd.heap.size) (.slice (some ⟨wd.heap.size, 0, none⟩) 1 1) [(X : Int)]) := by have h := one_ints wd (X : Int); exact (show Ints _ _ _ _ by simpa using h)
          have hE10 : Ext wd (wd.alloc (.cells #[.int .i64 (X : Int)] 3)) := ((Ext.refl wd)).alloc (.cells #[.int .i64 (X : Int)] 3)
          have hX10 : Ext ws (wd.alloc (.cells #[.int .i64 (X : Int)] 3)) := hHd.trans hE10
          refine hK.out _ _ (hX10) (fun hHeld => ?_)
          clear hK K
          try simp only [rtPr, Act.put]
          refine wpAnyH_ready (rs := [2]) (by kernel_rfl) (by simp) ?_
          refine AllReadyH.cons rfl (fun K hK => ?_) ?_
          ·go_simp
           have HS11 := Lib.hid (HS10.out.below ((Ext.refl (wd.alloc (.cells #[.int .i64 (X : Int)] 3))).alloc (.cells #[] 3)))
           have HO11 : Hid (OwnI ((wd.alloc (.cells #[.int .i64 (X : Int)] 3)).alloc (.cells #[] 3)) wd.heap.size (.slice (some ⟨wd.heap.size + 1, 0, none⟩) 0 0) []) := by have h := own_empty (wd.alloc (.cells #[.int .i64 (X : Int)] 3)) wd.heap.size (hE10).size; exact (show OwnI _ _ _ _ by simpa using h)
           have hE11 : Ext wd ((wd.alloc (.cells #[.int .i64 (X : Int)] 3)).alloc (.cells #[] 3)) := (hE10).alloc (.cells #[] 3)
           have hX11 : Ext ws ((wd.alloc (.cells #[.int .i64 (X : Int)] 3)).alloc (.cells #[] 3)) := hHd.trans hE11
           refine hK.out _ _ (hX11) (fun hHeld => ?_)
           clear hK K
           try simp only [rtPr, Act.put]
           refine wpAnyH_ready (rs := [4]) (by kernel_rfl) (by simp) ?_
           refine AllReadyH.cons rfl (fun K hK => ?_) ?_
           ·refine step_append_ints (ok := okp) (by rfl) _ _ _ (by rfl) wd.heap.size [] p _ _ (by rfl) (by rfl) HO11.out (hps.out.below (hX11)) (hE11).size (by simp only [List.length_nil]; omega) ?_
            intro v12 w12 ho12 hg12 hat12
            rw [List.nil_append] at ho12
            have HO12 := Lib.hid ho12
            have HS12 := Lib.hid (HS11.out.keep (Same.of_grown hg12.out (by simp)))
            have hEE12 := below_app (hE11) hg12 (hE11).size (fun k hk => own_base HO11.out hk)
            clear ho12 hg12 hat12
            have hE12 : Ext wd w12 := hEE12
            have hX12 : Ext ws w12 := hHd.trans hE12
            refine hK.out _ _ (hX12) (fun hHeld => ?_)
            clear hK K
            try simp only [rtPr, Act.put]
            refine wpAnyH_ready (rs := [7]) (by kernel_rfl) (by simp) ?_
            refine AllReadyH.cons rfl (fun K hK => ?_) ?_
            ·refine step_append_ints (ok := _) (by rfl) _ _ _ (by rfl) wd.heap.size p [(X : Int)] _ _ (by rfl) (by rfl) HO12.out HS12.out (hE12).size (by simp only [List.length_singleton]; omega) ?_
             intro v13 w13 ho13 hg13 hat13
             have HI13 : Hid (Ints w13 (fun b => wd.heap.size ≤ b) v13 (p ++ [(X : Int)])) := Row.of_own ho13
             have hEE13 := below_app (hE12) hg13 (hE12).size (fun k hk => own_base HO12.out hk)
             clear ho13 hg13 hat13
             have hE13 : Ext wd w13 := hEE13
             have hX13 : Ext ws w13 := hHd.trans hE13
             refine hK.out _ _ (hX13) (fun hHeld => ?_)
             clear hK K
             try simp only [rtPr, Act.put]
             refine wpAnyH_ready (rs := [9]) (by kernel_rfl) (by simp) ?_
             refine AllReadyH.cons rfl (fun K hK => ?_) ?_
             ·go_simp
              go_at_call 35
              refine (HSM.out _ _ _ (hX13) HI13.out hgd).mono ?_
              rintro e w14 ⟨rfl, hB14⟩
              have hE14 : Ext wd w14 := (hE13).trans hB14
              have hX14 : Ext ws w14 := hHd.trans hE14
              clear hB14
              refine hK.out _ _ (hX14) (fun hHeld => ?_)
              clear hK K
              try simp only [rtPr, Act.put]
              refine wpAnyH_take (i := 10) (v := ?v8) rfl (by kernel_rfl) (by kernel_rfl) (by kernel_rfl) (fun _ _ _ h => h) (Or.inl ⟨?w8, ?y8⟩) hHeld ?r8
              case w8 => rfl
              case y8 => (intro w hSw; go_simp; try with_reducible rfl)
              simp only [rtPr, Act.put]
              refine wpAnyH_done (by kernel_rfl) ?_ _
              have HXF := Lib.hid (hX14)
              go_wp2
              go_meet
              exact ⟨rfl, HXF.out⟩
             exact AllReadyH.nil
            exact AllReadyH.nil
           exact AllReadyH.nil
          exact AllReadyH.nil
         exact AllReadyH.nil
        case rest =>
         obtain ⟨rfl, hxs⟩ := hcut
         have hrc : wc.rowIs g 4 nu (memF (us ++ [(X : Int)])) := hrs.out.of_block (hxs.out.block g hrs.out.lt)
         have hcc := row_at hrc hXn
         have hcf := hrc.frozen X
         have HRS : Hid (Ext wk (wc.setCell ⟨g, X, none⟩ (.bool false))) := ext_restore HRK.out hXn HNUS.out (by rw [HWS.out]; exact hxs.out)
         clear hrc hrs hms hps hss HSM
         cases d
         ·go_wp2_with fail
          go_roundw
          case rel => exact ⟨k + 1, by omega, by go_num, hX.out.trans HRS.out, HNEXT.out fun h => by
           have h9 := HDD.out
           rw [wayB_true h.2.2] at h9
           cases h9⟩
          case measure => simp [intOf]; omega
         ·have HW : Hid (wayB m t p.getLast? us = true) := wayB_true (way_try htl HIN.out HFRE.out.symm HNUS.out (wayB_iff.1 HDD.out.symm))
          go_wp2_with fail
          go_ret
          exact ⟨ret_bool HW.out.symm, hxwk.trans HRS.out⟩
      ·go_wp2_with fail
       go_roundw
       case rel => exact ⟨k + 1, by omega, by go_num, hX, HNEXT.out fun h => by have := HDU.out.symm; rw [decide_eq_true_eq] at this; exact h.2.1 this⟩
       case measure => simp [intOf]; omega
     ·obtain rfl : k = L.length := by omega
      have hk0 : decide ((L.length : Int) < (L.length : Int)) = false := decide_eq_false (by omega)
      have hk0' : decide (L.length < L.length) = false := decide_eq_false (by omega)
      have HW : Hid (wayB m t p.getLast? us = false) := by
       show _ = _
       refine wayB_false (way_no htl hNT.out fun x hx => ?_)
       rw [← hLO.out] at hx
       obtain ⟨j, hj, e⟩ := List.getElem_of_mem hx
       rw [← e]
       exact hNo.out j hj hj
      go_wp2_with fail
      go_ret
      exact ⟨ret_bool HW.out.symm, hxwk⟩
end Go.Proofs.Ytgpjfpcjiebjiaa
