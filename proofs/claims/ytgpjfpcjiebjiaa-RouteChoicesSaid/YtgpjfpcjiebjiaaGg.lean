/- Walks: the state of choices: its task, whether its last path is finished, whether it is complete. Walks: clones of lists, and the state without choices. Walks: a list of numbers collected out of an iterator over a list. A region that draws its order, walked by an invariant: each operation once, whatever came before it; also inside a round of a range over a function. -/
import Derived.Test.YtgpjfpcjiebjiaaGf
import Derived.Lib.SliceRun
import Derived.RangeFuncNested
import Derived.RangeFuncBound
import Derived.RangeFuncCalls
import Derived.RangeFuncLeaves
import Derived.RangeFuncBox
import Derived.Shelf.Abstract
import Derived.Maps.AppendAt
import Derived.RangeFuncWrites
import Derived.Shelf.RegionOpen
import Derived.OwnWalkIn
import Derived.TacticsInMore
import Derived.LoopNIn
import Derived.LoopIn
import Derived.Deep.RegionHeld
import Derived.CallsIn
import Derived.OrdersIn
namespace Go.Proofs.Ytgpjfpcjiebjiaa
open Go.RowKit
set_option linter.unusedVariables false
set_option linter.unusedSimpArgs false
attribute [local go_sem ↓] Go.wp_at_zero Go.wp_at_succ

/-- The cells of a state. -/
def stCells (m : MZ) (f u t vc vp : Value) (gu : Nat) : Array Value := #[.int .i64 m.w, .int .i64 m.h, .int .i64 m.l, f, u, t, vc, vp, .map (some gu)]
/-- The memory of a state at g: the maze, the choices, the paths, the set of used nodes. -/
structure StAt (w : World) (ok : Nat → Prop) (g : Nat) (m : MZ) (ch : List Int) (ps : List (List Int)) (us : List Int) (f u t vc vp : Value) (gu : Nat) : Prop where
 blk : Blk w g 91 (stCells m f u t vc vp gu)
 okg : ok g
 maze : MazeV w ok (.agg #[.int .i64 m.w, .int .i64 m.h, .int .i64 m.l, f, u, t]) m
 ch : Ints w ok vc ch
 ps : Intss w ok vp ps
 oku : ok gu
 us : SetIs w gu us
/-- The value v is a pointer to such a state. -/
def StateV (w : World) (ok : Nat → Prop) (v : Value) (m : MZ) (ch : List Int) (ps : List (List Int)) (us : List Int) : Prop :=
 ∃ g f u t vc vp gu, v = .pointer (some ⟨g, 0, none⟩) ∧ StAt w ok g m ch ps us f u t vc vp gu
section
variable {w w' : World} {ok ok' : Nat → Prop} {v f u t vc vp : Value} {m : MZ} {ch us : List Int} {ps : List (List Int)} {g gu : Nat}
theorem StAt.keep (h : StAt w ok g m ch ps us f u t vc vp gu) (hk : Same ok w w') : StAt w' ok g m ch ps us f u t vc vp gu :=
 ⟨(hk g h.okg (lt_of_some h.blk)).trans h.blk, h.okg, h.maze.keep hk, h.ch.keep hk, h.ps.keep hk, h.oku, h.us.keep hk h.oku⟩
theorem StAt.weaken (h : StAt w ok g m ch ps us f u t vc vp gu) (hk : ∀ b, ok b → ok' b) : StAt w ok' g m ch ps us f u t vc vp gu :=
 ⟨h.blk, hk _ h.okg, h.maze.weaken hk, h.ch.weaken hk, h.ps.weaken hk, hk _ h.oku, h.us⟩
theorem StateV.keep (h : StateV w ok v m ch ps us) (hk : Same ok w w') : StateV w' ok v m ch ps us := by
 obtain ⟨g, f, u, t, vc, vp, gu, e, h⟩ := h
 exact ⟨g, f, u, t, vc, vp, gu, e, h.keep hk⟩
theorem StateV.weaken (h : StateV w ok v m ch ps us) (hk : ∀ b, ok b → ok' b) : StateV w ok' v m ch ps us := by
 obtain ⟨g, f, u, t, vc, vp, gu, e, h⟩ := h
 exact ⟨g, f, u, t, vc, vp, gu, e, h.weaken hk⟩
theorem StateV.below (h : StateV w ok v m ch ps us) (hb : Below w.heap.size w w') : StateV w' ok v m ch ps us := h.keep (Same.of_below hb)
theorem StAt.ext (h : StAt w ok g m ch ps us f u t vc vp gu) (hb : Ext w w') : StAt w' ok g m ch ps us f u t vc vp gu := h.keep (Same.of_below hb)
/-- The cells of a state, in every world that has them. -/
theorem StAt.rules (h : StAt w ok g m ch ps us f u t vc vp gu) :
  (∀ W, Ext w W → W.cell? ⟨g, 0, none⟩ = some (.int .i64 m.w)) ∧ (∀ W, Ext w W → W.cell? ⟨g, 1, none⟩ = some (.int .i64 m.h)) ∧ (∀ W, Ext w W → W.cell? ⟨g, 2, none⟩ = some (.int .i64 m.l)) ∧
  (∀ W, Ext w W → W.cell? ⟨g, 3, none⟩ = some f) ∧ (∀ W, Ext w W → W.cell? ⟨g, 4, none⟩ = some u) ∧ (∀ W, Ext w W → W.cell? ⟨g, 5, none⟩ = some t) ∧
  (∀ W, Ext w W → W.cell? ⟨g, 6, none⟩ = some vc) ∧ (∀ W, Ext w W → W.cell? ⟨g, 7, none⟩ = some vp) ∧ (∀ W, Ext w W → W.cell? ⟨g, 8, none⟩ = some (.map (some gu))) := by
 have hb := h.blk
 unfold Blk stCells at hb
 have hc : ∀ k x, (#[Value.int .i64 m.w, .int .i64 m.h, .int .i64 m.l, f, u, t, vc, vp, .map (some gu)] : Array Value)[k]? = some x → w.cell? ⟨g, k, none⟩ = some x := by
  intro k x hk
  unfold World.cell?
  simp only [hb]
  exact hk
 exact ⟨Ext.rule (hc 0 _ rfl), Ext.rule (hc 1 _ rfl), Ext.rule (hc 2 _ rfl), Ext.rule (hc 3 _ rfl), Ext.rule (hc 4 _ rfl), Ext.rule (hc 5 _ rfl), Ext.rule (hc 6 _ rfl), Ext.rule (hc 7 _ rfl), Ext.rule (hc 8 _ rfl)⟩
end

/-- A state's paths, in bounds. -/
structure SOk (m : MZ) (ch : List Int) (ps : List (List Int)) : Prop where
 good : Good m
 lens : Lens m
 pl : ps.length ≤ m.tasks.length
 pn : 0 < m.tasks.length → 0 < ps.length
 pp : ∀ p ∈ ps, p.length ≤ 1000
 pr : ∀ p ∈ ps, ∀ x ∈ p, 0 ≤ x ∧ x < m.n
 cl : ch.length ≤ 1000

/-- Is the last path finished? -/
def finB (m : MZ) (ps : List (List Int)) : Bool :=
 match (ps.getD (ps.length - 1) []).getLast? with
 | none => false
 | some x => decide (x ∈ (m.tasks.getD (ps.length - 1) ([], [])).2)
/-- Are all paths finished? -/
def cmpB (m : MZ) (ps : List (List Int)) : Bool := decide (m.tasks.length = 0) || (decide (ps.length = m.tasks.length) && finB m ps)

theorem held1_drew {w : World} : Ext w w.drew := (Ext.refl w).drew
theorem held1 {w a b : World} (h : Ext w a) (hb : Below a.heap.size a b) : Ext w b := h.trans hb

set_option maxRecDepth 100000 in
theorem task_calls {ok : Nat → Prop} {m : MZ} {ch us : List Int} {ps : List (List Int)} {g gu : Nat} {f u t vc vp : Value} (w : World) (h : StAt w ok g m ch ps us f u t vc vp gu) (hl : ps.length ≤ 20000000000000) :
  Calls Try.prog 87 #[.pointer (some ⟨g, 0, none⟩)] w fun e w' => e = .returned (.int .i64 ((ps.length : Int) - 1)) ∧ w = w' := by
 obtain ⟨r0, r1, r2, r3, r4, r5, r6, r7, r8⟩ := h.rules
 obtain ⟨vs, ⟨Ap, cp, rfl, hcp, _⟩, _⟩ := h.ps
 clear h
 have hx := Ext.refl w
 go_enter Try.func87, Try.ntmps87
 go_wp2
 go_ret
 exact ⟨rfl, rfl⟩

set_option maxHeartbeats 4000000 in
set_option maxRecDepth 100000 in
theorem finished_calls {ok : Nat → Prop} {m : MZ} {ch us : List Int} {ps : List (List Int)} {g gu : Nat} {f u t vc vp : Value} (w : World) (h : StAt w ok g m ch ps us f u t vc vp gu) (so : SOk m ch ps) (hp : 0 < ps.length) :
  Calls Try.prog 85 #[.pointer (some ⟨g, 0, none⟩)] w fun e w' => e = .returned (.bool (finB m ps)) ∧ Drew w w' := by
 obtain ⟨r0, r1, r2, r3, r4, r5, r6, r7, r8⟩ := h.rules
 have hps := h.ps
 have hmz := h.maze
 have HS := Lib.hid h; clear h
 obtain ⟨vs, ⟨Ap, cp, rfl, hcp, hrp⟩, hep⟩ := hps
 obtain ⟨fr', up', ts', he, _, _, hts⟩ := hmz
 injection he with he
 injection he with he
 simp only [List.cons.injEq, and_true, true_and] at he
 obtain ⟨rfl, rfl, rfl⟩ := he
 have htt := hts
 obtain ⟨vst, ⟨At, ct, rfl, hct, _⟩, _⟩ := htt
 have hk : ps.length - 1 < ps.length := by omega
 obtain ⟨b, off, up, rfl, _, hcp0, hup⟩ := eachAt hrp hep hk hk
 have hkt : ps.length - 1 < m.tasks.length := by have := so.pl; omega
 obtain ⟨bt, offt, sn, u1, u2, rfl, _, hc0, hc1, hc2, hi1, hi2⟩ := tasksAt hts hkt
 have hto := so.lens
 have hpl := so.pl
 have htk := so.good.tk
 have hlp := so.pp _ (List.getElem_mem hk)
 have hlt2 := (hto.tl _ (List.getElem_mem hkt)).2
 clear hto hrp hep hts
 have hfin : finB m ps = match (ps[ps.length - 1]).getLast? with | none => false | some x => decide (x ∈ (m.tasks[ps.length - 1]).2) := by
  unfold finB
  simp [hk, hkt]
 obtain ⟨p, hpp⟩ : ∃ p, p = ps[ps.length - 1] := ⟨_, rfl⟩
 obtain ⟨tk, htkk⟩ : ∃ tk, tk = m.tasks[ps.length - 1] := ⟨_, rfl⟩
 rw [← hpp] at hup hlp hfin
 rw [← htkk] at hi1 hi2 hlt2 hfin
 clear hpp htkk hi1
 have HI2 := Lib.hid hi2; clear hi2
 have HF := Lib.hid hfin; clear hfin
 obtain ⟨Aq, cq, rfl, hcq, hrq⟩ := hup
 obtain ⟨k, hkk⟩ : ∃ k, ps.length - 1 = k := ⟨_, rfl⟩
 rw [hkk] at hcp0 hc1 hc2 hkt
 have hki : (ps.length : Int) - 1 = (k : Int) := by omega
 have HKI := Lib.hid hki; clear hki
 have hk1 : (k : Int) < (ps.length : Int) := by omega
 have hk0 : (0 : Int) ≤ (k : Int) := by omega
 have hkt1 : (k : Int) < (m.tasks.length : Int) := by omega
 have rp := Ext.rule hcp0
 have rt := Ext.rule hc2
 clear hcp0 hc0 hc1 hc2 hkk hk hkt
 have hx := Ext.refl w
 rcases List.eq_nil_or_concat p with rfl | ⟨q, x, rfl⟩
 ·have hz : ([] : List Int).length = 0 := rfl
  rw [hz] at hcq
  go_enter Try.func85, Try.ntmps85
  go_wp2_with fail
  go_quiet ((go_at_call 87; refine (task_calls _ (HS.out.ext ((Ext.refl w).drewN _)) (by omega)).mono ?_; rintro e w9 ⟨he9, rfl⟩; rw [HKI.out] at he9; exact ⟨he9, ⟨_, rfl⟩⟩))
  go_wp2_with fail
  go_quiet (fail)
  go_wp2
  go_ret
  exact ⟨ret_bool (by rw [HF.out]; rfl), (Drew.refl w).more _ |>.more _⟩
 ·rw [List.concat_eq_append] at hrq hlp hcq HF
  have hql : (q ++ [x]).length = q.length + 1 := by simp
  rw [hql] at hcq hlp
  have hcx : ∃ bq offq, Aq = some ⟨bq, offq, none⟩ ∧ w.cell? ⟨bq, offq + q.length, none⟩ = some (.int .i64 x) := by
   obtain ⟨bq, offq, e, _, hc⟩ := intsAt hrq (k := q.length) (by omega) (by omega)
   exact ⟨bq, offq, e, by rw [hc]; simp⟩
  obtain ⟨bq, offq, rfl, hcx⟩ := hcx
  have rx := Ext.rule hcx
  clear hcx hrq
  have hlast : (q ++ [x]).getLast? = some x := by simp
  rw [hlast] at HF
  have hlen : (q.concat x).length = q.length + 1 := by simp
  rw [hlen] at rp
  clear hlast hql hlen
  generalize q.length = n at *
  obtain ⟨N, hN⟩ : ∃ N, N = n + 1 := ⟨_, rfl⟩
  rw [← hN] at rp hcq hlp
  have hq0 : (0 : Int) ≤ (n : Int) := by omega
  have hq1 : (n : Int) < (N : Int) := by omega
  have hq2 : (N : Int) - 1 = (n : Int) := by omega
  have hq3 : (0 : Int) < (N : Int) := by omega
  have hq4 : 0 < N := by omega
  have hqw : IntKind.i64.wrap ((N : Int) - 1) = (n : Int) := by rw [IntKind.wrap_i64]; omega
  clear hN hq2
  go_enter Try.func85, Try.ntmps85
  go_wp2_with fail
  go_quiet ((go_at_call 87; refine (task_calls _ (HS.out.ext ((Ext.refl w).drewN _)) (by omega)).mono ?_; rintro e w9 ⟨he9, rfl⟩; rw [HKI.out] at he9; exact ⟨he9, ⟨_, rfl⟩⟩))
  generalize hw1 : w.drewN nq = w1
  have hd1 : Drew w w1 := ⟨nq, hw1.symm⟩
  have hx1 : Ext w w1 := hd1.below _
  clear hw1
  go_wp2_with fail
  go_quiet (first | ((go_at_call 87; refine (task_calls _ (HS.out.ext (hx1.drewN _)) (by omega)).mono ?_; rintro e w9 ⟨he9, rfl⟩; rw [HKI.out] at he9; exact ⟨he9, ⟨_, rfl⟩⟩)) | ((go_at_call 67; refine (contains_calls x _ (HI2.out.below (hx1.drewN _)) (by omega)).mono ?_; rintro e w8 ⟨he8, rfl⟩; exact ⟨he8, ⟨_, rfl⟩⟩)))
  go_wp2
  go_ret
  exact ⟨ret_bool (by rw [HF.out]), hd1.more _⟩

set_option maxHeartbeats 4000000 in
set_option maxRecDepth 100000 in
theorem complete_calls {ok : Nat → Prop} {m : MZ} {ch us : List Int} {ps : List (List Int)} {g gu : Nat} {f u t vc vp : Value} (w : World) (h : StAt w ok g m ch ps us f u t vc vp gu) (so : SOk m ch ps) :
  Calls Try.prog 63 #[.pointer (some ⟨g, 0, none⟩)] w fun e w' => e = .returned (.bool (cmpB m ps)) ∧ Drew w w' := by
 obtain ⟨r0, r1, r2, r3, r4, r5, r6, r7, r8⟩ := h.rules
 have hps := h.ps
 have hmz := h.maze
 have HS := Lib.hid h; clear h
 obtain ⟨vs, ⟨Ap, cp, rfl, hcp, hrp⟩, hep⟩ := hps
 obtain ⟨fr', up', ts', he, _, _, hts⟩ := hmz
 injection he with he
 injection he with he
 simp only [List.cons.injEq, and_true, true_and] at he
 obtain ⟨rfl, rfl, rfl⟩ := he
 obtain ⟨vst, ⟨At, ct, rfl, hct, _⟩, _⟩ := hts
 have hpl := so.pl
 have hpn := so.pn
 have htk := so.good.tk
 have SO := Lib.hid so; clear so
 clear hrp hep
 have hx := Ext.refl w
 obtain ⟨cb, hcb⟩ : ∃ cb, cb = cmpB m ps := ⟨_, rfl⟩
 have HCB := Lib.hid hcb
 rw [← hcb]
 clear hcb
 unfold cmpB at HCB
 obtain ⟨T, hT⟩ : ∃ T, T = m.tasks.length := ⟨_, rfl⟩
 obtain ⟨Pn, hP⟩ : ∃ Pn, Pn = ps.length := ⟨_, rfl⟩
 rw [← hT] at r5 hct HCB hpl hpn htk
 rw [← hP] at r7 hcp HCB hpl hpn
 have HT := Lib.hid hT; clear hT
 have HP := Lib.hid hP; clear hP
 by_cases h0 : T = 0
 ·have HC : Hid (cb = true) := by have := HCB.out; rw [decide_eq_true h0] at this; simpa [Hid] using this
  have hd1 : decide ((T : Int) = 0) = true := decide_eq_true (by omega)
  have hd2 : ((T : Int) == 0) = true := by rw [beq_iff_eq]; omega
  clear h0 hpn
  go_enter Try.func63, Try.ntmps63
  go_wp2_with fail
  go_quiet (fail)
  go_wp2
  go_ret
  exact ⟨ret_bool HC.out.symm, (Drew.refl w).more _⟩
 ·have hd1 : decide ((T : Int) = 0) = false := decide_eq_false (by omega)
  have hd2 : ((T : Int) == 0) = false := by rw [beq_eq_false_iff_ne]; omega
  by_cases h1 : Pn = T
  ·have HC : Hid (cb = finB m ps) := by have := HCB.out; rw [decide_eq_false h0, decide_eq_true h1] at this; simpa [Hid] using this
   have h1' : Hid (0 < ps.length) := (by have := HP.out; omega : 0 < ps.length)
   subst h1
   have he2 : ((Pn : Int) == (Pn : Int)) = true := by rw [beq_iff_eq]
   clear h0
   go_enter Try.func63, Try.ntmps63
   go_wp2_with fail
   go_quiet ((go_at_call 85; refine (finished_calls _ (HS.out.ext ((Ext.refl w).drewN _)) SO.out h1'.out).mono ?_; rintro e w9 ⟨he9, nd, rfl⟩; exact ⟨he9, ⟨_, World.drewN_drewN _ _ _⟩⟩))
   go_wp2
   go_ret
   exact ⟨ret_bool HC.out.symm, (Drew.refl w).more _⟩
  ·have HC : Hid (cb = false) := by have := HCB.out; rw [decide_eq_false h0, decide_eq_false h1] at this; simpa [Hid] using this
   have he1 : decide ((Pn : Int) = (T : Int)) = false := decide_eq_false (by omega)
   have he2 : ((Pn : Int) == (T : Int)) = false := by rw [beq_eq_false_iff_ne]; omega
   clear h1 h0
   go_enter Try.func63, Try.ntmps63
   go_wp2_with fail
   go_quiet (fail)
   go_wp2
   go_ret
   exact ⟨ret_bool HC.out.symm, (Drew.refl w).more _⟩
end Go.Proofs.Ytgpjfpcjiebjiaa

namespace Go.Proofs.Ytgpjfpcjiebjiaa
open Go.RowKit
set_option linter.unusedVariables false
set_option linter.unusedSimpArgs false
attribute [local go_sem ↓] Go.wp_at_zero Go.wp_at_succ

theorem Try.infoInts : (Try.prog.info? 24).map (fun i => (i.zero, i.size, i.bytes)) = some (some (.slice none 0 0), 1, 24) := by kernel_rfl

/-- A slice of slices of the call's own. -/
def OwnL (w : World) (B : Nat) (v : Value) (vs : List Value) : Prop := w.ownsRow B 24 1 v vs.length vs

theorem ints_oneCell {w : World} {ok : Nat → Prop} {v : Value} {l : List Int} (h : Ints w ok v l) : v.oneCell' = true := by
 obtain ⟨A, c, rfl, _⟩ := h
 rfl

theorem wpList_append_intss {ok : Nat → Prop} {ops : Array Oper} {rest : List Oper} {o : Oper} {a : Act} {Q : Exit → Act → World → Prop} (hgd : o.guard = none) (W : World) (s x : Operand)
  (ho : o.op = .call { callee := .builtin .append, args := #[s, x], argTypes := #[22, 22] }) (base : Nat) (l l2 : List Value) (v u : Value) (hs : a.eval s = v) (hx : a.eval x = u)
  (hown : OwnL W base v l) (hu : Row W ok 1 u l2.length l2) (h1 : ∀ u ∈ l2, u.oneCell' = true) (hbase : base ≤ W.heap.size) (hl : l.length + l2.length ≤ 1000000000000)
  (h : ∀ v' w', OwnL w' base v' (l ++ l2) → Hid (W.grownBy w' v.ownBlock) → Hid (v'.ownBlock = v.ownBlock ∨ v'.ownBlock = some W.heap.size) → wpList Try.prog ops Q rest (a.put o.dst v') w') : wpList Try.prog ops Q (o :: rest) a W := by
 refine wpList_plain hgd fun K hK => ?_
 obtain ⟨i0, hi, hz0, hz1, hz2⟩ := info_parts Try.infoInts
 obtain ⟨v', w', hr, h2, h3, h5⟩ := run_append_row (ok := ok) W base 22 o.type 24 i0 (.slice none 0 0) 24 Try.underlying22 hi hz0 hz1 hz2 rfl v _ _ hown u _ _ hu h1 (by unfold maxLen; omega) (by omega) hbase
 unfold Oper.wp execOp
 simp only [ho, resolve, invoke, builtin, Sem.run_bind, Sem.run_pure, Result.andThen_ok, List.map_toArray, List.map_cons, List.map_nil, hs, hx, hr]
 refine hK _ _ (h v' w' ?_ h3 h5)
 unfold OwnL
 rw [List.length_append]
 exact h2

theorem slice_own {g n c k : Nat} (h : (Value.slice (some ⟨g, 0, none⟩) n c).ownBlock = some k) : g ≤ k := by
 have h : some g = some k := h
 injection h with h
 omega
theorem own_emptyL (W : World) (B : Nat) (hB : B ≤ W.heap.size) : OwnL (W.alloc (.cells #[] 24)) B (.slice (some ⟨W.heap.size, 0, none⟩) 0 0) [] :=
 ⟨rfl, .inr ⟨W.heap.size, 0, #[], rfl, hB, heap_alloc_new W _, Nat.le_refl _, by decide, rfl, rfl⟩⟩

theorem nilEq (t e : TypeId) (ht : Try.prog.underlying t = some (.slice e)) : ∀ (w : World) (a : Option Addr) (n c n' c' : Nat), (binOp .eql t (.slice a n c) (.slice none n' c')).run Try.prog w = .ok (.bool a.isNone) w := fun w a n c n' c' => Lib.run_eql_slice_nil w _ _ a n c n' c' ht

set_option maxRecDepth 100000 in
theorem cloneI_calls {ok : Nat → Prop} {v : Value} {l : List Int} (w : World) (h : Ints w ok v l) (hl : l.length ≤ 100000000000) :
  Calls Try.prog 64 #[v] w fun e w' => ∃ v', e = .returned v' ∧ Mk w w' v' l := by
 have H := Lib.hid h
 have hnil := nilEq 24 3 Try.underlying24
 obtain ⟨A, c, rfl, hc, hr⟩ := h
 rcases A with _ | a
 ·have hl0 : l = [] := by
   rcases Nat.eq_zero_or_pos l.length with h | h
   ·exact List.eq_nil_of_length_eq_zero h
   ·obtain ⟨b, off, e, _⟩ := hr.2 h
    cases e
  subst hl0
  clear hr
  go_enter Try.func64, Try.ntmps64
  go_wp2_with fail
  go_ret
  exact ⟨_, rfl, Mk.nil _⟩
 ·clear hr
  have hx := Ext.refl w
  go_enter Try.func64, Try.ntmps64
  go_wp2_with (at_builtin; refine wpList_append_ints (ok := ok) rfl _ _ _ rfl w.heap.size [] l _ _ rfl rfl (own_empty w w.heap.size (Nat.le_refl _)) (H.out.below ((Ext.refl w).alloc _)) ?d1 ?d2 ?_)
  case d1 => simp
  case d2 => simp; omega
  intro v' w1 ho hg _
  have HM : Hid (Mk w w1 v' l) := ⟨ho, below_app ((Ext.refl w).alloc _) hg (by simp) (fun k hk => slice_own hk)⟩
  clear ho hg
  go_wp2_with fail
  go_ret
  exact ⟨_, rfl, HM.out⟩

set_option maxRecDepth 100000 in
theorem cloneL_calls {ok : Nat → Prop} {v : Value} {vs : List Value} (w : World) (h : Row w ok 1 v vs.length vs) (h1 : ∀ u ∈ vs, u.oneCell' = true) (hl : vs.length ≤ 100000000000) :
  Calls Try.prog 74 #[v] w fun e w' => ∃ v', e = .returned v' ∧ Ext w w' ∧ OwnL w' w.heap.size v' vs := by
 have H := Lib.hid h
 have H1 := Lib.hid h1; clear h1
 have hnil := nilEq 22 24 Try.underlying22
 obtain ⟨A, c, rfl, hc, hr⟩ := h
 rcases A with _ | a
 ·have hl0 : vs = [] := by
   rcases Nat.eq_zero_or_pos vs.length with h | h
   ·exact List.eq_nil_of_length_eq_zero h
   ·obtain ⟨b, off, e, _⟩ := hr.2 h
    cases e
  subst hl0
  clear hr
  go_enter Try.func74, Try.ntmps74
  go_wp2_with fail
  go_ret
  exact ⟨_, rfl, Ext.refl _, World.ownsRow_nil _ _ _ _⟩
 ·clear hr
  have hx := Ext.refl w
  go_enter Try.func74, Try.ntmps74
  go_wp2_with (at_builtin; refine wpList_append_intss (ok := ok) rfl _ _ _ rfl w.heap.size [] vs _ _ rfl rfl (own_emptyL w w.heap.size (Nat.le_refl _)) (H.out.below ((Ext.refl w).alloc _)) H1.out ?d1 ?d2 ?_)
  case d1 => simp
  case d2 => simp; omega
  intro v' w1 ho hg _
  have hE : Ext w w1 := below_app ((Ext.refl w).alloc _) hg (by simp) (fun k hk => slice_own hk)
  have HO := Lib.hid ho
  clear ho hg
  go_wp2_with fail
  go_ret
  exact ⟨_, rfl, hE, HO.out⟩

/-- The paths of the state without choices. -/
def ps0 (m : MZ) : List (List Int) := if m.tasks.length = 0 then [] else [[]]
theorem Blk.set {w : World} {g k : Nat} {t : TypeId} {cs : Array Value} (h : Blk w g t cs) (v : Value) : Blk (w.setCell ⟨g, k, none⟩ v) g t (cs.setIfInBounds k v) := by
 unfold Blk at h ⊢
 simp [World.setCell, Array.getElem?_modify, h]
theorem Blk.setOther {w : World} {g : Nat} {t : TypeId} {cs : Array Value} (h : Blk w g t cs) {a : Addr} (ha : g ≠ a.block) (v : Value) : Blk (w.setCell a v) g t cs :=
 (Below.heap_setCell w a v g ha).trans h
theorem Blk.ext {w w' : World} {g : Nat} {t : TypeId} {cs : Array Value} (h : Blk w g t cs) (hb : Ext w w') : Blk w' g t cs := (hb.block g (lt_of_some h)).trans h
theorem Blk.cell {w : World} {g k : Nat} {t : TypeId} {cs : Array Value} {v : Value} (h : Blk w g t cs) (hk : cs[k]? = some v) : w.cell? ⟨g, k, none⟩ = some v := by
 unfold Blk at h
 unfold World.cell?
 simp only [h]
 exact hk
theorem Blk.frozen {w : World} {g : Nat} {t : TypeId} {cs : Array Value} (h : Blk w g t cs) (k : Nat) : w.frozen? ⟨g, k, none⟩ = false := by
 unfold Blk at h
 unfold World.frozen?
 simp [h]
theorem Blk.new (w : World) (cs : Array Value) (t : TypeId) {g : Nat} (hg : g = w.heap.size) : Blk (w.alloc (.cells cs t)) g t cs := by
 subst hg
 exact heap_alloc_new _ _
theorem StAt.make {ok ok' : Nat → Prop} {w W : World} {g gu : Nat} {m : MZ} {ch us : List Int} {ps : List (List Int)} {f u t vc vp : Value} (hE : Ext w W) (hm : MazeV w ok (.agg #[.int .i64 m.w, .int .i64 m.h, .int .i64 m.l, f, u, t]) m)
  (hk : ∀ b, ok b → ok' b) (hb : Blk W g 91 (stCells m f u t vc vp gu)) (hg : ok' g) (hch : Ints W ok' vc ch) (hps : Intss W ok' vp ps) (hgu : ok' gu) (hus : SetIs W gu us) : StAt W ok' g m ch ps us f u t vc vp gu :=
 ⟨hb, hg, (hm.below hE).weaken hk, hch, hps, hgu, hus⟩
theorem Intss.nil (w : World) (ok : Nat → Prop) : Intss w ok (.slice none 0 0) [] := ⟨[], ⟨none, 0, rfl, Nat.le_refl _, RowA.nil _ _ _ _⟩, by simp⟩
theorem RowA.block {w : World} {ok : Nat → Prop} {g : Nat} {t : TypeId} {cs : Array Value} (h : Blk w g t cs) (hg : ok g) {n : Nat} (hn : cs.size = n) : RowA w ok 1 (some ⟨g, 0, none⟩) n cs.toList :=
 ⟨by simp [hn], fun _ => ⟨g, 0, rfl, hg, fun j u hu => by rw [Nat.zero_add]; exact h.cell (by simpa using hu)⟩⟩

set_option maxHeartbeats 1000000 in
set_option maxRecDepth 100000 in
theorem begin_calls {ok : Nat → Prop} {v : Value} {m : MZ} (w : World) (hm : MazeV w ok v m) (hl : m.tasks.length ≤ 100000) :
  Calls Try.prog 66 #[v] w fun e w' => ∃ v', e = .returned v' ∧ Ext w w' ∧ StateV w' (fun b => ok b ∨ w.heap.size ≤ b) v' m [] (ps0 m) [] := by
 have hmz := hm
 obtain ⟨vfr, vup, vts, rfl, _, _, hts⟩ := hm
 obtain ⟨vst, ⟨At, ct, rfl, hct, _⟩, _⟩ := hts
 have hmm := @run_makeMap Try.prog
 by_cases h0 : m.tasks.length = 0
 ·have hps0 : ps0 m = [] := by unfold ps0; rw [if_pos h0]
  rw [h0] at hmz
  have HMZ := Lib.hid hmz; clear hmz
  have HP := Lib.hid hps0; clear hps0
  go_enter Try.func66, Try.ntmps66
  go_wp2_with fail
  go_ret
  rw [HP.out]
  have hE1 : Ext w (w.alloc (.cells #[.int .i64 m.w, .int .i64 m.h, .int .i64 m.l, vfr, vup, .slice At 0 ct] 31)) := (Ext.refl w).alloc _
  refine ⟨_, rfl, (hE1.alloc _).alloc _, w.heap.size + 2, _, _, _, _, _, w.heap.size + 1, rfl, StAt.make ((hE1.alloc _).alloc _) HMZ.out (fun _ h => .inl h) (Blk.new _ _ _ (by simp)) (.inr (by omega)) (Ints.nil _ _) (Intss.nil _ _) (.inr (by omega)) ?_⟩
  have h1 : SetIs ((w.alloc (.cells #[.int .i64 m.w, .int .i64 m.h, .int .i64 m.l, vfr, vup, .slice At 0 ct] 31)).alloc (.map #[] 0)) (w.heap.size + 1) [] := by
   have := SetIs.new (w.alloc (.cells #[.int .i64 m.w, .int .i64 m.h, .int .i64 m.l, vfr, vup, .slice At 0 ct] 31))
   simpa using this
  exact h1.below ((Ext.refl _).alloc _)
 ·have hps0 : ps0 m = [[]] := by unfold ps0; rw [if_neg h0]
  have HMZ := Lib.hid hmz; clear hmz
  have HP := Lib.hid hps0; clear hps0
  go_enter Try.func66, Try.ntmps66
  go_wp2_with fail
  go_ret
  rw [HP.out]
  generalize hw1 : w.alloc (.cells #[.int .i64 m.w, .int .i64 m.h, .int .i64 m.l, vfr, vup, .slice At m.tasks.length ct] 31) = w1
  have hE1 : Ext w w1 := by rw [← hw1]; exact (Ext.refl w).alloc _
  have hz1 : w1.heap.size = w.heap.size + 1 := by rw [← hw1]; simp
  have h1 : SetIs (w1.alloc (.map #[] 0)) (w.heap.size + 1) [] := by rw [← hz1]; exact SetIs.new w1
  have hEa : Ext w (w1.alloc (.map #[] 0)) := hE1.alloc _
  generalize hw2 : w1.alloc (.map #[] 0) = w2 at *
  have hz2 : w2.heap.size = w.heap.size + 2 := by rw [← hw2]; simp [hz1]
  generalize hw3 : w2.alloc (.cells #[.int .i64 m.w, .int .i64 m.h, .int .i64 m.l, vfr, vup, .slice At m.tasks.length ct, .slice none 0 0, .slice (some ⟨w.heap.size + 1 + 1 + 1, 0, none⟩) 1 1, .map (some (w.heap.size + 1))] 91) = w3
  have hb3 : Blk w3 (w.heap.size + 2) 91 (stCells m vfr vup (.slice At m.tasks.length ct) (.slice none 0 0) (.slice (some ⟨w.heap.size + 3, 0, none⟩) 1 1) (w.heap.size + 1)) := by rw [← hw3]; exact Blk.new _ _ _ (by omega)
  have hz3 : w3.heap.size = w.heap.size + 3 := by rw [← hw3]; simp [hz2]
  have hE3 : Ext w2 w3 := by rw [← hw3]; exact (Ext.refl _).alloc _
  have hE4 := hE3.alloc (.cells #[.slice none 0 0] 24)
  have hE5 := hEa.trans hE4
  have hb4 := hb3.alloc (.cells #[.slice none 0 0] 24)
  have hb5 : Blk (w3.alloc (.cells #[.slice none 0 0] 24)) (w.heap.size + 3) 24 #[.slice none 0 0] := Blk.new _ _ _ (by omega)
  refine ⟨_, rfl, hE5, w.heap.size + 2, _, _, _, _, _, w.heap.size + 1, rfl, StAt.make hE5 HMZ.out (fun _ h => .inl h) hb4 (.inr (by omega)) (Ints.nil _ _) ?_ (.inr (by omega)) (h1.below hE4)⟩
  ·exact ⟨[.slice none 0 0], ⟨some ⟨w.heap.size + 3, 0, none⟩, 1, rfl, Nat.le_refl _, RowA.block hb5 (.inr (by omega)) rfl⟩, fun i x hx => by
    match i, hx with
    | 0, hx =>
     have : x = [] := by simpa using hx.symm
     subst this
     exact ⟨_, rfl, Ints.nil _ _⟩⟩
end Go.Proofs.Ytgpjfpcjiebjiaa

namespace Go.Proofs.Ytgpjfpcjiebjiaa
open Go.RowKit Go.Shelf
set_option linter.unusedVariables false
set_option linter.unusedSimpArgs false
attribute [local go_sem] Oper.semAt_some

set_option maxRecDepth 100000 in
set_option maxHeartbeats 2000000 in
/-- The iterator of a list: whatever the loop's body does, as long as it keeps what lay below n₀. -/
theorem values1_in (F : Fence) (n : Nat) (h7 : F.fn 98) (hro : F.round = none) (hn : 1 ≤ n) (l Bs n₀ : Nat) (A : Option Addr) (cap : Nat) (zs : List Int) (hlen : zs.length ≤ 1000000000000) (J Jx : List Int → World → Prop)
  (hY : ∀ pre x W, J pre W → pre.length < zs.length → YieldAt F (n - 1) Try.prog l #[.int .i64 x] W fun e W' =>
   (e = .returned (.bool true) ∧ J (pre ++ [x]) W' ∧ Below n₀ W W') ∨ (e = .returned (.bool false) ∧ Jx (pre ++ [x]) W'))
  (W : World) (hBs : W.cell? ⟨Bs, 0, none⟩ = some (.slice A zs.length cap)) (hc : ∀ (j : Nat) (hj : j < zs.length), ∃ b off, A = some ⟨b, off, none⟩ ∧ b < n₀ ∧ W.cell? ⟨b, off + j, none⟩ = some (.int .i64 (zs[j]))) (h0 : J [] W) :
  CallsIn F n Try.prog 98 #[.func (.yield l) #[] #[], .pointer (some ⟨Bs, 0, none⟩)] W fun e W' => (∃ v, e = .returned v) ∧
   ((∃ ys, ys = zs ∧ J ys W') ∨ (∃ pre, pre <+: zs ∧ Jx pre W')) := by
 have HC := Lib.hid hc; clear hc
 refine callsIn_of_wp Try.func98 rfl h7 ?_ hro
 simp only [Try.ntmps98, List.size_toArray, List.length_cons, List.length_nil, Nat.reduceAdd, Nat.reduceSub, Array.replicate_succ, Array.replicate_zero, List.push_toArray, List.append_toArray, List.nil_append, List.cons_append]
 gi_wp2
 gi_loopw [7] (fun i wr => ∃ k : Nat, k ≤ zs.length ∧ i = .int .i64 k ∧ Hid (J (zs.take k) wr) ∧ Hid (Below n₀ W wr))
  (fun i _ => zs.length - (intOf i).toNat)
 case atStart => exact ⟨0, Nat.zero_le _, rfl, h0, Below.refl _ _⟩
 case round =>
  obtain ⟨k, hk, rfl, hJs, hnx⟩ := hrel
  by_cases hlt : k < zs.length
  ·obtain ⟨b, off, rfl, hb, hcx0⟩ := HC.out k hlt
   have hcx : wr.cell? ⟨b, off + k, none⟩ = some (.int .i64 (zs[k])) := (hnx.out.cell (p := ⟨b, off + k, none⟩) hb).trans hcx0
   clear hcx0
   have hts := Lib.hid (List.take_succ_eq_append_getElem hlt)
   obtain ⟨x, hx⟩ : ∃ x, x = zs[k] := ⟨_, rfl⟩
   rw [← hx] at hcx hts
   clear hx
   obtain ⟨fn, tmps, assign, body, hy, hR⟩ := hY _ x wr hJs.out (by simp; omega)
   have HR := Lib.hid hR; clear hR
   gi_wp2
   refine HR.out.mono ?_
   rintro e W3 (⟨rfl, hJ3, hk3⟩ | ⟨rfl, hJx3⟩)
   ·have HJ3 := Lib.hid hJ3; clear hJ3
    have HK3 := Lib.hid hk3; clear hk3
    gi_wp2
    go_roundw
    case rel => exact ⟨k + 1, by omega, by go_num, by rw [hts.out]; exact HJ3, hnx.out.trans HK3.out⟩
    case measure => simp [intOf]; omega
   ·have HJ3 := Lib.hid hJx3; clear hJx3
    gi_wp2
    refine bodyPost_ret (results_none rfl _ _ _) rfl ?_
    exact ⟨⟨_, rfl⟩, .inr ⟨_, List.take_prefix (k + 1) zs, by rw [hts.out]; exact HJ3.out⟩⟩
  ·obtain rfl : k = zs.length := by omega
   gi_wp2
   go_end0
   exact ⟨⟨_, rfl⟩, .inl ⟨_, rfl, by have := hJs.out; rwa [List.take_length] at this⟩⟩

theorem values_stops {ok : Nat → Prop} {v : Value} {l : List Int} (Bs n₀ n : Nat) (hn : 1 ≤ n) (w : World) (hBs : Bs < w.heap.size) (hn₀ : n₀ ≤ w.heap.size) (hc : w.cell? ⟨Bs, 0, none⟩ = some v) (h : Ints w ok v l) (hok : ∀ b, ok b → b < w.heap.size → b < n₀) (hlen : l.length ≤ 1000000000000) :
  SeqStopsK Fence.wide n Try.prog 98 #[.pointer (some ⟨Bs, 0, none⟩)] (fun x : Int => #[Value.int .i64 x]) (Below n₀) (fun ys => ys = l) (fun pre => pre <+: l) l.length w := fun lb J Jx W hW _ _ hY h0 => by
 obtain ⟨A, cap, rfl, hcap, hr⟩ := h
 refine values1_in Fence.wide n trivial rfl hn lb Bs n₀ A cap l hlen J Jx hY W ((hW.cell (p := ⟨Bs, 0, none⟩) hBs).trans hc) (fun j hj => ?_) h0
 obtain ⟨b, off, e, hb, hcell⟩ := intsAt hr hj hj
 have hlt := lt_of_cell hcell
 exact ⟨b, off, e, hok b hb hlt, (hW.cell (p := ⟨b, off + j, none⟩) hlt).trans hcell⟩

theorem Ints.bound {w : World} {ok : Nat → Prop} {v : Value} {l : List Int} (h : Ints w ok v l) : Ints w (fun b => ok b ∧ b < w.heap.size) v l := by
 obtain ⟨A, c, e, hc, hl, hcell⟩ := h
 refine ⟨A, c, e, hc, hl, fun hn => ?_⟩
 obtain ⟨b, off, e', hb, hcc⟩ := hcell hn
 have h0 : 0 < (l.map (Value.int .i64)).length := by simpa using hn
 exact ⟨b, off, e', ⟨hb, lt_of_cell (hcc 0 _ (List.getElem?_eq_getElem h0))⟩, hcc⟩

set_option maxRecDepth 100000 in
set_option maxHeartbeats 2000000 in
theorem appendSeq_calls {ok : Nat → Prop} {v : Value} {l : List Int} (Bs : Nat) (w : World) (hc : w.cell? ⟨Bs, 0, none⟩ = some v) (h : Ints w ok v l) (hlen : l.length ≤ 1000000000000) :
  Calls Try.prog 102 #[.slice none 0 0, .func (.func 98) #[] #[.pointer (some ⟨Bs, 0, none⟩)]] w fun e w' => ∃ v', e = .returned v' ∧ Mk w w' v' l := by
 refine (callsIn_wide (n := 6)).1 ?_
 obtain ⟨i0, hi, hz0, hz1, hz2⟩ := info_parts Try.infoInt
 have HI := Lib.hid h; clear h
 have hBs := lt_of_cell hc
 refine callsIn_of_wp_marks Try.func102 rfl trivial ?_ rfl
 simp only [Try.ntmps102, List.size_toArray, List.length_cons, List.length_nil, Nat.reduceAdd, Nat.reduceSub, Array.replicate_succ, Array.replicate_zero, List.push_toArray, List.append_toArray, List.nil_append, List.cons_append]
 gi_wp2
 have bO := Boxed.new w 24 (.slice none 0 0)
 have hB0 : Below w.heap.size w (w.alloc (.cells #[.slice none 0 0] 24)) := (Below.refl _ w).alloc (Nat.le_refl _) _
 refine wpIn_rangeFunc_ownG (F := Fence.wide) rfl (by omega) (gf := 98) (lb := #[.pointer (some ⟨Bs, 0, none⟩)]) rfl trivial (enters_of Try.func98 (by kernel_rfl) rfl)
  (values_stops (ok := fun b => ok b ∧ b < w.heap.size) Bs w.heap.size _ (by omega) _ (by simp; omega) (by simp) ((Ext.refl w).alloc _ |>.cell hc) (HI.out.bound.below hB0) (fun b hb _ => hb.2) hlen) belowK_t (belowK_b (by simp)) (Below.refl _ _) (fun _ => rfl)
  (fun pre W => (∃ v, Boxed W w.heap.size 24 v ∧ W.ownsRow w.heap.size 3 1 v pre.length (pre.map (Value.int .i64)) ∧ True) ∧ Below w.heap.size w W)
  (fun _ _ _ => False)
  (OwnFrom.and (Own.from (holdsRow_own w.heap.size w.heap.size 24 3 1 (fun pre : List Int => pre.length) (fun pre : List Int => pre.map (Value.int .i64)) (fun pre v => True)) _) (ownFrom_below (Nat.le_refl _) (by simp)))
  (fun _ _ _ _ _ hs _ _ => hs)
  ⟨⟨_, bO, World.ownsRow_nil _ _ _ _, trivial⟩, hB0⟩
  (fun x => { tmps := #[.slice none 0 0, .func (.func 98) #[] #[.pointer (some ⟨Bs, 0, none⟩)], .pointer (some ⟨w.heap.size, 0, none⟩), undef, .slice none 0 0, .int .i64 x, .func (.func 98) #[] #[.pointer (some ⟨Bs, 0, none⟩)], .int .i64 x, undef, undef, undef, undef, undef], defers := [] }) ?assign ?body ?done ?stop
 case assign =>
  intro l x W K hK
  gi_wp2
  exact hK
 case body =>
  rintro lb pre x W ⟨⟨v, hv, hrow, _⟩, hB⟩ hlt
  have hc := hv.cell
  gi_wp2_with (gi_at_builtin; refine wpListIn_append_own _ rfl _ _ 24 rfl w.heap.size 3 i0 (.int .i64 0) 1 8 Try.underlying24 hi hz0 hz1 hz2 rfl (by decide) _ _ _ rfl (hrow.alloc _) ⟨W.heap.size, 0, none⟩ 1 1 [.int .i64 x] rfl rfl (cell_one_new _ _ _) (by simp [Value.oneCell']) (by unfold maxLen; omega) (by omega) (by have := hB.size; simp; omega) ?_; intro v' w1 hown' hgrow _; obtain ⟨g', cap', rfl⟩ := ownsRow_succ hown'; obtain ⟨hv1, hv2, hr2, hk2, hb2⟩ := hv.appended (by decide) hrow hB.size (Nat.le_refl _) hown' hgrow; have hc1 := hv1.cell; have hf1 := hv1.frozen)
  exact ⟨hk2.from _, hb2, ⟨_, hv2, by simpa using hr2, trivial⟩, hB.trans hb2⟩
 case done =>
  rintro D ys W hD rfl ⟨⟨v, hv, hrow, _⟩, hB⟩ hK
  have hc := hv.cell
  gi_wp2
  refine ⟨by simp, .inl ⟨_, _, rfl, run_takeDeferred hK, ?_⟩⟩
  exact ⟨_, results_tmp rfl _ _ _, v, rfl, ownsRow_putObj hrow _ hK rfl, hB.trans (belowK_b (w := w) (Nat.le_refl _) W D _ _ (by simp at hD; omega) hK rfl rfl)⟩
 case stop =>
  rintro D c pre W _ _ h _
  exact h.elim
end Go.Proofs.Ytgpjfpcjiebjiaa

namespace Go.Proofs.Ytgpjfpcjiebjiaa
open Go.RowKit
set_option linter.unusedVariables false
set_option linter.unusedSimpArgs false

section
variable {P : Program} {ops : Array Oper} {Q : Exit → Act → World → Prop} {md : Region.Mode} {S : World → Prop}

/-- Where operation j puts its value. -/
def dstOf (ops : Array Oper) (j : Nat) : Option Tmp := (ops[j]?).bind (·.dst)
def putAll (ops : Array Oper) (v : Nat → Value) : List Nat → Act → Act
 | [], a => a
 | j :: js, a => putAll ops v js (a.put (dstOf ops j) (v j))
def upd {α : Type} (f : Nat → α) (j : Nat) (x : α) : Nat → α := fun k => if k = j then x else f k
theorem upd_same {α : Type} (f : Nat → α) (j : Nat) (x : α) : upd f j x j = x := by simp [upd]
theorem upd_ne {α : Type} (f : Nat → α) {j k : Nat} (x : α) (h : k ≠ j) : upd f j x k = f k := by simp [upd, h]

theorem put_put (a : Act) (d : Option Tmp) (x y : Value) : (a.put d x).put d y = a.put d y := by
 cases d with
 | none => rfl
 | some d => simp [Act.put]
theorem put_comm (a : Act) {d d' : Option Tmp} (x y : Value) (h : d = d' → d = none) : (a.put d x).put d' y = (a.put d' y).put d x := by
 cases d with
 | none => rfl
 | some d =>
  cases d' with
  | none => rfl
  | some d' =>
   have hne : d ≠ d' := fun e => by subst e; exact absurd (h rfl) (by simp)
   simp only [Act.put]
   rw [Array.setIfInBounds_comm _ _ hne]
theorem putAll_put (v : Nat → Value) (d : Option Tmp) (x : Value) : ∀ (js : List Nat) (a : Act), (∀ k ∈ js, dstOf ops k = d → d = none) → (putAll ops v js a).put d x = putAll ops v js (a.put d x)
 | [], _, _ => rfl
 | k :: js, a, h => by
  simp only [putAll]
  rw [putAll_put v d x js _ (fun k' hk' => h k' (List.mem_cons_of_mem _ hk')), put_comm a _ _ (fun e => by rw [e]; exact h k (List.mem_cons_self ..) e)]
theorem putAll_upd (v : Nat → Value) (j : Nat) (x : Value) : ∀ (js : List Nat) (a : Act), j ∉ js → putAll ops (upd v j x) js a = putAll ops v js a
 | [], _, _ => rfl
 | k :: js, a, h => by
  simp only [putAll]
  rw [upd_ne v x (fun e => h (by simp [e])), putAll_upd v j x js _ (fun h' => h (List.mem_cons_of_mem _ h'))]
/-- Different operations put into different places. -/
def Dist (ops : Array Oper) (js : List Nat) : Prop := ∀ j ∈ js, ∀ k ∈ js, j ≠ k → dstOf ops j = dstOf ops k → dstOf ops k = none
theorem putAll_set (v : Nat → Value) (j : Nat) (x : Value) : ∀ (js : List Nat) (a : Act), js.Nodup → Dist ops js → j ∈ js → (putAll ops v js a).put (dstOf ops j) x = putAll ops (upd v j x) js a
 | [], _, _, _, h => by cases h
 | k :: js, a, hn, hd, h => by
  obtain ⟨hk, hn'⟩ := List.nodup_cons.1 hn
  simp only [putAll]
  by_cases e : j = k
  ·subst e
   rw [upd_same, putAll_upd v j x js _ hk, putAll_put v _ x js _ (fun k' hk' he => hd k' (List.mem_cons_of_mem _ hk') j (List.mem_cons_self ..) (fun e => hk (e ▸ hk')) he), put_put]
  ·have hj : j ∈ js := by
    rcases List.mem_cons.1 h with h | h
    ·exact absurd h e
    ·exact h
   rw [upd_ne v x (fun h => e h.symm)]
   exact putAll_set v j x js _ hn' (fun a ha b hb => hd a (List.mem_cons_of_mem _ ha) b (List.mem_cons_of_mem _ hb)) hj
theorem put_self (a : Act) (d : Option Tmp) : ∃ x, a.put d x = a := by
 cases d with
 | none => exact ⟨undef, rfl⟩
 | some d =>
  refine ⟨a.tmps.getD d undef, ?_⟩
  obtain ⟨t, ds⟩ := a
  simp only [Act.put, Act.mk.injEq, and_true]
  apply Array.ext_getElem?
  intro i
  rw [Array.getElem?_setIfInBounds]
  split
  ·rename_i h
   subst h
   split
   ·rename_i h; simp [Array.getD, h]
   ·rename_i h; rw [Array.getElem?_eq_none (by omega)]
  ·rfl
theorem putAll_self (a : Act) : ∀ (js : List Nat), js.Nodup → ∃ v, putAll ops v js a = a
 | [], _ => ⟨fun _ => undef, rfl⟩
 | j :: js, h => by
  obtain ⟨hj, hn⟩ := List.nodup_cons.1 h
  obtain ⟨v, hv⟩ := putAll_self a js hn
  obtain ⟨x, hx⟩ := put_self a (dstOf ops j)
  refine ⟨upd v j x, ?_⟩
  simp only [putAll]
  rw [upd_same, putAll_upd v j x js _ hj, hx, hv]

/-- What is asked of the region: no operation waits for a later one; the operations js are different ones, put into different places, and are there. -/
def regionB (md : Region.Mode) (ops : Array Oper) (js : List Nat) : Bool :=
 ((List.range ops.size).all fun j => match ops[j]? with | none => false | some o => o.after.toList.all fun e => !Region.binds md e || decide (e.on < j)) &&
 decide js.Nodup && (js.all fun j => decide (j < ops.size)) && (js.all fun j => js.all fun k => decide (j = k) || !(decide (dstOf ops j = dstOf ops k)) || decide (dstOf ops k = none))
/-- The operations that have not come up are among js. -/
def leftB (ops : Array Oper) (listed : Array Bool) (js : List Nat) : Bool := decide (listed.size = ops.size) && (List.range listed.size).all fun k => listed.getD k true || decide (k ∈ js)

/-- What an operation's step must show: behind it, its value in its place, the invariant holds. -/
def StepTo (ops : Array Oper) (S : World → Prop) (J : (Nat → Bool) → (Nat → Value) → World → Prop) (js : List Nat) (a0 : Act) (j : Nat) (e : Nat → Bool) (v : Nat → Value) (K : Act → World → Prop) : Prop :=
 ∀ a' x w', (putAll ops v js a0).put (dstOf ops j) x = a' → S w' → J (upd e j true) (upd v j x) w' → K a' w'

theorem wpAnyH_inv {js : List Nat} {a0 : Act} {J : (Nat → Bool) → (Nat → Value) → World → Prop} (hB : regionB md ops js = true)
  (step : ∀ j ∈ js, ∀ e v w, J e v w → S w → e j = false → (∀ o, ops[j]? = some o → ∀ d ∈ o.after, Region.binds md d = true → e d.on = true) → ∀ o, ops[j]? = some o → ∀ K : Act → World → Prop, Hid (StepTo ops S J js a0 j e v K) →
   if Region.wanted o (yielded ops (putAll ops v js a0).tmps) = true then Oper.wp P o (putAll ops v js a0) w K Q else K ((putAll ops v js a0).put o.dst undef) w)
  (fin : ∀ v w, J (fun _ => true) v w → S w → Q .normal (putAll ops v js a0) w) :
  ∀ (fuel : Nat) (listed : Array Bool) (v : Nat → Value) (w : World), listed.size = ops.size → (∀ k, listed.getD k true = false → k ∈ js) → (js.filter fun k => !listed.getD k true).length ≤ fuel → S w → J (fun k => listed.getD k true) v w →
   wpAnyH P md ops Q S fuel listed (putAll ops v js a0) w := by
 unfold regionB at hB
 simp only [Bool.and_eq_true, List.all_eq_true, decide_eq_true_eq, Bool.or_eq_true, Bool.not_eq_true', decide_eq_false_iff_not] at hB
 obtain ⟨⟨⟨h1, h2⟩, h3⟩, h4⟩ := hB
 have hD : Dist ops js := fun j hj k hk hne he => by
  rcases h4 j hj k hk with (h | h) | h
  ·exact absurd h hne
  ·exact absurd he h
  ·exact h
 have hall : ∀ listed : Array Bool, (∀ k, listed.getD k true = true) → (fun k => listed.getD k true) = fun _ => true := fun listed h => funext h
 -- nothing may come up: all have come up
 have hready : ∀ listed : Array Bool, listed.size = ops.size → (∀ k, listed.getD k true = false → k ∈ js) → Region.ready md ops listed = [] → ∀ k, listed.getD k true = true := by
  intro listed hsz hjs hr
  have hk : ∀ n k, k < n → listed.getD k true = true := by
   intro n
   induction n with
   | zero => intro k h; omega
   | succ n ih =>
    intro k hkn
    cases hv : listed.getD k true with
    | true => rfl
    | false =>
     exfalso
     have hlt := h3 k (hjs k hv)
     have hmem : k ∈ Region.ready md ops listed := mem_ready.2 ⟨hv, ops[k], Array.getElem?_eq_getElem hlt, fun e he hb => by
      have := h1 k (List.mem_range.2 hlt)
      rw [Array.getElem?_eq_getElem hlt] at this
      have h5 := (List.all_eq_true.1 this) e (by simpa using he)
      simp only [Bool.or_eq_true, Bool.not_eq_true', decide_eq_true_eq] at h5
      have h6 : e.on < k := by
       rcases h5 with h5 | h5
       ·rw [hb] at h5; cases h5
       ·exact h5
      have h7 := ih e.on (by omega)
      have h8 : e.on < listed.size := by omega
      simp only [Array.getD, h8, dif_pos] at h7 ⊢
      exact h7⟩
     rw [hr] at hmem
     cases hmem
  exact fun k => hk (k + 1) k (by omega)
 intro fuel
 induction fuel with
 | zero =>
  intro listed v w hsz hjs hc hS hJ
  have hf : ∀ k, listed.getD k true = true := fun k => by
   cases hv : listed.getD k true with
   | true => rfl
   | false =>
    exfalso
    have : k ∈ js.filter fun k => !listed.getD k true := List.mem_filter.2 ⟨hjs k hv, by rw [hv]; rfl⟩
    rw [List.eq_nil_of_length_eq_zero (Nat.le_zero.1 hc)] at this
    cases this
  refine ⟨?_, fin v w (by rw [← hall listed hf]; exact hJ) hS⟩
  apply List.eq_nil_iff_forall_not_mem.2
  intro j hj
  have := (mem_ready.1 hj).1
  rw [hf j] at this
  cases this
 | succ fuel ih =>
  intro listed v w hsz hjs hc hS hJ
  refine ⟨fun hr => fin v w (by rw [← hall listed (hready listed hsz hjs hr)]; exact hJ) hS, fun i hi => ?_⟩
  obtain ⟨hun, o, ho, hdeps⟩ := mem_ready.1 hi
  have hij := hjs i hun
  refine wpOp_step ho fun K' hK => ?_
  have hlt : i < listed.size := by have := h3 i hij; omega
  refine step i hij (fun k => listed.getD k true) v w hJ hS hun (fun o' ho' d hd hb => ?_) o ho K' (fun a' x w' ha hS' hJ' => ?_)
  ·rw [ho] at ho'
   injection ho' with ho'
   subst ho'
   have h9 := hdeps d hd hb
   by_cases h10 : d.on < listed.size
   ·simp only [Array.getD, h10, dif_pos] at h9 ⊢; exact h9
   ·simp only [Array.getD, h10, dif_neg, not_false_eq_true] at h9; cases h9
  ·refine hK _ _ ⟨hS', ?_⟩
   have hupd : upd (fun k => listed.getD k true) i true = fun k => (listed.setIfInBounds i true).getD k true := by
    funext k
    by_cases hk : k = i
    ·subst hk
     rw [upd_same]
     simp [Array.getD, hlt]
    ·rw [upd_ne _ _ hk]
     simp only [Array.getD, Array.size_setIfInBounds]
     split
     ·rename_i h
      show listed[k] = (listed.setIfInBounds i true)[k]'(by simpa using h)
      rw [Array.getElem_setIfInBounds, if_neg (Ne.symm hk)]
     ·rfl
   rw [hupd] at hJ'
   rw [← ha, putAll_set v i x js a0 h2 hD hij]
   refine ih (listed.setIfInBounds i true) (upd v i x) w' (by simpa using hsz) (fun k hk => ?_) ?_ hS' hJ'
   ·by_cases hki : k = i
    ·rw [hki]; exact hij
    ·have := congrFun hupd k
     rw [upd_ne _ _ hki] at this
     exact hjs k (this.trans hk)
   ·have hfl : (js.filter fun k => !(listed.setIfInBounds i true).getD k true) = (js.filter fun k => !listed.getD k true).erase i := by
     rw [List.Nodup.erase_eq_filter (h2.filter _), List.filter_filter]
     apply List.filter_congr
     intro k hk
     have := congrFun hupd k
     rw [← this]
     by_cases hki : k = i
     ·subst hki; simp [upd_same]
     ·rw [upd_ne _ _ hki]; simp [hki]
    rw [hfl, List.length_erase_of_mem (List.mem_filter.2 ⟨hij, by show (!listed.getD i true) = true; rw [hun]; rfl⟩)]
    omega

/-- The same at a state as it stands. -/
theorem wpAnyH_by_inv (js : List Nat) (J : (Nat → Bool) → (Nat → Value) → World → Prop) {fuel : Nat} {listed : Array Bool} {a0 : Act} {w : World} (hB : regionB md ops js = true) (hL : leftB ops listed js = true) (hf : js.length ≤ fuel) (hS : S w)
  (init : ∀ e v, (∀ j ∈ js, e j = false) → J e v w)
  (hun : (js.all fun j => !listed.getD j true) = true)
  (step : ∀ j ∈ js, ∀ e v w, J e v w → S w → e j = false → (∀ o, ops[j]? = some o → ∀ d ∈ o.after, Region.binds md d = true → e d.on = true) → ∀ o, ops[j]? = some o → ∀ K : Act → World → Prop, Hid (StepTo ops S J js a0 j e v K) →
   if Region.wanted o (yielded ops (putAll ops v js a0).tmps) = true then Oper.wp P o (putAll ops v js a0) w K Q else K ((putAll ops v js a0).put o.dst undef) w)
  (fin : ∀ v w, J (fun _ => true) v w → S w → Q .normal (putAll ops v js a0) w) : wpAnyH P md ops Q S fuel listed a0 w := by
 unfold leftB at hL
 simp only [Bool.and_eq_true, List.all_eq_true, decide_eq_true_eq, Bool.or_eq_true] at hL
 have hn : js.Nodup := by
  unfold regionB at hB
  simp only [Bool.and_eq_true, decide_eq_true_eq] at hB
  exact hB.1.1.2
 obtain ⟨v, hv⟩ := putAll_self (ops := ops) a0 js hn
 have h := wpAnyH_inv hB step fin fuel listed v w hL.1 (fun k hk => by
  by_cases hlt : k < listed.size
  ·rcases hL.2 k (List.mem_range.2 hlt) with h | h
   ·rw [hk] at h; cases h
   ·exact h
  ·simp [Array.getD, hlt] at hk) (Nat.le_trans (List.length_filter_le _ _) hf) hS (init _ _ (fun j hj => by
   have := List.all_eq_true.1 hun j hj
   simpa using this))
 rwa [hv] at h
end

/-! ### In a round -/
/-- No operation of the region defers. -/
def noDeferB (ops : Array Oper) : Bool := ops.toList.all fun o => match o.op with | .defer _ => false | _ => true
theorem operIn_of {P : Program} {o : Oper} {a : Act} {w : World} {K : Act → World → Prop} {Q : Exit → Act → World → Prop} (l n : Nat) (hd : ∀ c, o.op ≠ .defer c) (h : o.wp P a w K Q) : o.wpIn (Fence.wide.inRound l) n P a w K Q := by
 have hdep : (Fence.wide.inRound l).depth.isSome = true → 1 ≤ n := fun h => absurd h (by simp [Fence.wide])
 refine ⟨fun f _ => trivial, ?_⟩
 rw [Oper.semAt_eq _ _ _ hd]
 unfold Oper.wp at h
 generalize (execOp a.eval o).run P w = r at *
 cases r with
 | ok x w' =>
  cases x with
  | enter f args => exact ⟨hdep, (CallsIn.inRound l (callsIn_wide.2 h)).mono (fun e w'' he => by cases e <;> exact he)⟩
  | row row args => exact ⟨hdep, fun c cs _ => let ⟨v, w'', r, s⟩ := h c cs; ⟨v, w'', r, stepsIn_wide.2 s⟩⟩
  | _ => first | exact h | exact (h : False).elim
 | halt x w' => cases x <;> exact h
section
variable {P : Program} {ops : Array Oper} {Q : Exit → Act → World → Prop} {md : Region.Mode} {S : World → Prop}
theorem wpOpIn_step (l n : Nat) (hND : noDeferB ops = true) {i : Nat} {o : Oper} {K : Act → World → Prop} {a : Act} {w : World} (ho : ops[i]? = some o)
  (h : ∀ K' : Act → World → Prop, (∀ a w, K a w → K' a w) → if Region.wanted o (yielded ops a.tmps) = true then Oper.wp P o a w K' Q else K' (a.put o.dst undef) w) : wpOpIn (Fence.wide.inRound l) n P ops Q i K a w := by
 have h1 := h K (fun _ _ h => h)
 unfold wpOpIn
 rw [ho]
 have hd : ∀ c, o.op ≠ .defer c := by
  intro c e
  have := List.all_eq_true.1 hND o (by simpa using Array.mem_of_getElem? ho)
  rw [e] at this
  cases this
 by_cases hw : Region.wanted o (yielded ops a.tmps) = true
 ·rw [if_pos hw] at h1
  simp only [hw, if_true]
  exact operIn_of l n hd h1
 ·rw [if_neg hw] at h1
  simp only [hw]
  exact ⟨fun f _ => trivial, h1⟩
theorem wpAnyIn_inv (l n : Nat) (hND : noDeferB ops = true) {js : List Nat} {a0 : Act} {J : (Nat → Bool) → (Nat → Value) → World → Prop} (hB : regionB md ops js = true)
  (step : ∀ j ∈ js, ∀ e v w, J e v w →  e j = false → (∀ o, ops[j]? = some o → ∀ d ∈ o.after, Region.binds md d = true → e d.on = true) → ∀ o, ops[j]? = some o → ∀ K : Act → World → Prop, Hid (StepTo ops (fun _ => True) J js a0 j e v K) →
   if Region.wanted o (yielded ops (putAll ops v js a0).tmps) = true then Oper.wp P o (putAll ops v js a0) w K Q else K ((putAll ops v js a0).put o.dst undef) w)
  (fin : ∀ v w, J (fun _ => true) v w →  Q .normal (putAll ops v js a0) w) :
  ∀ (fuel : Nat) (listed : Array Bool) (v : Nat → Value) (w : World), listed.size = ops.size → (∀ k, listed.getD k true = false → k ∈ js) → (js.filter fun k => !listed.getD k true).length ≤ fuel →  J (fun k => listed.getD k true) v w →
   wpAnyIn (Fence.wide.inRound l) n P md ops Q fuel listed (putAll ops v js a0) w := by
 unfold regionB at hB
 simp only [Bool.and_eq_true, List.all_eq_true, decide_eq_true_eq, Bool.or_eq_true, Bool.not_eq_true', decide_eq_false_iff_not] at hB
 obtain ⟨⟨⟨h1, h2⟩, h3⟩, h4⟩ := hB
 have hD : Dist ops js := fun j hj k hk hne he => by
  rcases h4 j hj k hk with (h | h) | h
  ·exact absurd h hne
  ·exact absurd he h
  ·exact h
 have hall : ∀ listed : Array Bool, (∀ k, listed.getD k true = true) → (fun k => listed.getD k true) = fun _ => true := fun listed h => funext h
 -- nothing may come up: all have come up
 have hready : ∀ listed : Array Bool, listed.size = ops.size → (∀ k, listed.getD k true = false → k ∈ js) → Region.ready md ops listed = [] → ∀ k, listed.getD k true = true := by
  intro listed hsz hjs hr
  have hk : ∀ n k, k < n → listed.getD k true = true := by
   intro n
   induction n with
   | zero => intro k h; omega
   | succ n ih =>
    intro k hkn
    cases hv : listed.getD k true with
    | true => rfl
    | false =>
     exfalso
     have hlt := h3 k (hjs k hv)
     have hmem : k ∈ Region.ready md ops listed := mem_ready.2 ⟨hv, ops[k], Array.getElem?_eq_getElem hlt, fun e he hb => by
      have := h1 k (List.mem_range.2 hlt)
      rw [Array.getElem?_eq_getElem hlt] at this
      have h5 := (List.all_eq_true.1 this) e (by simpa using he)
      simp only [Bool.or_eq_true, Bool.not_eq_true', decide_eq_true_eq] at h5
      have h6 : e.on < k := by
       rcases h5 with h5 | h5
       ·rw [hb] at h5; cases h5
       ·exact h5
      have h7 := ih e.on (by omega)
      have h8 : e.on < listed.size := by omega
      simp only [Array.getD, h8, dif_pos] at h7 ⊢
      exact h7⟩
     rw [hr] at hmem
     cases hmem
  exact fun k => hk (k + 1) k (by omega)
 intro fuel
 induction fuel with
 | zero =>
  intro listed v w hsz hjs hc hJ
  have hf : ∀ k, listed.getD k true = true := fun k => by
   cases hv : listed.getD k true with
   | true => rfl
   | false =>
    exfalso
    have : k ∈ js.filter fun k => !listed.getD k true := List.mem_filter.2 ⟨hjs k hv, by rw [hv]; rfl⟩
    rw [List.eq_nil_of_length_eq_zero (Nat.le_zero.1 hc)] at this
    cases this
  refine ⟨?_, fin v w (by rw [← hall listed hf]; exact hJ)⟩
  apply List.eq_nil_iff_forall_not_mem.2
  intro j hj
  have := (mem_ready.1 hj).1
  rw [hf j] at this
  cases this
 | succ fuel ih =>
  intro listed v w hsz hjs hc hJ
  refine ⟨fun hr => fin v w (by rw [← hall listed (hready listed hsz hjs hr)]; exact hJ), fun i hi => ?_⟩
  obtain ⟨hun, o, ho, hdeps⟩ := mem_ready.1 hi
  have hij := hjs i hun
  refine wpOpIn_step l n hND ho fun K' hK => ?_
  have hlt : i < listed.size := by have := h3 i hij; omega
  refine step i hij (fun k => listed.getD k true) v w hJ hun (fun o' ho' d hd hb => ?_) o ho K' (fun a' x w' ha hS' hJ' => ?_)
  ·rw [ho] at ho'
   injection ho' with ho'
   subst ho'
   have h9 := hdeps d hd hb
   by_cases h10 : d.on < listed.size
   ·simp only [Array.getD, h10, dif_pos] at h9 ⊢; exact h9
   ·simp only [Array.getD, h10, dif_neg, not_false_eq_true] at h9; cases h9
  ·refine hK _ _ ?_
   have hupd : upd (fun k => listed.getD k true) i true = fun k => (listed.setIfInBounds i true).getD k true := by
    funext k
    by_cases hk : k = i
    ·subst hk
     rw [upd_same]
     simp [Array.getD, hlt]
    ·rw [upd_ne _ _ hk]
     simp only [Array.getD, Array.size_setIfInBounds]
     split
     ·rename_i h
      show listed[k] = (listed.setIfInBounds i true)[k]'(by simpa using h)
      rw [Array.getElem_setIfInBounds, if_neg (Ne.symm hk)]
     ·rfl
   rw [hupd] at hJ'
   rw [← ha, putAll_set v i x js a0 h2 hD hij]
   refine ih (listed.setIfInBounds i true) (upd v i x) w' (by simpa using hsz) (fun k hk => ?_) ?_ hJ'
   ·by_cases hki : k = i
    ·rw [hki]; exact hij
    ·have := congrFun hupd k
     rw [upd_ne _ _ hki] at this
     exact hjs k (this.trans hk)
   ·have hfl : (js.filter fun k => !(listed.setIfInBounds i true).getD k true) = (js.filter fun k => !listed.getD k true).erase i := by
     rw [List.Nodup.erase_eq_filter (h2.filter _), List.filter_filter]
     apply List.filter_congr
     intro k hk
     have := congrFun hupd k
     rw [← this]
     by_cases hki : k = i
     ·subst hki; simp [upd_same]
     ·rw [upd_ne _ _ hki]; simp [hki]
    rw [hfl, List.length_erase_of_mem (List.mem_filter.2 ⟨hij, by show (!listed.getD i true) = true; rw [hun]; rfl⟩)]
    omega

/-- The same at a state as it stands. -/
theorem wpAnyIn_by_inv (l n : Nat) (hND : noDeferB ops = true) (js : List Nat) (J : (Nat → Bool) → (Nat → Value) → World → Prop) {fuel : Nat} {listed : Array Bool} {a0 : Act} {w : World} (hB : regionB md ops js = true) (hL : leftB ops listed js = true) (hf : js.length ≤ fuel)
  (init : ∀ e v, (∀ j ∈ js, e j = false) → J e v w)
  (hun : (js.all fun j => !listed.getD j true) = true)
  (step : ∀ j ∈ js, ∀ e v w, J e v w → e j = false → (∀ o, ops[j]? = some o → ∀ d ∈ o.after, Region.binds md d = true → e d.on = true) → ∀ o, ops[j]? = some o → ∀ K : Act → World → Prop, Hid (StepTo ops (fun _ => True) J js a0 j e v K) →
   if Region.wanted o (yielded ops (putAll ops v js a0).tmps) = true then Oper.wp P o (putAll ops v js a0) w K Q else K ((putAll ops v js a0).put o.dst undef) w)
  (fin : ∀ v w, J (fun _ => true) v w → Q .normal (putAll ops v js a0) w) : wpAnyIn (Fence.wide.inRound l) n P md ops Q fuel listed a0 w := by
 unfold leftB at hL
 simp only [Bool.and_eq_true, List.all_eq_true, decide_eq_true_eq, Bool.or_eq_true] at hL
 have hn : js.Nodup := by
  unfold regionB at hB
  simp only [Bool.and_eq_true, decide_eq_true_eq] at hB
  exact hB.1.1.2
 obtain ⟨v, hv⟩ := putAll_self (ops := ops) a0 js hn
 have h := wpAnyIn_inv l n hND hB step fin fuel listed v w hL.1 (fun k hk => by
  by_cases hlt : k < listed.size
  ·rcases hL.2 k (List.mem_range.2 hlt) with h | h
   ·rw [hk] at h; cases h
   ·exact h
  ·simp [Array.getD, hlt] at hk) (Nat.le_trans (List.length_filter_le _ _) hf) (init _ _ (fun j hj => by
   have := List.all_eq_true.1 hun j hj
   simpa using this))
 rwa [hv] at h

end

/-! ### As the walk takes it: the frame written out, one operation after the other -/
section
variable {P : Program} {ops : Array Oper} {Q : Exit → Act → World → Prop} {md : Region.Mode} {S : World → Prop}
def StepToF (F : (Nat → Value) → Act) (d : Option Tmp) (S : World → Prop) (J : (Nat → Bool) → (Nat → Value) → World → Prop) (j : Nat) (e : Nat → Bool) (v : Nat → Value) (K : Act → World → Prop) : Prop :=
 ∀ a' x w', (F v).put d x = a' → S w' → J (upd e j true) (upd v j x) w' → K a' w'
def StepsOf (P : Program) (ops : Array Oper) (Q : Exit → Act → World → Prop) (md : Region.Mode) (F : (Nat → Value) → Act) (S : World → Prop) (J : (Nat → Bool) → (Nat → Value) → World → Prop) (js : List Nat) : Prop :=
 ∀ j ∈ js, ∀ e v w, J e v w → S w → e j = false → ∀ o, ops[j]? = some o → (∀ d ∈ o.after, Region.binds md d = true → e d.on = true) → ∀ K : Act → World → Prop, Hid (StepToF F o.dst S J j e v K) →
   if Region.wanted o (yielded ops (F v).tmps) = true then Oper.wp P o (F v) w K Q else K ((F v).put o.dst undef) w
theorem StepsOf.nil {F : (Nat → Value) → Act} {J : (Nat → Bool) → (Nat → Value) → World → Prop} : StepsOf P ops Q md F S J [] := fun _ h => by cases h
theorem StepsOf.cons {F : (Nat → Value) → Act} {J : (Nat → Bool) → (Nat → Value) → World → Prop} {j : Nat} {js : List Nat} {o : Oper} (ho : ops[j]? = some o)
  (h : ∀ e v w (K : Act → World → Prop), J e v w → S w → e j = false → (∀ d ∈ o.after, Region.binds md d = true → e d.on = true) → Hid (StepToF F o.dst S J j e v K) →
   if Region.wanted o (yielded ops (F v).tmps) = true then Oper.wp P o (F v) w K Q else K ((F v).put o.dst undef) w)
  (hs : StepsOf P ops Q md F S J js) : StepsOf P ops Q md F S J (j :: js) := by
 intro k hk
 rcases List.mem_cons.1 hk with rfl | hk
 ·intro e v w hJ hS he o' ho' hd K hK
  rw [ho] at ho'
  injection ho' with ho'
  subst ho'
  exact h e v w K hJ hS he hd hK
 ·exact hs k hk
theorem wpAnyH_by_invF (js : List Nat) (J : (Nat → Bool) → (Nat → Value) → World → Prop) {F : (Nat → Value) → Act} {fuel : Nat} {listed : Array Bool} {a0 : Act} {w : World} (hB : regionB md ops js = true) (hL : leftB ops listed js = true) (hf : js.length ≤ fuel) (hS : S w)
  (hF : ∀ v, putAll ops v js a0 = F v) (init : ∀ e v, (∀ j ∈ js, e j = false) → J e v w) (hun : (js.all fun j => !listed.getD j true) = true) (step : StepsOf P ops Q md F S J js)
  (fin : ∀ v w, J (fun _ => true) v w → S w → Q .normal (F v) w) : wpAnyH P md ops Q S fuel listed a0 w := by
 refine wpAnyH_by_inv js J hB hL hf hS init hun (fun j hj e v w hJ hS he hd o ho K hK => ?_) (fun v w hJ hS => by rw [hF v]; exact fin v w hJ hS)
 have hdst : dstOf ops j = o.dst := by unfold dstOf; rw [ho]; rfl
 have h := step j hj e v w hJ hS he o ho (hd o ho) K (fun a' x w' ha hS' hJ' => hK.out a' x w' (by rw [hF v, hdst]; exact ha) hS' hJ')
 rw [hF v]
 exact h
theorem wpAnyIn_by_invF (l n : Nat) (hND : noDeferB ops = true) (js : List Nat) (J : (Nat → Bool) → (Nat → Value) → World → Prop) {F : (Nat → Value) → Act} {fuel : Nat} {listed : Array Bool} {a0 : Act} {w : World} (hB : regionB md ops js = true) (hL : leftB ops listed js = true) (hf : js.length ≤ fuel)
  (hF : ∀ v, putAll ops v js a0 = F v) (init : ∀ e v, (∀ j ∈ js, e j = false) → J e v w) (hun : (js.all fun j => !listed.getD j true) = true) (step : StepsOf P ops Q md F (fun _ => True) J js)
  (fin : ∀ v w, J (fun _ => true) v w → Q .normal (F v) w) : wpAnyIn (Fence.wide.inRound l) n P md ops Q fuel listed a0 w := by
 refine wpAnyIn_by_inv l n hND js J hB hL hf init hun (fun j hj e v w hJ he hd o ho K hK => ?_) (fun v w hJ => by rw [hF v]; exact fin v w hJ)
 have hdst : dstOf ops j = o.dst := by unfold dstOf; rw [ho]; rfl
 have h := step j hj e v w hJ trivial he o ho (hd o ho) K (fun a' x w' ha hS' hJ' => hK.out a' x w' (by rw [hF v, hdst]; exact ha) hS' hJ')
 rw [hF v]
 exact h
end
end Go.Proofs.Ytgpjfpcjiebjiaa
