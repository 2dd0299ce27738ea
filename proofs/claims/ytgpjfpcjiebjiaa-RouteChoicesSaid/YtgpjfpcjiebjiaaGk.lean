/- Walks: the tasks that are left, as an iterator. Walks: whether no task is cut off. -/
import Derived.Test.YtgpjfpcjiebjiaaGh
import Derived.Test.YtgpjfpcjiebjiaaGj
namespace Go.Proofs.Ytgpjfpcjiebjiaa
open Go.RowKit Go.Shelf
set_option linter.unusedVariables false
set_option linter.unusedSimpArgs false
attribute [local go_sem] Oper.semAt_some
attribute [local go_sem ↓] Go.wp_at_zero Go.wp_at_succ

/-- Where the task t goes on. -/
def fromL (m : MZ) (ps : List (List Int)) (us : List Int) (t : Nat) : List Int :=
 match (if t + 1 = ps.length then (ps.getD t []).getLast? else none) with
 | some x => [x]
 | none => ((m.tasks.getD t ([], [])).1).filter fun n => !(!freeAt m t n || decide (n ∈ us))

theorem sameCell {B : Nat} {w W : World} (hS : Same (fun b => b < B) w W) {p : Addr} {v : Value} (hc : w.cell? p = some v) (hp : p.block < B) : W.cell? p = some v :=
 (World.cell?_of_block (w := w) (hS p.block hp (lt_of_cell hc))).trans hc

theorem cloneJ_calls {ok : Nat → Prop} {v : Value} {l : List Int} (w : World) (h : Ints w ok v l) (hl : l.length ≤ 1000000000000) :
  Calls Try.prog 64 #[v] w fun e w' => ∃ v', e = .returned v' ∧ Mk w w' v' l := by
 have H := Lib.hid h
 have hnil := nilEq 24 3 Try.underlying24
 obtain ⟨A, c, rfl, hc, hr⟩ := h
 rcases A with _ | a
 ·have hl0 : l = [] := by
   rcases Nat.eq_zero_or_pos l.length with h | h
   ·exact List.eq_nil_of_length_eq_zero h
   ·obtain ⟨b, off, e, _⟩ := hr.2 h
    cases e
  subst hl0
  clear hr
  go_enter Try.func64, Try.ntmps64
  go_wp2_with fail
  go_ret
  exact ⟨_, rfl, Mk.nil _⟩
 ·clear hr
  have hx := Ext.refl w
  go_enter Try.func64, Try.ntmps64
  go_wp2_with (at_builtin; refine wpList_append_ints (ok := ok) rfl _ _ _ rfl w.heap.size [] l _ _ rfl rfl (own_empty w w.heap.size (Nat.le_refl _)) (H.out.below ((Ext.refl w).alloc _)) ?d1 ?d2 ?_)
  case d1 => simp
  case d2 => simp; omega
  intro v' w1 ho hg _
  have HM : Hid (Mk w w1 v' l) := ⟨ho, below_app ((Ext.refl w).alloc _) hg (by simp) (fun k hk => slice_own hk)⟩
  clear ho hg
  go_wp2_with fail
  go_ret
  exact ⟨_, rfl, HM.out⟩

theorem left11_del {ok : Nat → Prop} {m : MZ} {ch us : List Int} {ps : List (List Int)} {g gu gb b3 : Nat} {f u ts vc vp : Value} {w wk w8 : World} {v8 : Value} {l : List Int} (tn : Nat) (h : StAt w ok g m ch ps us f u ts vc vp gu) (so : SOk m ch ps) (hE : Ext w wk)
  (hM : Mk wk w8 v8 l) (hcb : wk.cell? ⟨gb, 0, none⟩ = some (.pointer (some ⟨g, 0, none⟩))) (hc3 : wk.cell? ⟨b3, 0, none⟩ = some (.int .i64 (tn : Int))) (htn : tn < m.tasks.length) (hl : l.length ≤ 1000000000000) (hr : ∀ x ∈ l, 0 ≤ x ∧ x < m.n) :
  Calls Try.prog 100 #[v8, .func (.func 101) #[] #[.pointer (some ⟨gb, 0, none⟩), .pointer (some ⟨b3, 0, none⟩)]] w8 fun e w' => ∃ v', e = .returned v' ∧ Mk wk w' v' (l.filter fun n => !(!freeAt m tn n || decide (n ∈ us))) := by
 have hfl : tn < m.free.length := by have := so.good.fl; omega
 refine deleteFuncI_calls hM (fun x => 0 ≤ x ∧ x < m.n) hr ⟨by omega, by have := so.good.n1; unfold MZ.n; omega⟩ hl _ _ (fun x => !freeAt m tn x || decide (x ∈ us)) (callFunc_run (P := Try.prog) Try.func101 (by kernel_rfl) (by kernel_rfl)) ?_
 intro x hx W hS
 have h1 : StAt W (fun b => ok b ∧ b < w.heap.size) g m ch ps us f u ts vc vp gu := h.bound.keep (fun b hb hlt => (hS b (Nat.lt_of_lt_of_le hb.2 hE.size) (Nat.lt_of_lt_of_le hb.2 (hE.trans hM.ext).size)).trans ((hE.trans hM.ext).block b hb.2))
 exact left11_calls tn x W h1 so.good.fn hfl (sameCell hS (hM.ext.cell hcb) (lt_of_cell hcb)) (sameCell hS (hM.ext.cell hc3) (lt_of_cell hc3)) hx.1 hx.2

theorem left1_next {m : MZ} {ps : List (List Int)} {w W wr w5 : World} {J : Nat → World → Prop} {k tn t0 b3 : Nat} (htn : Hid (tn = t0 + k)) (hk : k ≤ m.tasks.length + 1 - ps.length) (hlt : tn < m.tasks.length) (h6 : m.tasks.length ≤ 1000000) (ht0 : ps.length = t0 + 1)
  (HJ : Hid (∀ (k : Nat) (A B : World), J k A → Below W.heap.size A B → J k B)) (HC : Hid (wr.cell? ⟨b3, 0, none⟩ = some (.int .i64 (tn : Int)))) (hE5 : Ext w w5) (hJ5 : Hid (J (k + 1) w5)) (hz5 : W.heap.size ≤ w5.heap.size) :
  (∃ k tn_1 b3, Value.pointer (some ⟨w5.heap.size, 0, none⟩) = Value.pointer (some ⟨b3, 0, none⟩) ∧ Hid (tn_1 = t0 + k) ∧ k ≤ m.tasks.length + 1 - ps.length ∧ Hid (W.heap.size ≤ b3) ∧
   Hid ((w5.alloc (Obj.cells #[Value.int IntKind.i64 (wrap64 ((tn : Int) + 1))] 3)).cell? ⟨b3, 0, none⟩ = some (Value.int IntKind.i64 (tn_1 : Int)) ∧ (w5.alloc (Obj.cells #[Value.int IntKind.i64 (wrap64 ((tn : Int) + 1))] 3)).frozen? ⟨b3, 0, none⟩ = false) ∧
   Hid (Ext w (w5.alloc (Obj.cells #[Value.int IntKind.i64 (wrap64 ((tn : Int) + 1))] 3))) ∧ Hid (J k (w5.alloc (Obj.cells #[Value.int IntKind.i64 (wrap64 ((tn : Int) + 1))] 3))) ∧
   Hid (W.heap.size ≤ (w5.alloc (Obj.cells #[Value.int IntKind.i64 (wrap64 ((tn : Int) + 1))] 3)).heap.size)) ∧
  (match Value.pointer (some ⟨w5.heap.size, 0, none⟩) with
   | Value.pointer (some a) => (match (w5.alloc (Obj.cells #[Value.int IntKind.i64 (wrap64 ((tn : Int) + 1))] 3)).cell? a with | some (Value.int k i) => m.tasks.length - i.toNat | x => 0)
   | x => 0) <
  (match Value.pointer (some ⟨b3, 0, none⟩) with
   | Value.pointer (some a) => (match wr.cell? a with | some (Value.int k i) => m.tasks.length - i.toNat | x => 0)
   | x => 0) := by
 have h1 := htn.out
 have hw : wrap64 ((tn : Int) + 1) = ((tn + 1 : Nat) : Int) := by rw [IntWalk.wrap64_in _ (by omega)]; omega
 rw [hw]
 refine ⟨⟨k + 1, tn + 1, w5.heap.size, rfl, (by omega : tn + 1 = t0 + (k + 1)), by omega, hz5, ⟨cell_new _ _ _ rfl, World.frozen?_alloc_at _ _ _ _ rfl⟩, hE5.alloc _, HJ.out _ _ _ hJ5.out ((Below.refl _ w5).alloc hz5 _), Nat.le_trans hz5 (by simp)⟩, ?_⟩
 simp only [cell_new _ _ _ rfl, HC.out]
 omega

set_option maxHeartbeats 4000000 in
set_option maxRecDepth 100000 in
theorem left1_gives {ok : Nat → Prop} {m : MZ} {ch us : List Int} {ps : List (List Int)} {g gu gb : Nat} {f u ts vc vp : Value} (w : World) (h : StAt w ok g m ch ps us f u ts vc vp gu) (so : SOk m ch ps) (hc : w.cell? ⟨gb, 0, none⟩ = some (.pointer (some ⟨g, 0, none⟩))) (hp : cmpB m ps = false) (n : Nat) (hn : 1 ≤ n) :
  GivesB n Try.prog 99 #[.pointer (some ⟨gb, 0, none⟩)] (fun x : Int × Value => #[.int .i64 x.1, x.2]) (fun k x W => x.1 = ((ps.length - 1 + k : Nat) : Int) ∧ Ints W (fun _ => True) x.2 (fromL m ps us (ps.length - 1 + k))) (m.tasks.length + 1 - ps.length) w := by
 intro l J Jx W hW hwl hl hJ hJx hY h0
 have HS := Lib.hid h.bound; clear h
 have HY := Lib.hid hY; clear hY
 have HJ := Lib.hid hJ; clear hJ
 have HJX := Lib.hid hJx; clear hJx
 have H0 := Lib.hid h0; clear h0
 have hps6 : ps.length ≤ 6 := Nat.le_trans so.pl so.good.tk
 obtain ⟨r0, r1, r2, r3, r4, r5, r6, r7, r8⟩ := HS.out.rules
 have rb := Ext.rule hc
 have SO := Lib.hid so
 have hps0 : 0 < ps.length := by
  by_cases h0 : m.tasks.length = 0
  ·unfold cmpB at hp; rw [decide_eq_true h0] at hp; cases hp
  ·exact so.pn (by omega)
 have hpl := so.pl
 have hmz := HS.out.maze
 obtain ⟨fr', up', ts', hee, _, _, hts⟩ := hmz
 injection hee with hee
 injection hee with hee
 simp only [List.cons.injEq, and_true, true_and] at hee
 obtain ⟨rfl, rfl, rfl⟩ := hee
 have HTS := Lib.hid hts
 obtain ⟨vst, ⟨At, ct, rfl, hct, _⟩, _⟩ := hts
 clear hc so
 refine callsIn_of_wp Try.func99 rfl trivial ?_ rfl
 simp only [Try.ntmps99, List.size_toArray, List.length_cons, List.length_nil, Nat.reduceAdd, Nat.reduceSub, Array.replicate_succ, Array.replicate_zero, List.push_toArray, List.append_toArray, List.nil_append, List.cons_append]
 gi_wp2_with (refine ⟨trivial, ?_⟩; gi_at_call 63; refine (callsIn_wide.2 (complete_calls _ (HS.out.ext hW) SO.out)).mono ?_; rintro e wA ⟨rfl, hdA⟩; rw [hp]; have hxA : Ext W wA := hdA.below _; have hA : Ext w wA := hW.trans hxA)
 refine ⟨trivial, ?_⟩
 refine (callsIn_wide.2 (task_calls _ (HS.out.ext hA) (by omega))).mono ?_
 rintro e wB ⟨he, hBA⟩
 subst hBA
 obtain ⟨t0, ht0⟩ : ∃ t0, ps.length = t0 + 1 := ⟨ps.length - 1, by omega⟩
 have hki : (ps.length : Int) - 1 = (t0 : Int) := by omega
 rw [hki] at he
 subst he
 clear hki hdA
 gi_wp2
 gi_loopw [3] (fun v wr => ∃ k tn b3, v = .pointer (some ⟨b3, 0, none⟩) ∧ Hid (tn = t0 + k) ∧ k ≤ m.tasks.length + 1 - ps.length ∧ Hid (W.heap.size ≤ b3) ∧ Hid (wr.cell? ⟨b3, 0, none⟩ = some (.int .i64 (tn : Int)) ∧ wr.frozen? ⟨b3, 0, none⟩ = false) ∧ Hid (Ext w wr) ∧ Hid (J k wr) ∧ Hid (W.heap.size ≤ wr.heap.size)) (fun v wr => match v with | .pointer (some a) => (match wr.cell? a with | some (.int _ i) => m.tasks.length - i.toNat | _ => 0) | _ => 0)
 case atStart =>
  have hz := hxA.size
  exact ⟨0, t0, wA.heap.size, rfl, rfl, by omega, hz, ⟨cell_new _ _ _ rfl, World.frozen?_alloc_at _ _ _ _ rfl⟩, hA.alloc _, HJ.out _ _ _ H0.out ((hxA).alloc _), Nat.le_trans hz (by simp)⟩
 case round =>
  obtain ⟨k, tn, b3, rfl, htn, hk, hb3, hcf, hE, hJk, hsz⟩ := hrel
  have hEo := hE.out
  obtain ⟨hcb3, hfb3⟩ := hcf.out
  have HCBR := Lib.hid hcb3
  gi_wp2
  refine wpIn_wide.2 ?_
  go_quiet (fail)
  generalize hw2 : wr.drewN nq = w2
  have hd2 : Drew wr w2 := ⟨nq, hw2.symm⟩
  have hx2 : Ext wr w2 := hd2.below _
  clear hw2 hd2
  have hE2 : Ext w w2 := hEo.trans hx2
  have hcb2 := hx2.cell hcb3
  have hf2 : w2.frozen? ⟨b3, 0, none⟩ = false := (Below.frozen hx2 (p := ⟨b3, 0, none⟩) (lt_of_cell hcb3)).trans hfb3
  have hJ2 := Lib.hid (HJ.out _ _ _ hJk.out (hx2.mono hsz.out))
  have hz2 : W.heap.size ≤ w2.heap.size := Nat.le_trans hsz.out hx2.size
  clear hcb3 hfb3 hcf hJk hE hEo hx2
  by_cases hlt : tn < m.tasks.length
  ·have ht0p : t0 < ps.length := by omega
   obtain ⟨vs, ⟨Ap, cp, rfl, hcp, hrp⟩, hep⟩ := HS.out.ps
   obtain ⟨b, off, up, rfl, _, hcp0, hup⟩ := eachAt hrp hep ht0p ht0p
   have hlp := SO.out.pp _ (List.getElem_mem ht0p)
   have q0 := Ext.rule hcp0
   have ht1 : (t0 : Int) < (ps.length : Int) := by omega
   have ht00 : (0 : Int) ≤ (t0 : Int) := by omega
   obtain ⟨p, hpp⟩ : ∃ p, p = ps[t0] := ⟨_, rfl⟩
   rw [← hpp] at hup hlp
   have HPP := Lib.hid hpp; clear hpp
   have HUP := Lib.hid hup
   obtain ⟨Aq, cq, rfl, hcq, hrq⟩ := hup
   clear hrp hep hcp0 hrq
   have hk0i : (k = 0) ∨ (k ≠ 0) := by omega
   rcases hk0i with hk0 | hk0
   ·have htt : Hid (tn = t0) := (by have := htn.out; omega : tn = t0)
    have hd : ((tn : Int) == (t0 : Int)) = true := by rw [beq_iff_eq, htt.out]
    have hmin : min (tn : Int) (t0 : Int) = (t0 : Int) := by rw [htt.out]; omega
    clear hk0
    gi_wp2
    refine wpIn_wide.2 ?_
    go_quiet ((go_at_call 87; refine (task_calls _ (HS.out.ext (hE2.drewN _)) (by omega)).mono ?_; rintro e w9 ⟨he9, rfl⟩; rw [show (ps.length : Int) - 1 = (t0 : Int) from by omega] at he9; exact ⟨he9, ⟨_, rfl⟩⟩))
    generalize hw3 : w2.drewN nq = w3
    have hd3 : Drew w2 w3 := ⟨nq, hw3.symm⟩
    have hx3 : Ext w2 w3 := hd3.below _
    clear hw3 hd3
    have hE3 : Ext w w3 := hE2.trans hx3
    have hcb3 := hx3.cell hcb2
    have hf3 : w3.frozen? ⟨b3, 0, none⟩ = false := (Below.frozen hx3 (p := ⟨b3, 0, none⟩) (lt_of_cell hcb2)).trans hf2
    have hJ3 := Lib.hid (HJ.out _ _ _ hJ2.out (hx3.mono hz2))
    have hz3 : W.heap.size ≤ w3.heap.size := Nat.le_trans hz2 hx3.size
    clear hcb2 hf2 hJ2 hE2 hx3 hz2
    rcases List.eq_nil_or_concat p with rfl | ⟨q, x, rfl⟩
    ·have HFR : Hid (fromL m ps us tn = ((m.tasks.getD tn ([], [])).1).filter fun n => !(!freeAt m tn n || decide (n ∈ us))) := by
      show fromL m ps us tn = _
      unfold fromL
      rw [if_pos (by have := htt.out; omega), htt.out, List.getD_eq_getElem?_getD, List.getElem?_eq_getElem ht0p, Option.getD_some, ← HPP.out]
      rfl
     gi_wp2
     refine wpIn_wide.2 ?_
     go_quiet ((go_at_call 87; refine (task_calls _ (HS.out.ext (hE3.drewN _)) (by omega)).mono ?_; rintro e w9 ⟨he9, rfl⟩; rw [show (ps.length : Int) - 1 = (t0 : Int) from by omega] at he9; exact ⟨he9, ⟨_, rfl⟩⟩))
     gi_wp2
     refine wpIn_wide.2 ?_
     generalize hw6 : w3.drewN nq = w6
     have hd6 : Drew w3 w6 := ⟨nq, hw6.symm⟩
     have hx6 : Ext w3 w6 := hd6.below _
     have hx6c := hx6
     clear hw6 hd6
     have hE6 : Ext w w6 := hE3.trans hx6
     have hcb6 := hx6.cell hcb3
     have hJ6 := Lib.hid (HJ.out _ _ _ hJ3.out (hx6.mono hz3))
     have hz6 : W.heap.size ≤ w6.heap.size := Nat.le_trans hz3 hx6.size
     clear hJ3 hE3 hx6 hz3
     have HCB6 := Lib.hid hcb6
     have HFZ := Lib.hid ((Below.frozen hx6c (p := ⟨b3, 0, none⟩) (lt_of_cell hcb3)).trans hf3); clear hf3 hcb3 hx6c
     have hlt' : tn < m.tasks.length := hlt
     obtain ⟨bt, offt, sn, u1, u2, rfl, _, hk0', hk1, hk2, hi1, hi2⟩ := tasksAt HTS.out hlt'
     have hlf := (SO.out.lens.tl _ (List.getElem_mem hlt')).1
     have htnR := SO.out.good.tn _ (List.getElem_mem hlt')
     have HFR' : Hid (fromL m ps us tn = ((m.tasks[tn]).1).filter fun n => !(!freeAt m tn n || decide (n ∈ us))) := HFR.out.trans (by rw [List.getD_eq_getElem?_getD, List.getElem?_eq_getElem hlt', Option.getD_some])
     obtain ⟨tk, htk⟩ : ∃ tk, tk = m.tasks[tn] := ⟨_, rfl⟩
     rw [← htk] at hi1 hlf htnR HFR'
     clear htk hi2 hk0' hk2
     have HF := Lib.hid hi1
     obtain ⟨A5, c5, rfl, hc5, _⟩ := hi1
     have HTN := Lib.hid htnR; clear htnR
     have q1 := Ext.rule hk1
     have rb3 := Ext.rule hcb6
     have hx66 := Ext.refl w6
     have htl : (tn : Int) < (m.tasks.length : Int) := by omega
     have htl0 : (0 : Int) ≤ (tn : Int) := by omega
     have hfrl : tn < m.free.length := by have := SO.out.good.fl; omega
     clear hk1 hcb6
     have hR0 : (0 : Int) ≤ 0 ∧ (0 : Int) < m.n := by have := SO.out.good.n1; unfold MZ.n; omega
     have q3 := rb3
     go_region_held3 (fun W' => Ext w W' ∧ Ext w6 W')
      (first | (exact ⟨hE6.drew, hx66.drew⟩) | (exact ⟨hE6.drew.trans hM9.ext, hx66.drew.trans hM9.ext⟩) | (exact ⟨hE6.drew.trans hM8.ext, hx66.drew.trans hM8.ext⟩) | assumption)
      (first | ((go_at_call 64; refine (cloneJ_calls _ (HF.out.below hE6.drew) (by omega)).mono ?_; rintro e w8 ⟨v8, rfl, hM8⟩)) | ((go_at_call 100; refine (left11_del tn HS.out SO.out hE6.drew hM8 (rb _ hE6.drew) (q3 _ hx66.drew) hlt' (by omega) (fun x hx => HTN.out x (.inl hx))).mono ?_; rintro e w9 ⟨v9, rfl, hM9⟩)))
     all_goals
      have hE4 : Ext w w9 := hE6.drew.trans hM9.ext
      have hx64 : Ext w6 w9 := hx66.drew.trans hM9.ext
      have HV4 : Hid (Ints w9 (fun _ => True) v9 (fromL m ps us tn)) := by
       have h1 := hM9.ints
       rw [← HFR'.out] at h1
       exact h1.weaken fun _ _ => trivial
      have hcb4 := hx64.cell HCB6.out
      have hf4 : w9.frozen? ⟨b3, 0, none⟩ = false := (Below.frozen hx64 (p := ⟨b3, 0, none⟩) (lt_of_cell HCB6.out)).trans HFZ.out
      have hJ4 := Lib.hid (HJ.out _ _ _ hJ6.out (hx64.mono hz6))
      have hz4 : W.heap.size ≤ w9.heap.size := Nat.le_trans hz6 hx64.size
      have HTN' := htn.out
      clear hM9 hM8 hx64 q3 rb3 hx66 q1 hE6 hJ6 hz6 HCB6 HFZ
      obtain ⟨fn, tmps, assign, body, hy, hR⟩ := HY.out k ((tn : Int), v9) w9 (by omega) hJ4.out ⟨by simp; omega, by have := HV4.out; rwa [show ps.length - 1 + k = tn from by omega]⟩
      have HR := Lib.hid hR; clear hR HTN'
      dsimp only at hy
      gi_wp2
      refine HR.out.mono ?_
      rintro e w5 (⟨rfl, hJ5, hg5⟩ | ⟨rfl, hJx5⟩)
      ·have hb3l : b3 ≠ l := by have := hb3.out; omega
       have hE5 : Ext w w5 := grown_below hE4 hg5 (Nat.le_trans hW.size hz4) hwl
       have hcb5 : w5.cell? ⟨b3, 0, none⟩ = some (.int .i64 (tn : Int)) := World.grownBy.cell hg5 hcb4 (fun e => hb3l (by injection e))
       have hz5 : W.heap.size ≤ w5.heap.size := Nat.le_trans hz4 hg5.size
       have HJ5 := Lib.hid hJ5; clear hJ5 hg5 hy
       gi_wp2
       exact left1_next htn hk hlt' (by have := SO.out.good.tk; omega) ht0 HJ HCBR hE5 HJ5 hz5
      ·gi_wp2
       refine bodyPost_ret (results_none rfl _ _ _) rfl ?_
       exact ⟨⟨_, rfl⟩, .inr hJx5⟩
    ·rw [List.concat_eq_append] at *
     have HFR' : Hid (fromL m ps us tn = [x]) := by
      show fromL m ps us tn = _
      unfold fromL
      rw [if_pos (by have := htt.out; omega), htt.out, List.getD_eq_getElem?_getD, List.getElem?_eq_getElem ht0p, Option.getD_some, ← HPP.out]
      simp
     obtain ⟨N, hN⟩ : ∃ N, N = (q ++ [x]).length := ⟨_, rfl⟩
     have hNq : N = q.length + 1 := by rw [hN]; simp
     have hup2 := HUP.out
     obtain ⟨A', c', hAA, hcc, hrr⟩ := hup2
     obtain ⟨b5, o5, hA5, hb5, hcc5⟩ := hrr.2 (by simp)
     injection hAA with hAA hAA2 hAA3
     subst hAA hAA3 hA5
     have hx5 : w.cell? ⟨b5, o5 + q.length, none⟩ = some (.int .i64 x) := hcc5 q.length _ (by simp)
     have HX5 := Lib.hid hx5
     have hok5 : b5 < w.heap.size := hb5.2
     clear hcc5 hx5 hrr hAA2 hcc HPP HUP hb5
     rw [← hN] at q0 hcq hlp
     have hNl : (0 : Int) < (N : Int) := by omega
     have hNd : decide ((0 : Int) < (N : Int)) = true := decide_eq_true hNl
     have hqw : IntKind.i64.wrap ((N : Int) - 1) = (q.length : Int) := by rw [IntKind.wrap_i64]; omega
     have hqw2 : wrap64 ((N : Int) - 1) = (q.length : Int) := by rw [IntWalk.wrap64_in _ (by omega)]; omega
     have hql : (0 : Int) ≤ (q.length : Int) ∧ (q.length : Int) ≤ (N : Int) := by omega
     rw [← hN]
     clear hN
     gi_wp2
     refine wpIn_wide.2 ?_
     go_quiet ((go_at_call 87; refine (task_calls _ (HS.out.ext (hE3.drewN _)) (by omega)).mono ?_; rintro e w9 ⟨he9, rfl⟩; rw [show (ps.length : Int) - 1 = (t0 : Int) from by omega] at he9; exact ⟨he9, ⟨_, rfl⟩⟩))
     generalize hw6 : w3.drewN nq = w9
     have hd6 : Drew w3 w9 := ⟨nq, hw6.symm⟩
     have hx6 : Ext w3 w9 := hd6.below _
     clear hw6 hd6
     have hE4 : Ext w w9 := hE3.trans hx6
     have hcb4 := hx6.cell hcb3
     have hf4 : w9.frozen? ⟨b3, 0, none⟩ = false := (Below.frozen hx6 (p := ⟨b3, 0, none⟩) (lt_of_cell hcb3)).trans hf3
     have hJ4 := Lib.hid (HJ.out _ _ _ hJ3.out (hx6.mono hz3))
     have hz4 : W.heap.size ≤ w9.heap.size := Nat.le_trans hz3 hx6.size
     clear hJ3 hE3 hx6 hz3 hcb3 hf3
     have hlt' : tn < m.tasks.length := hlt
     have HTN' := htn.out
     have HV4 : Hid (Ints w9 (fun _ => True) (.slice (some ⟨b5, o5 + q.length, none⟩) 1 (cq - q.length)) (fromL m ps us tn)) := by
      show Ints w9 _ _ (fromL m ps us tn)
      rw [HFR'.out]
      refine ⟨_, _, rfl, by simp; omega, by simp, fun _ => ⟨b5, o5 + q.length, rfl, trivial, ?_⟩⟩
      intro i u hi
      match i, hi with
      | 0, hi =>
       injection hi with hi
       rw [← hi]
       exact hE4.cell HX5.out
     obtain ⟨fn, tmps, assign, body, hy, hR⟩ := HY.out k ((tn : Int), (.slice (some ⟨b5, o5 + q.length, none⟩) 1 (cq - q.length))) w9 (by omega) hJ4.out ⟨by simp; omega, by have := HV4.out; rwa [show ps.length - 1 + k = tn from by omega]⟩
     have HR := Lib.hid hR; clear hR HTN'
     dsimp only at hy
     gi_wp2
     refine HR.out.mono ?_
     rintro e w5 (⟨rfl, hJ5, hg5⟩ | ⟨rfl, hJx5⟩)
     ·have hb3l : b3 ≠ l := by have := hb3.out; omega
      have hE5 : Ext w w5 := grown_below hE4 hg5 (Nat.le_trans hW.size hz4) hwl
      have hcb5 : w5.cell? ⟨b3, 0, none⟩ = some (.int .i64 (tn : Int)) := World.grownBy.cell hg5 hcb4 (fun e => hb3l (by injection e))
      have hz5 : W.heap.size ≤ w5.heap.size := Nat.le_trans hz4 hg5.size
      have HJ5 := Lib.hid hJ5; clear hJ5 hg5 hy
      gi_wp2
      exact left1_next htn hk hlt' (by have := SO.out.good.tk; omega) ht0 HJ HCBR hE5 HJ5 hz5
     ·gi_wp2
      refine bodyPost_ret (results_none rfl _ _ _) rfl ?_
      exact ⟨⟨_, rfl⟩, .inr hJx5⟩
   ·have hlt0 : (t0 : Int) < (tn : Int) := by have := htn.out; omega
    have hd : ((tn : Int) == (t0 : Int)) = false := by rw [beq_eq_false_iff_ne]; omega
    have hmin : min (tn : Int) (t0 : Int) = (t0 : Int) := by omega
    clear hk0
    gi_wp2
    refine wpIn_wide.2 ?_
    go_quiet ((go_at_call 87; refine (task_calls _ (HS.out.ext (hE2.drewN _)) (by omega)).mono ?_; rintro e w9 ⟨he9, rfl⟩; rw [show (ps.length : Int) - 1 = (t0 : Int) from by omega] at he9; exact ⟨he9, ⟨_, rfl⟩⟩))
    generalize hw3 : w2.drewN nq = w3
    have hd3 : Drew w2 w3 := ⟨nq, hw3.symm⟩
    have hx3 : Ext w2 w3 := hd3.below _
    clear hw3 hd3
    have hE3 : Ext w w3 := hE2.trans hx3
    have hcb3 := hx3.cell hcb2
    have hf3 : w3.frozen? ⟨b3, 0, none⟩ = false := (Below.frozen hx3 (p := ⟨b3, 0, none⟩) (lt_of_cell hcb2)).trans hf2
    have hJ3 := Lib.hid (HJ.out _ _ _ hJ2.out (hx3.mono hz2))
    have hz3 : W.heap.size ≤ w3.heap.size := Nat.le_trans hz2 hx3.size
    clear hcb2 hf2 hJ2 hE2 hx3 hz2
    have HFR : Hid (fromL m ps us tn = ((m.tasks.getD tn ([], [])).1).filter fun n => !(!freeAt m tn n || decide (n ∈ us))) := by
     show fromL m ps us tn = _
     unfold fromL
     rw [if_neg (by omega)]
    gi_wp2
    refine wpIn_wide.2 ?_
    go_quiet ((go_at_call 87; refine (task_calls _ (HS.out.ext (hE3.drewN _)) (by omega)).mono ?_; rintro e w9 ⟨he9, rfl⟩; rw [show (ps.length : Int) - 1 = (t0 : Int) from by omega] at he9; exact ⟨he9, ⟨_, rfl⟩⟩))
    gi_wp2
    refine wpIn_wide.2 ?_
    generalize hw6 : w3.drewN nq = w6
    have hd6 : Drew w3 w6 := ⟨nq, hw6.symm⟩
    have hx6 : Ext w3 w6 := hd6.below _
    have hx6c := hx6
    clear hw6 hd6
    have hE6 : Ext w w6 := hE3.trans hx6
    have hcb6 := hx6.cell hcb3
    have hJ6 := Lib.hid (HJ.out _ _ _ hJ3.out (hx6.mono hz3))
    have hz6 : W.heap.size ≤ w6.heap.size := Nat.le_trans hz3 hx6.size
    clear hJ3 hE3 hx6 hz3
    have HCB6 := Lib.hid hcb6
    have HFZ := Lib.hid ((Below.frozen hx6c (p := ⟨b3, 0, none⟩) (lt_of_cell hcb3)).trans hf3); clear hf3 hcb3 hx6c
    have hlt' : tn < m.tasks.length := hlt
    obtain ⟨bt, offt, sn, u1, u2, rfl, _, hk0', hk1, hk2, hi1, hi2⟩ := tasksAt HTS.out hlt'
    have hlf := (SO.out.lens.tl _ (List.getElem_mem hlt')).1
    have htnR := SO.out.good.tn _ (List.getElem_mem hlt')
    have HFR' : Hid (fromL m ps us tn = ((m.tasks[tn]).1).filter fun n => !(!freeAt m tn n || decide (n ∈ us))) := HFR.out.trans (by rw [List.getD_eq_getElem?_getD, List.getElem?_eq_getElem hlt', Option.getD_some])
    obtain ⟨tk, htk⟩ : ∃ tk, tk = m.tasks[tn] := ⟨_, rfl⟩
    rw [← htk] at hi1 hlf htnR HFR'
    clear htk hi2 hk0' hk2
    have HF := Lib.hid hi1
    obtain ⟨A5, c5, rfl, hc5, _⟩ := hi1
    have HTN := Lib.hid htnR; clear htnR
    have q1 := Ext.rule hk1
    have rb3 := Ext.rule hcb6
    have hx66 := Ext.refl w6
    have htl : (tn : Int) < (m.tasks.length : Int) := by omega
    have htl0 : (0 : Int) ≤ (tn : Int) := by omega
    have hfrl : tn < m.free.length := by have := SO.out.good.fl; omega
    clear hk1 hcb6
    have hR0 : (0 : Int) ≤ 0 ∧ (0 : Int) < m.n := by have := SO.out.good.n1; unfold MZ.n; omega
    have q3 := rb3
    go_region_held3 (fun W' => Ext w W' ∧ Ext w6 W')
     (first | (exact ⟨hE6.drew, hx66.drew⟩) | (exact ⟨hE6.drew.trans hM9.ext, hx66.drew.trans hM9.ext⟩) | (exact ⟨hE6.drew.trans hM8.ext, hx66.drew.trans hM8.ext⟩) | assumption)
     (first | ((go_at_call 64; refine (cloneJ_calls _ (HF.out.below hE6.drew) (by omega)).mono ?_; rintro e w8 ⟨v8, rfl, hM8⟩)) | ((go_at_call 100; refine (left11_del tn HS.out SO.out hE6.drew hM8 (rb _ hE6.drew) (q3 _ hx66.drew) hlt' (by omega) (fun x hx => HTN.out x (.inl hx))).mono ?_; rintro e w9 ⟨v9, rfl, hM9⟩)))
    all_goals
     have hE4 : Ext w w9 := hE6.drew.trans hM9.ext
     have hx64 : Ext w6 w9 := hx66.drew.trans hM9.ext
     have HV4 : Hid (Ints w9 (fun _ => True) v9 (fromL m ps us tn)) := by
      have h1 := hM9.ints
      rw [← HFR'.out] at h1
      exact h1.weaken fun _ _ => trivial
     have hcb4 := hx64.cell HCB6.out
     have hf4 : w9.frozen? ⟨b3, 0, none⟩ = false := (Below.frozen hx64 (p := ⟨b3, 0, none⟩) (lt_of_cell HCB6.out)).trans HFZ.out
     have hJ4 := Lib.hid (HJ.out _ _ _ hJ6.out (hx64.mono hz6))
     have hz4 : W.heap.size ≤ w9.heap.size := Nat.le_trans hz6 hx64.size
     have HTN' := htn.out
     clear hM9 hM8 hx64 q3 rb3 hx66 q1 hE6 hJ6 hz6 HCB6 HFZ
     obtain ⟨fn, tmps, assign, body, hy, hR⟩ := HY.out k ((tn : Int), v9) w9 (by omega) hJ4.out ⟨by simp; omega, by have := HV4.out; rwa [show ps.length - 1 + k = tn from by omega]⟩
     have HR := Lib.hid hR; clear hR HTN'
     dsimp only at hy
     gi_wp2
     refine HR.out.mono ?_
     rintro e w5 (⟨rfl, hJ5, hg5⟩ | ⟨rfl, hJx5⟩)
     ·have hb3l : b3 ≠ l := by have := hb3.out; omega
      have hE5 : Ext w w5 := grown_below hE4 hg5 (Nat.le_trans hW.size hz4) hwl
      have hcb5 : w5.cell? ⟨b3, 0, none⟩ = some (.int .i64 (tn : Int)) := World.grownBy.cell hg5 hcb4 (fun e => hb3l (by injection e))
      have hz5 : W.heap.size ≤ w5.heap.size := Nat.le_trans hz4 hg5.size
      have HJ5 := Lib.hid hJ5; clear hJ5 hg5 hy
      gi_wp2
      exact left1_next htn hk hlt' (by have := SO.out.good.tk; omega) ht0 HJ HCBR hE5 HJ5 hz5
     ·gi_wp2
      refine bodyPost_ret (results_none rfl _ _ _) rfl ?_
      exact ⟨⟨_, rfl⟩, .inr hJx5⟩
  ·gi_wp2
   go_end0
   have hkN : k = m.tasks.length + 1 - ps.length := by have := htn.out; omega
   exact ⟨⟨_, rfl⟩, .inl (by rw [← hkN]; exact hJ2.out)⟩
end Go.Proofs.Ytgpjfpcjiebjiaa

namespace Go.Proofs.Ytgpjfpcjiebjiaa
open Go.RowKit Go.Shelf
set_option linter.unusedVariables false
set_option linter.unusedSimpArgs false
attribute [local go_sem] Oper.semAt_some
attribute [local go_sem ↓] Go.wp_at_zero Go.wp_at_succ

/-- Is the task t not cut off? -/
noncomputable def openT (m : MZ) (ps : List (List Int)) (us : List Int) (t : Nat) : Bool := ((m.tasks.getD t ([], [])).2).any fun x => decide (x ∈ reachL m t (fromL m ps us t) us)
/-- How many tasks are left. -/
def tasksN (m : MZ) (ps : List (List Int)) : Nat := if cmpB m ps = true then 0 else m.tasks.length + 1 - ps.length
/-- Is no task cut off? -/
noncomputable def openB (m : MZ) (ps : List (List Int)) (us : List Int) : Bool := (List.range (tasksN m ps)).all fun k => openT m ps us (ps.length - 1 + k)

set_option maxRecDepth 100000 in
theorem left_calls (g : Nat) (w : World) : Calls Try.prog 92 #[.pointer (some ⟨g, 0, none⟩)] w fun e w' => e = .returned (.func (.func 99) #[] #[.pointer (some ⟨w.heap.size, 0, none⟩)]) ∧ w' = w.alloc (.cells #[.pointer (some ⟨g, 0, none⟩)] 88) := by
 go_enter Try.func92, Try.ntmps92
 go_wp2
 go_ret
 exact ⟨rfl, rfl⟩

set_option maxHeartbeats 4000000 in
set_option maxRecDepth 100000 in
theorem left1_none {ok : Nat → Prop} {m : MZ} {ch us : List Int} {ps : List (List Int)} {g gu gb : Nat} {f u ts vc vp : Value} {G : Nat → Int × Value → World → Prop} (w : World) (h : StAt w ok g m ch ps us f u ts vc vp gu) (so : SOk m ch ps) (hc : w.cell? ⟨gb, 0, none⟩ = some (.pointer (some ⟨g, 0, none⟩))) (hp : cmpB m ps = true) (n : Nat) (hn : 1 ≤ n) :
  GivesB n Try.prog 99 #[.pointer (some ⟨gb, 0, none⟩)] (fun x : Int × Value => #[.int .i64 x.1, x.2]) G 0 w := by
 intro l J Jx W hW hwl hl hJ hJx hY h0
 have HS := Lib.hid h; clear h
 have HJ := Lib.hid hJ; clear hJ hJx
 have HJ0 := Lib.hid h0; clear h0
 have rb := Ext.rule hc
 have SO := Lib.hid so; clear so hc hY
 refine callsIn_of_wp Try.func99 rfl trivial ?_ rfl
 simp only [Try.ntmps99, List.size_toArray, List.length_cons, List.length_nil, Nat.reduceAdd, Nat.reduceSub, Array.replicate_succ, Array.replicate_zero, List.push_toArray, List.append_toArray, List.nil_append, List.cons_append]
 gi_wp2_with (refine ⟨trivial, ?_⟩; gi_at_call 63; refine (callsIn_wide.2 (complete_calls _ (HS.out.ext hW) SO.out)).mono ?_; rintro e wA ⟨rfl, hdA⟩; rw [hp]; have hxA : Ext W wA := hdA.below _; have hA : Ext w wA := hW.trans hxA)
 refine bodyPost_ret (results_none rfl _ _ _) rfl ?_
 exact ⟨⟨_, rfl⟩, .inl (HJ.out _ _ _ HJ0.out hxA)⟩

theorem left1_gives' {ok : Nat → Prop} {m : MZ} {ch us : List Int} {ps : List (List Int)} {g gu gb : Nat} {f u ts vc vp : Value} (w : World) (h : StAt w ok g m ch ps us f u ts vc vp gu) (so : SOk m ch ps) (hc : w.cell? ⟨gb, 0, none⟩ = some (.pointer (some ⟨g, 0, none⟩))) (n : Nat) (hn : 1 ≤ n) :
  GivesB n Try.prog 99 #[.pointer (some ⟨gb, 0, none⟩)] (fun x : Int × Value => #[.int .i64 x.1, x.2]) (fun k x W => x.1 = ((ps.length - 1 + k : Nat) : Int) ∧ Ints W (fun _ => True) x.2 (fromL m ps us (ps.length - 1 + k))) (tasksN m ps) w := by
 unfold tasksN
 by_cases hp : cmpB m ps = true
 ·rw [if_pos hp]
  exact left1_none w h so hc hp n hn
 ·rw [if_neg hp]
  exact left1_gives w h so hc (by simpa using hp) n hn

theorem RowA.apart {w : World} {ok : Nat → Prop} {size n b : Nat} {A : Option Addr} {xs : List Value} {r : Loop} (h : RowA w ok size A n xs) (hs : 0 < size) (hb : w.heap[b]? = some (.loop r)) : RowA w (fun k => ok k ∧ k ≠ b) size A n xs := by
 refine ⟨h.1, fun hn => ?_⟩
 obtain ⟨k, off, e, hk, hc⟩ := h.2 hn
 have h0 : 0 < xs.length := by rw [h.1]; exact Nat.mul_pos hn hs
 refine ⟨k, off, e, ⟨hk, ?_⟩, hc⟩
 rintro rfl
 have h1 := hc 0 _ (List.getElem?_eq_getElem h0)
 unfold World.cell? at h1
 simp only [hb] at h1
 cases h1
theorem Ints.apart {w : World} {ok : Nat → Prop} {v : Value} {l : List Int} {b : Nat} {r : Loop} (h : Ints w ok v l) (hb : w.heap[b]? = some (.loop r)) : Ints w (fun k => ok k ∧ k ≠ b) v l := by
 obtain ⟨A, c, e, hc, hr⟩ := h
 exact ⟨A, c, e, hc, hr.apart (by decide) hb⟩

theorem mixedA : Try.prog.follows .mixedOrders = true := by kernel_rfl
theorem results_bool {fn : Func} {p w2 : Nat} {b : Bool} (h : fn.results = #[.cell p 4]) (tmps : Array Value) (w : World) (hp : tmps.getD p undef = .pointer (some ⟨w2, 0, none⟩)) (hc : w.cell? ⟨w2, 0, none⟩ = some (.bool b)) : (results fn tmps).run Try.prog w = .ok (.bool b) w := by
 have hp' : tmps[p]?.getD undef = .pointer (some ⟨w2, 0, none⟩) := by simpa using hp
 simp [results, h, hp', asAddr, go_sem, hc]

theorem tasksN_lt {m : MZ} {ch : List Int} {ps : List (List Int)} {k t : Nat} (so : SOk m ch ps) (hk : k < tasksN m ps) (ht : t = ps.length - 1 + k) : t < m.tasks.length := by
 unfold tasksN at hk
 split at hk
 ·omega
 ·rename_i h
  have h0 : 0 < m.tasks.length := by
   rcases Nat.eq_zero_or_pos m.tasks.length with h0 | h0
   ·exfalso; apply h; unfold cmpB; rw [decide_eq_true h0]; rfl
   ·exact h0
  have := so.pn h0
  have := so.pl
  omega
theorem fromL_len {m : MZ} {ch us : List Int} {ps : List (List Int)} {t : Nat} (so : SOk m ch ps) (ht : t < m.tasks.length) : (fromL m ps us t).length ≤ 20000000000000 := by
 unfold fromL
 split
 ·simp
 ·refine Nat.le_trans (List.length_filter_le _ _) ?_
  rw [List.getD_eq_getElem?_getD, List.getElem?_eq_getElem ht, Option.getD_some]
  have := (so.lens.tl _ (List.getElem_mem ht)).1
  omega

/-- What the statement that reaches has made. -/
structure JO (W0 : World) (g gu : Nat) (m : MZ) (frm us : List Int) (t : Nat) (x2 MV : Value) (e : Nat → Bool) (v : Nat → Value) (W : World) : Prop where
 ext : Ext W0 W
 v0 : e 0 = true → v 0 = .pointer (some ⟨g, 0, none⟩)
 v1 : e 1 = true → v 1 = .pointer (some ⟨g, 0, none⟩)
 v2 : e 2 = true → v 2 = .pointer (some ⟨g, 0, none⟩)
 v3 : e 3 = true → v 3 = MV
 v4 : e 4 = true → v 4 = .int .i64 (t : Int)
 v5 : e 5 = true → v 5 = x2
 v6 : e 6 = true → v 6 = .pointer (some ⟨g, 0, none⟩)
 v7 : e 7 = true → v 7 = .pointer (some ⟨g, 0, none⟩)
 v8 : e 8 = true → v 8 = .pointer (some ⟨g, 8, none⟩)
 v9 : e 9 = true → v 9 = .map (some gu)
 call : e 10 = true → ∃ gs s, v 10 = .map (some gs) ∧ W0.heap.size ≤ gs ∧ SetIs W gs s ∧ ∀ x, x ∈ s ↔ RP m t frm us x
 al : e 11 = true → ∃ g5, v 11 = .pointer (some ⟨g5, 0, none⟩) ∧ W0.heap.size ≤ g5 ∧ (e 12 = false → Blk W g5 82 #[.map none]) ∧ (e 12 = true → W.cell? ⟨g5, 0, none⟩ = some (v 10))
 d12 : e 12 = true → e 10 = true ∧ e 11 = true
section
variable {W0 W W' : World} {g gu : Nat} {m : MZ} {frm us : List Int} {t : Nat} {x2 MV : Value} {e : Nat → Bool} {v : Nat → Value}
theorem JO.n12 (h : JO W0 g gu m frm us t x2 MV e v W) (h10 : e 10 = false) : e 12 = false := notT (fun a => (h.d12 a).1) h10
theorem JO.n12' (h : JO W0 g gu m frm us t x2 MV e v W) (h10 : e 11 = false) : e 12 = false := notT (fun a => (h.d12 a).2) h10
theorem JO.init (he : ∀ j ∈ [0, 1, 2, 3, 4, 5, 6, 7, 8, 9, 10, 11, 12], e j = false) : JO W0 g gu m frm us t x2 MV e v { W0 with drawn := W0.drawn + 1 } :=
 ⟨held1_drew, fun a => ff (he 0 (by simp)) a, fun a => ff (he 1 (by simp)) a, fun a => ff (he 2 (by simp)) a, fun a => ff (he 3 (by simp)) a, fun a => ff (he 4 (by simp)) a, fun a => ff (he 5 (by simp)) a, fun a => ff (he 6 (by simp)) a, fun a => ff (he 7 (by simp)) a, fun a => ff (he 8 (by simp)) a, fun a => ff (he 9 (by simp)) a, fun a => ff (he 10 (by simp)) a, fun a => ff (he 11 (by simp)) a, fun a => ff (he 12 (by simp)) a⟩
theorem JO.s0 (h : JO W0 g gu m frm us t x2 MV e v W) : JO W0 g gu m frm us t x2 MV (upd e 0 true) (upd v 0 (.pointer (some ⟨g, 0, none⟩))) W :=
 ⟨h.ext, fun _ => rfl, h.v1, h.v2, h.v3, h.v4, h.v5, h.v6, h.v7, h.v8, h.v9, h.call, h.al, h.d12⟩
theorem JO.s1 (h : JO W0 g gu m frm us t x2 MV e v W) : JO W0 g gu m frm us t x2 MV (upd e 1 true) (upd v 1 (.pointer (some ⟨g, 0, none⟩))) W :=
 ⟨h.ext, h.v0, fun _ => rfl, h.v2, h.v3, h.v4, h.v5, h.v6, h.v7, h.v8, h.v9, h.call, h.al, h.d12⟩
theorem JO.s2 (h : JO W0 g gu m frm us t x2 MV e v W) : JO W0 g gu m frm us t x2 MV (upd e 2 true) (upd v 2 (.pointer (some ⟨g, 0, none⟩))) W :=
 ⟨h.ext, h.v0, h.v1, fun _ => rfl, h.v3, h.v4, h.v5, h.v6, h.v7, h.v8, h.v9, h.call, h.al, h.d12⟩
theorem JO.s3 (h : JO W0 g gu m frm us t x2 MV e v W) : JO W0 g gu m frm us t x2 MV (upd e 3 true) (upd v 3 (MV)) W :=
 ⟨h.ext, h.v0, h.v1, h.v2, fun _ => rfl, h.v4, h.v5, h.v6, h.v7, h.v8, h.v9, h.call, h.al, h.d12⟩
theorem JO.s4 (h : JO W0 g gu m frm us t x2 MV e v W) : JO W0 g gu m frm us t x2 MV (upd e 4 true) (upd v 4 (.int .i64 (t : Int))) W :=
 ⟨h.ext, h.v0, h.v1, h.v2, h.v3, fun _ => rfl, h.v5, h.v6, h.v7, h.v8, h.v9, h.call, h.al, h.d12⟩
theorem JO.s5 (h : JO W0 g gu m frm us t x2 MV e v W) : JO W0 g gu m frm us t x2 MV (upd e 5 true) (upd v 5 (x2)) W :=
 ⟨h.ext, h.v0, h.v1, h.v2, h.v3, h.v4, fun _ => rfl, h.v6, h.v7, h.v8, h.v9, h.call, h.al, h.d12⟩
theorem JO.s6 (h : JO W0 g gu m frm us t x2 MV e v W) : JO W0 g gu m frm us t x2 MV (upd e 6 true) (upd v 6 (.pointer (some ⟨g, 0, none⟩))) W :=
 ⟨h.ext, h.v0, h.v1, h.v2, h.v3, h.v4, h.v5, fun _ => rfl, h.v7, h.v8, h.v9, h.call, h.al, h.d12⟩
theorem JO.s7 (h : JO W0 g gu m frm us t x2 MV e v W) : JO W0 g gu m frm us t x2 MV (upd e 7 true) (upd v 7 (.pointer (some ⟨g, 0, none⟩))) W :=
 ⟨h.ext, h.v0, h.v1, h.v2, h.v3, h.v4, h.v5, h.v6, fun _ => rfl, h.v8, h.v9, h.call, h.al, h.d12⟩
theorem JO.s8 (h : JO W0 g gu m frm us t x2 MV e v W) : JO W0 g gu m frm us t x2 MV (upd e 8 true) (upd v 8 (.pointer (some ⟨g, 8, none⟩))) W :=
 ⟨h.ext, h.v0, h.v1, h.v2, h.v3, h.v4, h.v5, h.v6, h.v7, fun _ => rfl, h.v9, h.call, h.al, h.d12⟩
theorem JO.s9 (h : JO W0 g gu m frm us t x2 MV e v W) : JO W0 g gu m frm us t x2 MV (upd e 9 true) (upd v 9 (.map (some gu))) W :=
 ⟨h.ext, h.v0, h.v1, h.v2, h.v3, h.v4, h.v5, h.v6, h.v7, h.v8, fun _ => rfl, h.call, h.al, h.d12⟩
theorem JO.s10 {gs : Nat} {s : List Int} (h : JO W0 g gu m frm us t x2 MV e v W) (h12 : e 12 = false) (hE : Ext W W') (hg : W0.heap.size ≤ gs) (hs : SetIs W' gs s) (hrp : ∀ x, x ∈ s ↔ RP m t frm us x) :
  JO W0 g gu m frm us t x2 MV (upd e 10 true) (upd v 10 (.map (some gs))) W' :=
 ⟨h.ext.trans hE, h.v0, h.v1, h.v2, h.v3, h.v4, h.v5, h.v6, h.v7, h.v8, h.v9, fun _ => ⟨gs, s, rfl, hg, hs, hrp⟩, fun a => (by
  obtain ⟨g5, h1, h2, h3, _⟩ := h.al a
  exact ⟨g5, h1, h2, fun _ => (h3 h12).ext hE, fun b => ff (b := e 12) h12 b⟩), fun a => ff (b := e 12) h12 a⟩
theorem JO.s11 (h : JO W0 g gu m frm us t x2 MV e v W) (h12 : e 12 = false) :
  JO W0 g gu m frm us t x2 MV (upd e 11 true) (upd v 11 (.pointer (some ⟨W.heap.size, 0, none⟩))) (W.alloc (.cells #[.map none] 82)) :=
 ⟨h.ext.alloc _, h.v0, h.v1, h.v2, h.v3, h.v4, h.v5, h.v6, h.v7, h.v8, h.v9, fun a => (by
  obtain ⟨gs, s, h1, h2, h3, h4⟩ := h.call a
  exact ⟨gs, s, h1, h2, h3.below ((Ext.refl _).alloc _), h4⟩), fun _ => ⟨_, rfl, h.ext.size, fun _ => Blk.new _ _ _ rfl, fun b => ff (b := e 12) h12 b⟩, fun a => ff (b := e 12) h12 a⟩
theorem JO.s12 {g5 gs : Nat} {x : Value} (h : JO W0 g gu m frm us t x2 MV e v W) (hv11 : v 11 = .pointer (some ⟨g5, 0, none⟩)) (hv10 : v 10 = .map (some gs)) (hg : W0.heap.size ≤ g5) (hb : Blk W g5 82 #[.map none]) (h10 : e 10 = true) (h11 : e 11 = true) :
  JO W0 g gu m frm us t x2 MV (upd e 12 true) (upd v 12 x) (W.setCell ⟨g5, 0, none⟩ (.map (some gs))) :=
 ⟨h.ext.setCell (p := ⟨g5, 0, none⟩) hg _, h.v0, h.v1, h.v2, h.v3, h.v4, h.v5, h.v6, h.v7, h.v8, h.v9, fun a => (by
  obtain ⟨gs', s, h1, h2, h3, h4⟩ := h.call a
  refine ⟨gs', s, h1, h2, ?_, h4⟩
  have hne : g5 ≠ gs' := blk_set_ne hb h3
  exact (Below.heap_setCell W ⟨g5, 0, none⟩ _ gs' (fun e => hne e.symm)).trans h3), fun _ => ⟨g5, hv11, hg, fun a => (by cases a), fun _ => by
   show _ = some (v 10)
   rw [hv10]
   exact (hb.set (k := 0) _).cell (k := 0) rfl⟩, fun _ => ⟨h10, h11⟩⟩
end

set_option maxHeartbeats 4000000 in
set_option maxRecDepth 100000 in
theorem open_calls {ok : Nat → Prop} {m : MZ} {ch us : List Int} {ps : List (List Int)} {g gu : Nat} {f u ts vc vp : Value} (w : World) (h : StAt w ok g m ch ps us f u ts vc vp gu) (so : SOk m ch ps) :
  Calls Try.prog 70 #[.pointer (some ⟨g, 0, none⟩)] w fun e w' => e = .returned (.bool (openB m ps us)) ∧ Ext w w' := by
 refine (callsIn_wide (n := 6)).1 ?_
 have HS := Lib.hid h
 have SO := Lib.hid so
 obtain ⟨r0, r1, r2, r3, r4, r5, r6, r7, r8⟩ := h.rules
 clear h
 refine callsIn_of_wp_marks Try.func70 rfl trivial ?_ rfl
 simp only [Try.ntmps70, List.size_toArray, List.length_cons, List.length_nil, Nat.reduceAdd, Nat.reduceSub, Array.replicate_succ, Array.replicate_zero, List.push_toArray, List.append_toArray, List.nil_append, List.cons_append]
 gi_wp2_with (refine ⟨trivial, ?_⟩; gi_at_call 92; refine (callsIn_wide.2 (left_calls _ _)).mono ?_; rintro e w1 ⟨rfl, rfl⟩)
 obtain ⟨w1, hw1⟩ : ∃ w1, w1 = ((w.alloc (.cells #[.pointer (some ⟨g, 0, none⟩)] 88)).alloc (.cells #[.bool false] 4)).alloc (.cells #[.pointer (some ⟨g, 0, none⟩)] 88) := ⟨_, rfl⟩
 rw [← hw1]
 have hE1 : Ext w w1 := by rw [hw1]; exact (((Ext.refl w).alloc _).alloc _).alloc _
 have hz1 : w1.heap.size = w.heap.size + 3 := by rw [hw1]; simp
 have hcb : w1.cell? ⟨w.heap.size, 0, none⟩ = some (.pointer (some ⟨g, 0, none⟩)) := by
  rw [hw1]
  exact Ext.cell (cell_new w _ _ rfl) (((Ext.refl _).alloc _).alloc _)
 have hc2 : w1.cell? ⟨w.heap.size + 1, 0, none⟩ = some (.bool false) ∧ w1.frozen? ⟨w.heap.size + 1, 0, none⟩ = false := by
  rw [hw1]
  constructor
  ·exact Ext.cell (cell_new _ _ _ (by simp)) ((Ext.refl _).alloc _)
  ·rw [World.frozen?_alloc_past _ _ _ (by simp)]
   exact World.frozen?_alloc_at _ _ _ _ (by simp)
 have hcb2 : w1.cell? ⟨w.heap.size + 1 + 1, 0, none⟩ = some (.pointer (some ⟨g, 0, none⟩)) := by
  rw [hw1]
  exact cell_new _ _ _ (by simp)
 clear hw1
 have rb := Ext.rule hcb
 obtain ⟨tn0, htn0⟩ : ∃ tn0, tn0 = ps.length - 1 := ⟨_, rfl⟩
 obtain ⟨w2, hw2⟩ : ∃ w2, w2 = w.heap.size + 1 := ⟨_, rfl⟩
 rw [← hw2] at hc2 ⊢
 have hlw2 : w2 < w1.heap.size := by omega
 have HW2 := Lib.hid hw2
 rw [← hw2] at hcb2
 clear hw2
 refine wpIn_loopB (gf := 99) (lb := #[.pointer (some ⟨w2 + 1, 0, none⟩)]) rfl (enters_of Try.func99 (by kernel_rfl) rfl) (left1_gives' w1 (HS.out.ext hE1) SO.out hcb2 _ (by omega)) (Ext.refl w1) (fun _ => rfl)
  (fun k W => Ext w1 W ∧ (∀ j, j < k → openT m ps us (ps.length - 1 + j) = true) ∧ W.frozen? ⟨w2, 0, none⟩ = false ∧ ∃ b, W.cell? ⟨w2, 0, none⟩ = some (.bool b))
  (fun c W => c = .ret ∧ Ext w W ∧ W.cell? ⟨w2, 0, none⟩ = some (.bool false) ∧ openB m ps us = false)
  ?hI ?hIx ?hG ⟨Ext.refl w1, fun _ h => absurd h (by omega), hc2.2, _, hc2.1⟩ (fun x => { tmps := #[Value.pointer (some ⟨g, 0, none⟩), Value.pointer (some ⟨w.heap.size, 0, none⟩), Value.pointer (some ⟨w2, 0, none⟩), .int .i64 x.1, x.2, undef, Value.pointer (some ⟨g, 0, none⟩),
    Value.func (Fn.func 99) #[] #[Value.pointer (some ⟨w2 + 1, 0, none⟩)], .int .i64 x.1, x.2, undef, undef, undef, undef, undef, undef, undef, undef, undef, undef, undef, undef, undef, undef, undef, undef, undef, undef, undef, undef, undef, undef, undef], defers := [] }) ?assign ?body ?done ?stop
 case hI =>
  rintro k A B ⟨h1, h2, h3, b, h4⟩ hAB
  have hlt := hlw2
  exact ⟨Below.trans h1 hAB, h2, (hAB.frozen (p := ⟨w2, 0, none⟩) hlt).trans h3, b, (hAB.cell (p := ⟨w2, 0, none⟩) hlt).trans h4⟩
 case hIx =>
  rintro c A B ⟨h1, h2, h3, h4⟩ hAB
  have hlt := hlw2
  exact ⟨h1, Below.trans h2 (hAB.mono hE1.size), (hAB.cell (p := ⟨w2, 0, none⟩) hlt).trans h3, h4⟩
 case hG =>
  rintro k x A l ⟨h1, h2⟩ hl1 hl2 ⟨r, hr⟩ o
  exact ⟨h1, ((h2.apart hr).keep fun b hb hlt => World.putObj_heap_other hb.2).weaken fun _ h => h.1⟩
 case assign =>
  intro l x W K hK
  gi_wp2
  exact hK
 case body =>
  rintro l k ⟨x1, x2⟩ W0 hk ⟨hE, hall, hfz, b, hcz⟩ ⟨hx1, hx2⟩ hsz
  dsimp only at hx1 hx2 ⊢
  obtain ⟨t, ht⟩ : ∃ t, t = ps.length - 1 + k := ⟨_, rfl⟩
  rw [← ht] at hx1 hx2
  subst hx1
  have hE0 : Ext w W0 := hE1.trans hE
  have HX := Lib.hid hx2; clear hx2
  obtain ⟨frm, hfrm⟩ : ∃ frm, frm = fromL m ps us t := ⟨_, rfl⟩
  rw [← hfrm] at HX
  have HFRM := Lib.hid hfrm; clear hfrm
  have htT : t < m.tasks.length := tasksN_lt SO.out hk ht
  have htf : t < m.free.length := by rw [SO.out.good.fl]; exact htT
  have hfl : frm.length ≤ 20000000000000 := by rw [HFRM.out]; exact fromL_len SO.out htT
  have hmz := HS.out.maze
  obtain ⟨fr', up', ts', hee, _, _, hts⟩ := hmz
  injection hee with hee
  injection hee with hee
  simp only [List.cons.injEq, and_true, true_and] at hee
  obtain ⟨rfl, rfl, rfl⟩ := hee
  have HTS := Lib.hid hts
  obtain ⟨vst, ⟨At, ct, rfl, hct, _⟩, _⟩ := hts
  obtain ⟨bt, offt, sn, u1, u2, rfl, _, hk0', hk1, hk2, hi1, hi2⟩ := tasksAt HTS.out htT
  have hlt2 := (SO.out.lens.tl _ (List.getElem_mem htT)).2
  obtain ⟨tl2, hto⟩ : ∃ tl2, tl2 = (m.tasks[t]).2 := ⟨_, rfl⟩
  rw [← hto] at hi2 hlt2
  have HTO := Lib.hid hto; clear hto hi1 hk0' hk1
  have HI2 := Lib.hid hi2
  obtain ⟨A5, c5, rfl, hc5, _⟩ := hi2
  have q2 := Ext.rule hk2; clear hk2
  have htl : (t : Int) < (m.tasks.length : Int) := by omega
  have htl0 : (0 : Int) ≤ (t : Int) := by omega
  have htk := SO.out.good.tk
  obtain ⟨MV, hMV⟩ : ∃ MV, MV = Value.agg #[.int .i64 m.w, .int .i64 m.h, .int .i64 m.l, f, u, .slice (some ⟨bt, offt, none⟩) m.tasks.length ct] := ⟨_, rfl⟩
  have HT := Lib.hid ht; clear ht
  have HALL := Lib.hid hall; clear hall
  have HFZ := Lib.hid hfz; clear hfz
  have HCZ := Lib.hid hcz; clear hcz
  gi_wp2
  refine wpIn_region_any mixedA ?_
  simp only [List.size_toArray, List.length_cons, List.length_nil, Nat.reduceAdd, Array.replicate_succ, Array.replicate_zero, List.push_toArray, List.nil_append, List.cons_append]
  refine wpAnyIn_by_invF _ _ (by kernel_rfl) [0, 1, 2, 3, 4, 5, 6, 7, 8, 9, 10, 11, 12] (fun e v W => JO W0 g gu m frm us t x2 MV e v W) (F := ?F1) (by kernel_rfl) (by kernel_rfl) (by decide) (fun v => ?hF1) ?init1 (by kernel_rfl) ?steps1 ?fin1
  case hF1 => (simp only [putAll, dstOf, List.getElem?_toArray, List.getElem?_cons_succ, List.getElem?_cons_zero, Option.bind, Act.put, List.setIfInBounds_toArray, List.set_cons_succ, List.set_cons_zero]; rfl)
  case init1 =>
   intro e v he
   exact JO.init he
  case steps1 =>
   refine StepsOf.cons rfl (fun e v W K hJ hW he hd hK => ?_) ?_
   ·simp only [List.getElem_toArray, List.getElem_cons_succ, List.getElem_cons_zero] at hd hK ⊢
    have hxW : Ext w W := hE0.trans hJ.ext
    have hxW1 : Ext w1 W := hE.trans hJ.ext
    go_simp
    exact hK.out _ _ _ (by rfl) trivial hJ.s0
   refine StepsOf.cons rfl (fun e v W K hJ hW he hd hK => ?_) ?_
   ·simp only [List.getElem_toArray, List.getElem_cons_succ, List.getElem_cons_zero] at hd hK ⊢
    have hxW : Ext w W := hE0.trans hJ.ext
    have hxW1 : Ext w1 W := hE.trans hJ.ext
    have v0 := hJ.v0 (deps_of hd [0] (by kernel_rfl) 0 (by simp))
    go_simp
    exact hK.out _ _ _ (by simp [Act.put, v0]) trivial hJ.s1
   refine StepsOf.cons rfl (fun e v W K hJ hW he hd hK => ?_) ?_
   ·simp only [List.getElem_toArray, List.getElem_cons_succ, List.getElem_cons_zero] at hd hK ⊢
    have hxW : Ext w W := hE0.trans hJ.ext
    have hxW1 : Ext w1 W := hE.trans hJ.ext
    have v1 := hJ.v1 (deps_of hd [1] (by kernel_rfl) 1 (by simp))
    go_simp
    exact hK.out _ _ _ (by simp [Act.put, v1]) trivial hJ.s2
   refine StepsOf.cons rfl (fun e v W K hJ hW he hd hK => ?_) ?_
   ·simp only [List.getElem_toArray, List.getElem_cons_succ, List.getElem_cons_zero] at hd hK ⊢
    have hxW : Ext w W := hE0.trans hJ.ext
    have hxW1 : Ext w1 W := hE.trans hJ.ext
    have v2 := hJ.v2 (deps_of hd [2] (by kernel_rfl) 2 (by simp))
    go_simp
    exact hK.out _ _ _ (by simp [Act.put, v2, hMV]) trivial hJ.s3
   refine StepsOf.cons rfl (fun e v W K hJ hW he hd hK => ?_) ?_
   ·simp only [List.getElem_toArray, List.getElem_cons_succ, List.getElem_cons_zero] at hd hK ⊢
    have hxW : Ext w W := hE0.trans hJ.ext
    have hxW1 : Ext w1 W := hE.trans hJ.ext
    go_simp
    exact hK.out _ _ _ (by rfl) trivial hJ.s4
   refine StepsOf.cons rfl (fun e v W K hJ hW he hd hK => ?_) ?_
   ·simp only [List.getElem_toArray, List.getElem_cons_succ, List.getElem_cons_zero] at hd hK ⊢
    have hxW : Ext w W := hE0.trans hJ.ext
    have hxW1 : Ext w1 W := hE.trans hJ.ext
    go_simp
    exact hK.out _ _ _ (by rfl) trivial hJ.s5
   refine StepsOf.cons rfl (fun e v W K hJ hW he hd hK => ?_) ?_
   ·simp only [List.getElem_toArray, List.getElem_cons_succ, List.getElem_cons_zero] at hd hK ⊢
    have hxW : Ext w W := hE0.trans hJ.ext
    have hxW1 : Ext w1 W := hE.trans hJ.ext
    go_simp
    exact hK.out _ _ _ (by rfl) trivial hJ.s6
   refine StepsOf.cons rfl (fun e v W K hJ hW he hd hK => ?_) ?_
   ·simp only [List.getElem_toArray, List.getElem_cons_succ, List.getElem_cons_zero] at hd hK ⊢
    have hxW : Ext w W := hE0.trans hJ.ext
    have hxW1 : Ext w1 W := hE.trans hJ.ext
    have v6 := hJ.v6 (deps_of hd [6] (by kernel_rfl) 6 (by simp))
    go_simp
    exact hK.out _ _ _ (by simp [Act.put, v6]) trivial hJ.s7
   refine StepsOf.cons rfl (fun e v W K hJ hW he hd hK => ?_) ?_
   ·simp only [List.getElem_toArray, List.getElem_cons_succ, List.getElem_cons_zero] at hd hK ⊢
    have hxW : Ext w W := hE0.trans hJ.ext
    have hxW1 : Ext w1 W := hE.trans hJ.ext
    have v7 := hJ.v7 (deps_of hd [7] (by kernel_rfl) 7 (by simp))
    go_simp
    exact hK.out _ _ _ (by simp [Act.put, v7]) trivial hJ.s8
   refine StepsOf.cons rfl (fun e v W K hJ hW he hd hK => ?_) ?_
   ·simp only [List.getElem_toArray, List.getElem_cons_succ, List.getElem_cons_zero] at hd hK ⊢
    have hxW : Ext w W := hE0.trans hJ.ext
    have hxW1 : Ext w1 W := hE.trans hJ.ext
    have v8 := hJ.v8 (deps_of hd [8] (by kernel_rfl) 8 (by simp))
    go_simp
    exact hK.out _ _ _ (by simp [Act.put, v8]) trivial hJ.s9
   refine StepsOf.cons rfl (fun e v W K hJ hW he hd hK => ?_) ?_
   ·simp only [List.getElem_toArray, List.getElem_cons_succ, List.getElem_cons_zero] at hd hK ⊢
    have hxW : Ext w W := hE0.trans hJ.ext
    have hxW1 : Ext w1 W := hE.trans hJ.ext
    have v3 := hJ.v3 (deps_of hd [3, 4, 5, 9] (by kernel_rfl) 3 (by simp))
    have v4 := hJ.v4 (deps_of hd [3, 4, 5, 9] (by kernel_rfl) 4 (by simp))
    have v5 := hJ.v5 (deps_of hd [3, 4, 5, 9] (by kernel_rfl) 5 (by simp))
    have v9 := hJ.v9 (deps_of hd [3, 4, 5, 9] (by kernel_rfl) 9 (by simp))
    have h12 : e 12 = false := hJ.n12 he
    go_simp
    go_at_call 57
    refine (reach_calls t W (HS.out.maze.below hxW) SO.out.good.dim htf SO.out.good.fn (HX.out.below hJ.ext) (by omega) (HS.out.us.below hxW)).mono ?_
    rintro e9 w9 ⟨s, rfl, hb9, hs9, hrp⟩
    go_simp
    exact hK.out _ _ _ (by simp [Act.put, v3, v4, v5, v9, hMV]) trivial (hJ.s10 h12 hb9 (by have := hJ.ext.size; omega) hs9 hrp)
   refine StepsOf.cons rfl (fun e v W K hJ hW he hd hK => ?_) ?_
   ·simp only [List.getElem_toArray, List.getElem_cons_succ, List.getElem_cons_zero] at hd hK ⊢
    have hxW : Ext w W := hE0.trans hJ.ext
    have hxW1 : Ext w1 W := hE.trans hJ.ext
    have h12 : e 12 = false := hJ.n12' he
    go_simp
    exact hK.out _ _ _ (by rfl) trivial (hJ.s11 h12)
   refine StepsOf.cons rfl (fun e v W K hJ hW he hd hK => ?_) ?_
   ·simp only [List.getElem_toArray, List.getElem_cons_succ, List.getElem_cons_zero] at hd hK ⊢
    have hxW : Ext w W := hE0.trans hJ.ext
    have hxW1 : Ext w1 W := hE.trans hJ.ext
    have h10 : e 10 = true := deps_of hd [10, 11] (by kernel_rfl) 10 (by simp)
    have h11 : e 11 = true := deps_of hd [10, 11] (by kernel_rfl) 11 (by simp)
    obtain ⟨g5, hv11, hg5, hb5, _⟩ := hJ.al h11
    have hb5 := hb5 he
    have hf := fun k => hb5.frozen k
    have hc0 := hb5.cell (k := 0) rfl
    obtain ⟨gs, s, hv10, hgs, hs5, hrp⟩ := hJ.call h10
    go_simp
    exact hK.out _ undef _ (by simp [Act.put, hv10, hv11]) trivial (hJ.s12 hv11 hv10 hg5 hb5 h10 h11)
   exact StepsOf.nil
  case fin1 =>
   intro v W5 hJ
   have v10e := hJ.call rfl
   obtain ⟨gs, s, hv10, hgs, hs5, hrp⟩ := v10e
   obtain ⟨g5, hv11, hg5, _, hc5⟩ := hJ.al rfl
   have hc5 := hc5 rfl
   rw [hv10] at hc5
   have hE5 : Ext W0 W5 := hJ.ext
   have hxW : Ext w W5 := hE0.trans hE5
   have hxW1 : Ext w1 W5 := hE.trans hE5
   have HJ := Lib.hid hJ; clear hJ
   have HRP := Lib.hid hrp; clear hrp
   rw [hv11]
   clear hv10 hv11
   have HC := Lib.hid (containsFuncI_calls (l := tl2) 93 #[.pointer (some ⟨g5, 0, none⟩)] (fun x => decide (x ∈ s)) W5 (HI2.out.below hxW) (by omega) (callFunc_run (P := Try.prog) Try.func93 (by kernel_rfl) (by kernel_rfl))
    (fun x _ wa hd => by
     have hEa : Ext W5 wa := hd.below _
     refine (open1_calls x wa (hs5.below hEa) (Ext.cell hc5 hEa)).mono ?_
     rintro e wb ⟨rfl, rfl⟩
     exact ⟨rfl, Drew.refl _⟩))
   have HOT : Hid (openT m ps us t = tl2.any fun x => decide (x ∈ s)) := by
    show openT m ps us t = _
    unfold openT
    rw [HTO.out, List.getD_eq_getElem?_getD, List.getElem?_eq_getElem htT, Option.getD_some, ← HFRM.out]
    congr 1
    funext x
    rw [decide_eq_decide, mem_reachL SO.out.good.dim]
    exact (HRP.out x).symm
   generalize (tl2.any fun x => decide (x ∈ s)) = bb at HC HOT
   clear hs5 hc5
   cases bb with
   | true =>
    gi_wp2_with fail
    refine ⟨trivial, ?_⟩
    refine (CallsIn.inRound l (callsIn_wide.2 HC.out)).mono ?_
    rintro e w6 ⟨rfl, hd6⟩
    have hx6 : Ext W5 w6 := hd6.below _
    clear hd6
    have hx06 : Ext W0 w6 := hE5.trans hx6
    gi_wp2_with fail
    have hlt := Nat.lt_of_lt_of_le hlw2 hE.size
    refine ⟨hx06, hE.trans hx06, fun j hj => ?_, (Below.frozen hx06 (p := ⟨w2, 0, none⟩) hlt).trans HFZ.out, b, (Below.cell hx06 (p := ⟨w2, 0, none⟩) hlt).trans HCZ.out⟩
    rcases Nat.lt_or_ge j k with h | h
    ·exact HALL.out j h
    ·rw [show j = k from by omega, ← HT.out]; exact HOT.out
   | false =>
    gi_wp2_with fail
    refine ⟨trivial, ?_⟩
    refine (CallsIn.inRound l (callsIn_wide.2 HC.out)).mono ?_
    rintro e w6 ⟨rfl, hd6⟩
    have hx6 : Ext W5 w6 := hd6.below _
    clear hd6
    have hx06 : Ext W0 w6 := hE5.trans hx6
    have hlt := Nat.lt_of_lt_of_le hlw2 hE.size
    have hcz6 : w6.cell? ⟨w2, 0, none⟩ = some (.bool b) := (Below.cell hx06 (p := ⟨w2, 0, none⟩) hlt).trans HCZ.out
    have hfz6 : w6.frozen? ⟨w2, 0, none⟩ = false := (Below.frozen hx06 (p := ⟨w2, 0, none⟩) hlt).trans HFZ.out
    have hg2 : w.heap.size ≤ w2 := by have := HW2.out; omega
    gi_wp2_with fail
    refine ⟨fun k' h1 h2 => (Below.heap_setCell w6 ⟨w2, 0, none⟩ _ k' (by show k' ≠ w2; omega)).trans (hx06.block k' h2), rfl, (hE0.trans hx06).setCell (p := ⟨w2, 0, none⟩) hg2 _, World.cell?_setCell_same' _ _ _ (by rw [hcz6]; rfl), ?_⟩
    unfold openB
    rw [List.all_eq_false]
    exact ⟨k, List.mem_range.2 hk, by rw [← HT.out, HOT.out]; simp⟩
 case done =>
  rintro D W hD ⟨hE, hall, hfz, b, hcz⟩ hK
  have hlt2 : w2 < W.heap.size := Nat.lt_of_lt_of_le hlw2 hE.size
  gi_wp2
  refine ⟨by simp, .inl ⟨_, _, rfl, run_takeDeferred ((Below.heap_setCell W ⟨w2, 0, none⟩ _ D (by show D ≠ w2; omega)).trans hK), ?_⟩⟩
  have hne : w2 ≠ D := by omega
  refine ⟨_, results_bool (w2 := w2) (b := true) rfl _ _ rfl ?_, ret_bool ?_, ?_⟩
  ·exact (World.cell?_of_block (World.putObj_heap_other hne)).trans (World.cell?_setCell_same' _ _ _ (by rw [hcz]; rfl))
  ·unfold openB
   symm
   rw [List.all_eq_true]
   exact fun j hj => hall j (List.mem_range.1 hj)
  ·have hg2 : w.heap.size ≤ w2 := by have := HW2.out; omega
   exact ((hE1.trans hE).setCell (p := ⟨w2, 0, none⟩) hg2 _).trans (belowK_b (w := w) (Nat.le_refl _) _ D _ _ (by have := hE1.size; omega) ((Below.heap_setCell W ⟨w2, 0, none⟩ _ D (by show D ≠ w2; omega)).trans hK) rfl rfl)
 case stop =>
  rintro D c W hD ⟨rfl, hE, hcz, hop⟩ hK
  gi_wp2
  refine ⟨by simp, .inl ⟨_, _, rfl, run_takeDeferred hK, ?_⟩⟩
  have hne : w2 ≠ D := by omega
  refine ⟨_, results_bool (w2 := w2) (b := false) rfl _ _ rfl ?_, ret_bool hop.symm, ?_⟩
  ·exact (World.cell?_of_block (World.putObj_heap_other hne)).trans hcz
  ·exact Below.trans hE (belowK_b (w := w) (Nat.le_refl _) _ D _ _ (by have := hE1.size; omega) hK rfl rfl)
end Go.Proofs.Ytgpjfpcjiebjiaa
