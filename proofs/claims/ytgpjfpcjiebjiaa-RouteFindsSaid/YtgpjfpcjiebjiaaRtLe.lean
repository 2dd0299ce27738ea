/- Walks: the tasks that are left, as an iterator. -/
import Derived.Test.YtgpjfpcjiebjiaaRtL
import Derived.Test.YtgpjfpcjiebjiaaRtDf
namespace Go.Proofs.Ytgpjfpcjiebjiaa
open Go.RowKit Go.Shelf
set_option linter.unusedVariables false
set_option linter.unusedSimpArgs false
attribute [local go_sem] Oper.semAt_some
attribute [local go_sem ↓] Go.wp_at_zero Go.wp_at_succ

/-- Where the task t goes on. -/
def fromL (m : MZ) (ps : List (List Int)) (us : List Int) (t : Nat) : List Int :=
  match (if t + 1 = ps.length then (ps.getD t []).getLast? else none) with
  | some x => [x]
  | none => ((m.tasks.getD t ([], [])).1).filter fun n => !(!freeAt m t n || decide (n ∈ us))

theorem sameCell {B : Nat} {w W : World} (hS : Same (fun b => b < B) w W) {p : Addr} {v : Value} (hc : w.cell? p = some v) (hp : p.block < B) : W.cell? p = some v :=
  (World.cell?_of_block (w := w) (hS p.block hp (lt_of_cell hc))).trans hc

theorem cloneJ_calls {ok : Nat → Prop} {v : Value} {l : List Int} (w : World) (h : Ints w ok v l) (hl : l.length ≤ 1000000000000) :
    Calls Try.prog 64 #[v] w fun e w' => ∃ v', e = .returned v' ∧ Mk w w' v' l := by
  have H := Lib.hid h
  have hnil := nilEq 24 3 Try.underlying24
  obtain ⟨A, c, rfl, hc, hr⟩ := h
  rcases A with _ | a
  · have hl0 : l = [] := by
      rcases Nat.eq_zero_or_pos l.length with h | h
      · exact List.eq_nil_of_length_eq_zero h
      · obtain ⟨b, off, e, _⟩ := hr.2 h
        cases e
    subst hl0
    clear hr
    go_enter Try.func64, Try.ntmps64
    go_wp2_with fail
    go_ret
    exact ⟨_, rfl, Mk.nil _⟩
  · clear hr
    have hx := Ext.refl w
    go_enter Try.func64, Try.ntmps64
    go_wp2_with (at_builtin; refine wpList_append_ints (ok := ok) rfl _ _ _ rfl w.heap.size [] l _ _ rfl rfl (own_empty w w.heap.size (Nat.le_refl _)) (H.out.below ((Ext.refl w).alloc _)) ?d1 ?d2 ?_)
    case d1 => simp
    case d2 => simp; omega
    intro v' w1 ho hg _
    have HM : Hid (Mk w w1 v' l) := ⟨ho, below_app ((Ext.refl w).alloc _) hg (by simp) (fun k hk => slice_own hk)⟩
    clear ho hg
    go_wp2_with fail
    go_ret
    exact ⟨_, rfl, HM.out⟩

theorem left11_del {ok : Nat → Prop} {m : MZ} {ch us : List Int} {ps : List (List Int)} {g gu gb b3 : Nat} {f u ts vc vp : Value} {w wk w8 : World} {v8 : Value} {l : List Int} (tn : Nat) (h : StAt w ok g m ch ps us f u ts vc vp gu) (so : SOk m ch ps) (hE : Ext w wk)
    (hM : Mk wk w8 v8 l) (hcb : wk.cell? ⟨gb, 0, none⟩ = some (.pointer (some ⟨g, 0, none⟩))) (hc3 : wk.cell? ⟨b3, 0, none⟩ = some (.int .i64 (tn : Int))) (htn : tn < m.tasks.length) (hl : l.length ≤ 1000000000000) (hr : ∀ x ∈ l, 0 ≤ x ∧ x < m.n) :
    Calls Try.prog 100 #[v8, .func (.func 101) #[] #[.pointer (some ⟨gb, 0, none⟩), .pointer (some ⟨b3, 0, none⟩)]] w8 fun e w' => ∃ v', e = .returned v' ∧ Mk wk w' v' (l.filter fun n => !(!freeAt m tn n || decide (n ∈ us))) := by
  have hfl : tn < m.free.length := by have := so.good.fl; omega
  refine deleteFuncI_calls hM (fun x => 0 ≤ x ∧ x < m.n) hr ⟨by omega, by have := so.good.n1; unfold MZ.n; omega⟩ hl _ _ (fun x => !freeAt m tn x || decide (x ∈ us)) (callFunc_run (P := Try.prog) Try.func101 (by kernel_rfl) (by kernel_rfl)) ?_
  intro x hx W hS
  have h1 : StAt W (fun b => ok b ∧ b < w.heap.size) g m ch ps us f u ts vc vp gu := h.bound.keep (fun b hb hlt => (hS b (Nat.lt_of_lt_of_le hb.2 hE.size) (Nat.lt_of_lt_of_le hb.2 (hE.trans hM.ext).size)).trans ((hE.trans hM.ext).block b hb.2))
  exact left11_calls tn x W h1 so.good.fn hfl (sameCell hS (hM.ext.cell hcb) (lt_of_cell hcb)) (sameCell hS (hM.ext.cell hc3) (lt_of_cell hc3)) hx.1 hx.2

theorem left1_next {m : MZ} {ps : List (List Int)} {w W wr w5 : World} {J : Nat → World → Prop} {k tn t0 b3 : Nat} (htn : Hid (tn = t0 + k)) (hk : k ≤ m.tasks.length + 1 - ps.length) (hlt : tn < m.tasks.length) (h6 : m.tasks.length ≤ 1000000) (ht0 : ps.length = t0 + 1)
    (HJ : Hid (∀ (k : Nat) (A B : World), J k A → Below W.heap.size A B → J k B)) (HC : Hid (wr.cell? ⟨b3, 0, none⟩ = some (.int .i64 (tn : Int)))) (hE5 : Ext w w5) (hJ5 : Hid (J (k + 1) w5)) (hz5 : W.heap.size ≤ w5.heap.size) :
    (∃ k tn_1 b3, Value.pointer (some ⟨w5.heap.size, 0, none⟩) = Value.pointer (some ⟨b3, 0, none⟩) ∧ Hid (tn_1 = t0 + k) ∧ k ≤ m.tasks.length + 1 - ps.length ∧ Hid (W.heap.size ≤ b3) ∧
      Hid ((w5.alloc (Obj.cells #[Value.int IntKind.i64 (wrap64 ((tn : Int) + 1))] 3)).cell? ⟨b3, 0, none⟩ = some (Value.int IntKind.i64 (tn_1 : Int)) ∧ (w5.alloc (Obj.cells #[Value.int IntKind.i64 (wrap64 ((tn : Int) + 1))] 3)).frozen? ⟨b3, 0, none⟩ = false) ∧
      Hid (Ext w (w5.alloc (Obj.cells #[Value.int IntKind.i64 (wrap64 ((tn : Int) + 1))] 3))) ∧ Hid (J k (w5.alloc (Obj.cells #[Value.int IntKind.i64 (wrap64 ((tn : Int) + 1))] 3))) ∧
      Hid (W.heap.size ≤ (w5.alloc (Obj.cells #[Value.int IntKind.i64 (wrap64 ((tn : Int) + 1))] 3)).heap.size)) ∧
    (match Value.pointer (some ⟨w5.heap.size, 0, none⟩) with
      | Value.pointer (some a) => (match (w5.alloc (Obj.cells #[Value.int IntKind.i64 (wrap64 ((tn : Int) + 1))] 3)).cell? a with | some (Value.int k i) => m.tasks.length - i.toNat | x => 0)
      | x => 0) <
    (match Value.pointer (some ⟨b3, 0, none⟩) with
      | Value.pointer (some a) => (match wr.cell? a with | some (Value.int k i) => m.tasks.length - i.toNat | x => 0)
      | x => 0) := by
  have h1 := htn.out
  have hw : wrap64 ((tn : Int) + 1) = ((tn + 1 : Nat) : Int) := by rw [IntWalk.wrap64_in _ (by omega)]; omega
  rw [hw]
  refine ⟨⟨k + 1, tn + 1, w5.heap.size, rfl, (by omega : tn + 1 = t0 + (k + 1)), by omega, hz5, ⟨cell_new _ _ _ rfl, World.frozen?_alloc_at _ _ _ _ rfl⟩, hE5.alloc _, HJ.out _ _ _ hJ5.out ((Below.refl _ w5).alloc hz5 _), Nat.le_trans hz5 (by simp)⟩, ?_⟩
  simp only [cell_new _ _ _ rfl, HC.out]
  omega

set_option maxHeartbeats 4000000 in
set_option maxRecDepth 100000 in
theorem left1_gives {ok : Nat → Prop} {m : MZ} {ch us : List Int} {ps : List (List Int)} {g gu gb : Nat} {f u ts vc vp : Value} (w : World) (h : StAt w ok g m ch ps us f u ts vc vp gu) (so : SOk m ch ps) (hc : w.cell? ⟨gb, 0, none⟩ = some (.pointer (some ⟨g, 0, none⟩))) (hp : cmpB m ps = false) (n : Nat) (hn : 1 ≤ n) :
    GivesB n Try.prog 99 #[.pointer (some ⟨gb, 0, none⟩)] (fun x : Int × Value => #[.int .i64 x.1, x.2]) (fun k x W => x.1 = ((ps.length - 1 + k : Nat) : Int) ∧ Ints W (fun _ => True) x.2 (fromL m ps us (ps.length - 1 + k))) (m.tasks.length + 1 - ps.length) w := by
  intro l J Jx W hW hwl hl hJ hJx hY h0
  have HS := Lib.hid h.bound; clear h
  have HY := Lib.hid hY; clear hY
  have HJ := Lib.hid hJ; clear hJ
  have HJX := Lib.hid hJx; clear hJx
  have H0 := Lib.hid h0; clear h0
  have hps6 : ps.length ≤ 6 := Nat.le_trans so.pl so.good.tk
  obtain ⟨r0, r1, r2, r3, r4, r5, r6, r7, r8⟩ := HS.out.rules
  have rb := Ext.rule hc
  have SO := Lib.hid so
  have hps0 : 0 < ps.length := by
    by_cases h0 : m.tasks.length = 0
    · unfold cmpB at hp; rw [decide_eq_true h0] at hp; cases hp
    · exact so.pn (by omega)
  have hpl := so.pl
  have hmz := HS.out.maze
  obtain ⟨fr', up', ts', hee, _, _, hts⟩ := hmz
  injection hee with hee
  injection hee with hee
  simp only [List.cons.injEq, and_true, true_and] at hee
  obtain ⟨rfl, rfl, rfl⟩ := hee
  have HTS := Lib.hid hts
  obtain ⟨vst, ⟨At, ct, rfl, hct, _⟩, _⟩ := hts
  clear hc so
  refine callsIn_of_wp Try.func99 rfl trivial ?_ rfl
  simp only [Try.ntmps99, List.size_toArray, List.length_cons, List.length_nil, Nat.reduceAdd, Nat.reduceSub, Array.replicate_succ, Array.replicate_zero, List.push_toArray, List.append_toArray, List.nil_append, List.cons_append]
  gi_wp2_with (refine ⟨trivial, ?_⟩; gi_at_call 63; refine (callsIn_wide.2 (complete_calls _ (HS.out.ext hW) SO.out)).mono ?_; rintro e wA ⟨rfl, hdA⟩; rw [hp]; have hxA : Ext W wA := hdA.below _; have hA : Ext w wA := hW.trans hxA)
  refine ⟨trivial, ?_⟩
  refine (callsIn_wide.2 (task_calls _ (HS.out.ext hA) (by omega))).mono ?_
  rintro e wB ⟨he, hBA⟩
  subst hBA
  obtain ⟨t0, ht0⟩ : ∃ t0, ps.length = t0 + 1 := ⟨ps.length - 1, by omega⟩
  have hki : (ps.length : Int) - 1 = (t0 : Int) := by omega
  rw [hki] at he
  subst he
  clear hki hdA
  gi_wp2
  gi_loopw [3] (fun v wr => ∃ k tn b3, v = .pointer (some ⟨b3, 0, none⟩) ∧ Hid (tn = t0 + k) ∧ k ≤ m.tasks.length + 1 - ps.length ∧ Hid (W.heap.size ≤ b3) ∧ Hid (wr.cell? ⟨b3, 0, none⟩ = some (.int .i64 (tn : Int)) ∧ wr.frozen? ⟨b3, 0, none⟩ = false) ∧ Hid (Ext w wr) ∧ Hid (J k wr) ∧ Hid (W.heap.size ≤ wr.heap.size)) (fun v wr => match v with | .pointer (some a) => (match wr.cell? a with | some (.int _ i) => m.tasks.length - i.toNat | _ => 0) | _ => 0)
  case atStart =>
    have hz := hxA.size
    exact ⟨0, t0, wA.heap.size, rfl, rfl, by omega, hz, ⟨cell_new _ _ _ rfl, World.frozen?_alloc_at _ _ _ _ rfl⟩, hA.alloc _, HJ.out _ _ _ H0.out ((hxA).alloc _), Nat.le_trans hz (by simp)⟩
  case round =>
    obtain ⟨k, tn, b3, rfl, htn, hk, hb3, hcf, hE, hJk, hsz⟩ := hrel
    have hEo := hE.out
    obtain ⟨hcb3, hfb3⟩ := hcf.out
    have HCBR := Lib.hid hcb3
    gi_wp2
    refine wpIn_wide.2 ?_
    go_quiet (fail)
    generalize hw2 : wr.drewN nq = w2
    have hd2 : Drew wr w2 := ⟨nq, hw2.symm⟩
    have hx2 : Ext wr w2 := hd2.below _
    clear hw2 hd2
    have hE2 : Ext w w2 := hEo.trans hx2
    have hcb2 := hx2.cell hcb3
    have hf2 : w2.frozen? ⟨b3, 0, none⟩ = false := (Below.frozen hx2 (p := ⟨b3, 0, none⟩) (lt_of_cell hcb3)).trans hfb3
    have hJ2 := Lib.hid (HJ.out _ _ _ hJk.out (hx2.mono hsz.out))
    have hz2 : W.heap.size ≤ w2.heap.size := Nat.le_trans hsz.out hx2.size
    clear hcb3 hfb3 hcf hJk hE hEo hx2
    by_cases hlt : tn < m.tasks.length
    · have ht0p : t0 < ps.length := by omega
      obtain ⟨vs, ⟨Ap, cp, rfl, hcp, hrp⟩, hep⟩ := HS.out.ps
      obtain ⟨b, off, up, rfl, _, hcp0, hup⟩ := eachAt hrp hep ht0p ht0p
      have hlp := SO.out.pp _ (List.getElem_mem ht0p)
      have q0 := Ext.rule hcp0
      have ht1 : (t0 : Int) < (ps.length : Int) := by omega
      have ht00 : (0 : Int) ≤ (t0 : Int) := by omega
      obtain ⟨p, hpp⟩ : ∃ p, p = ps[t0] := ⟨_, rfl⟩
      rw [← hpp] at hup hlp
      have HPP := Lib.hid hpp; clear hpp
      have HUP := Lib.hid hup
      obtain ⟨Aq, cq, rfl, hcq, hrq⟩ := hup
      clear hrp hep hcp0 hrq
      have hk0i : (k = 0) ∨ (k ≠ 0) := by omega
      rcases hk0i with hk0 | hk0
      · have htt : Hid (tn = t0) := (by have := htn.out; omega : tn = t0)
        have hd : ((tn : Int) == (t0 : Int)) = true := by rw [beq_iff_eq, htt.out]
        have hmin : min (tn : Int) (t0 : Int) = (t0 : Int) := by rw [htt.out]; omega
        clear hk0
        gi_wp2
        refine wpIn_wide.2 ?_
        go_quiet ((go_at_call 87; refine (task_calls _ (HS.out.ext (hE2.drewN _)) (by omega)).mono ?_; rintro e w9 ⟨he9, rfl⟩; rw [show (ps.length : Int) - 1 = (t0 : Int) from by omega] at he9; exact ⟨he9, ⟨_, rfl⟩⟩))
        generalize hw3 : w2.drewN nq = w3
        have hd3 : Drew w2 w3 := ⟨nq, hw3.symm⟩
        have hx3 : Ext w2 w3 := hd3.below _
        clear hw3 hd3
        have hE3 : Ext w w3 := hE2.trans hx3
        have hcb3 := hx3.cell hcb2
        have hf3 : w3.frozen? ⟨b3, 0, none⟩ = false := (Below.frozen hx3 (p := ⟨b3, 0, none⟩) (lt_of_cell hcb2)).trans hf2
        have hJ3 := Lib.hid (HJ.out _ _ _ hJ2.out (hx3.mono hz2))
        have hz3 : W.heap.size ≤ w3.heap.size := Nat.le_trans hz2 hx3.size
        clear hcb2 hf2 hJ2 hE2 hx3 hz2
        rcases List.eq_nil_or_concat p with rfl | ⟨q, x, rfl⟩
        · have HFR : Hid (fromL m ps us tn = ((m.tasks.getD tn ([], [])).1).filter fun n => !(!freeAt m tn n || decide (n ∈ us))) := by
            show fromL m ps us tn = _
            unfold fromL
            rw [if_pos (by have := htt.out; omega), htt.out, List.getD_eq_getElem?_getD, List.getElem?_eq_getElem ht0p, Option.getD_some, ← HPP.out]
            rfl
          gi_wp2
          refine wpIn_wide.2 ?_
          go_quiet ((go_at_call 87; refine (task_calls _ (HS.out.ext (hE3.drewN _)) (by omega)).mono ?_; rintro e w9 ⟨he9, rfl⟩; rw [show (ps.length : Int) - 1 = (t0 : Int) from by omega] at he9; exact ⟨he9, ⟨_, rfl⟩⟩))
          gi_wp2
          refine wpIn_wide.2 ?_
          generalize hw6 : w3.drewN nq = w6
          have hd6 : Drew w3 w6 := ⟨nq, hw6.symm⟩
          have hx6 : Ext w3 w6 := hd6.below _
          have hx6c := hx6
          clear hw6 hd6
          have hE6 : Ext w w6 := hE3.trans hx6
          have hcb6 := hx6.cell hcb3
          have hJ6 := Lib.hid (HJ.out _ _ _ hJ3.out (hx6.mono hz3))
          have hz6 : W.heap.size ≤ w6.heap.size := Nat.le_trans hz3 hx6.size
          clear hJ3 hE3 hx6 hz3
          have HCB6 := Lib.hid hcb6
          have HFZ := Lib.hid ((Below.frozen hx6c (p := ⟨b3, 0, none⟩) (lt_of_cell hcb3)).trans hf3); clear hf3 hcb3 hx6c
          have hlt' : tn < m.tasks.length := hlt
          obtain ⟨bt, offt, sn, u1, u2, rfl, _, hk0', hk1, hk2, hi1, hi2⟩ := tasksAt HTS.out hlt'
          have hlf := (SO.out.lens.tl _ (List.getElem_mem hlt')).1
          have htnR := SO.out.good.tn _ (List.getElem_mem hlt')
          have HFR' : Hid (fromL m ps us tn = ((m.tasks[tn]).1).filter fun n => !(!freeAt m tn n || decide (n ∈ us))) := HFR.out.trans (by rw [List.getD_eq_getElem?_getD, List.getElem?_eq_getElem hlt', Option.getD_some])
          obtain ⟨tk, htk⟩ : ∃ tk, tk = m.tasks[tn] := ⟨_, rfl⟩
          rw [← htk] at hi1 hlf htnR HFR'
          clear htk hi2 hk0' hk2
          have HF := Lib.hid hi1
          obtain ⟨A5, c5, rfl, hc5, _⟩ := hi1
          have HTN := Lib.hid htnR; clear htnR
          have q1 := Ext.rule hk1
          have rb3 := Ext.rule hcb6
          have hx66 := Ext.refl w6
          have htl : (tn : Int) < (m.tasks.length : Int) := by omega
          have htl0 : (0 : Int) ≤ (tn : Int) := by omega
          have hfrl : tn < m.free.length := by have := SO.out.good.fl; omega
          clear hk1 hcb6
          have hR0 : (0 : Int) ≤ 0 ∧ (0 : Int) < m.n := by have := SO.out.good.n1; unfold MZ.n; omega
          have q3 := rb3
          go_region_held3 (fun W' => Ext w W' ∧ Ext w6 W')
            (first | (exact ⟨hE6.drew, hx66.drew⟩) | (exact ⟨hE6.drew.trans hM9.ext, hx66.drew.trans hM9.ext⟩) | (exact ⟨hE6.drew.trans hM8.ext, hx66.drew.trans hM8.ext⟩) | assumption)
            (first | ((go_at_call 64; refine (cloneJ_calls _ (HF.out.below hE6.drew) (by omega)).mono ?_; rintro e w8 ⟨v8, rfl, hM8⟩)) | ((go_at_call 100; refine (left11_del tn HS.out SO.out hE6.drew hM8 (rb _ hE6.drew) (q3 _ hx66.drew) hlt' (by omega) (fun x hx => HTN.out x (.inl hx))).mono ?_; rintro e w9 ⟨v9, rfl, hM9⟩)))
          all_goals
            have hE4 : Ext w w9 := hE6.drew.trans hM9.ext
            have hx64 : Ext w6 w9 := hx66.drew.trans hM9.ext
            have HV4 : Hid (Ints w9 (fun _ => True) v9 (fromL m ps us tn)) := by
              have h1 := hM9.ints
              rw [← HFR'.out] at h1
              exact h1.weaken fun _ _ => trivial
            have hcb4 := hx64.cell HCB6.out
            have hf4 : w9.frozen? ⟨b3, 0, none⟩ = false := (Below.frozen hx64 (p := ⟨b3, 0, none⟩) (lt_of_cell HCB6.out)).trans HFZ.out
            have hJ4 := Lib.hid (HJ.out _ _ _ hJ6.out (hx64.mono hz6))
            have hz4 : W.heap.size ≤ w9.heap.size := Nat.le_trans hz6 hx64.size
            have HTN' := htn.out
            clear hM9 hM8 hx64 q3 rb3 hx66 q1 hE6 hJ6 hz6 HCB6 HFZ
            obtain ⟨fn, tmps, assign, body, hy, hR⟩ := HY.out k ((tn : Int), v9) w9 (by omega) hJ4.out ⟨by simp; omega, by have := HV4.out; rwa [show ps.length - 1 + k = tn from by omega]⟩
            have HR := Lib.hid hR; clear hR HTN'
            dsimp only at hy
            gi_wp2
            refine HR.out.mono ?_
            rintro e w5 (⟨rfl, hJ5, hg5⟩ | ⟨rfl, hJx5⟩)
            · have hb3l : b3 ≠ l := by have := hb3.out; omega
              have hE5 : Ext w w5 := grown_below hE4 hg5 (Nat.le_trans hW.size hz4) hwl
              have hcb5 : w5.cell? ⟨b3, 0, none⟩ = some (.int .i64 (tn : Int)) := World.grownBy.cell hg5 hcb4 (fun e => hb3l (by injection e))
              have hz5 : W.heap.size ≤ w5.heap.size := Nat.le_trans hz4 hg5.size
              have HJ5 := Lib.hid hJ5; clear hJ5 hg5 hy
              gi_wp2
              exact left1_next htn hk hlt' (by have := SO.out.good.tk; omega) ht0 HJ HCBR hE5 HJ5 hz5
            · gi_wp2
              refine bodyPost_ret (results_none rfl _ _ _) rfl ?_
              exact ⟨⟨_, rfl⟩, .inr hJx5⟩
        · rw [List.concat_eq_append] at *
          have HFR' : Hid (fromL m ps us tn = [x]) := by
            show fromL m ps us tn = _
            unfold fromL
            rw [if_pos (by have := htt.out; omega), htt.out, List.getD_eq_getElem?_getD, List.getElem?_eq_getElem ht0p, Option.getD_some, ← HPP.out]
            simp
          obtain ⟨N, hN⟩ : ∃ N, N = (q ++ [x]).length := ⟨_, rfl⟩
          have hNq : N = q.length + 1 := by rw [hN]; simp
          have hup2 := HUP.out
          obtain ⟨A', c', hAA, hcc, hrr⟩ := hup2
          obtain ⟨b5, o5, hA5, hb5, hcc5⟩ := hrr.2 (by simp)
          injection hAA with hAA hAA2 hAA3
          subst hAA hAA3 hA5
          have hx5 : w.cell? ⟨b5, o5 + q.length, none⟩ = some (.int .i64 x) := hcc5 q.length _ (by simp)
          have HX5 := Lib.hid hx5
          have hok5 : b5 < w.heap.size := hb5.2
          clear hcc5 hx5 hrr hAA2 hcc HPP HUP hb5
          rw [← hN] at q0 hcq hlp
          have hNl : (0 : Int) < (N : Int) := by omega
          have hNd : decide ((0 : Int) < (N : Int)) = true := decide_eq_true hNl
          have hqw : IntKind.i64.wrap ((N : Int) - 1) = (q.length : Int) := by rw [IntKind.wrap_i64]; omega
          have hqw2 : wrap64 ((N : Int) - 1) = (q.length : Int) := by rw [IntWalk.wrap64_in _ (by omega)]; omega
          have hql : (0 : Int) ≤ (q.length : Int) ∧ (q.length : Int) ≤ (N : Int) := by omega
          rw [← hN]
          clear hN
          gi_wp2
          refine wpIn_wide.2 ?_
          go_quiet ((go_at_call 87; refine (task_calls _ (HS.out.ext (hE3.drewN _)) (by omega)).mono ?_; rintro e w9 ⟨he9, rfl⟩; rw [show (ps.length : Int) - 1 = (t0 : Int) from by omega] at he9; exact ⟨he9, ⟨_, rfl⟩⟩))
          generalize hw6 : w3.drewN nq = w9
          have hd6 : Drew w3 w9 := ⟨nq, hw6.symm⟩
          have hx6 : Ext w3 w9 := hd6.below _
          clear hw6 hd6
          have hE4 : Ext w w9 := hE3.trans hx6
          have hcb4 := hx6.cell hcb3
          have hf4 : w9.frozen? ⟨b3, 0, none⟩ = false := (Below.frozen hx6 (p := ⟨b3, 0, none⟩) (lt_of_cell hcb3)).trans hf3
          have hJ4 := Lib.hid (HJ.out _ _ _ hJ3.out (hx6.mono hz3))
          have hz4 : W.heap.size ≤ w9.heap.size := Nat.le_trans hz3 hx6.size
          clear hJ3 hE3 hx6 hz3 hcb3 hf3
          have hlt' : tn < m.tasks.length := hlt
          have HTN' := htn.out
          have HV4 : Hid (Ints w9 (fun _ => True) (.slice (some ⟨b5, o5 + q.length, none⟩) 1 (cq - q.length)) (fromL m ps us tn)) := by
            show Ints w9 _ _ (fromL m ps us tn)
            rw [HFR'.out]
            refine ⟨_, _, rfl, by simp; omega, by simp, fun _ => ⟨b5, o5 + q.length, rfl, trivial, ?_⟩⟩
            intro i u hi
            match i, hi with
            | 0, hi =>
              injection hi with hi
              rw [← hi]
              exact hE4.cell HX5.out
          obtain ⟨fn, tmps, assign, body, hy, hR⟩ := HY.out k ((tn : Int), (.slice (some ⟨b5, o5 + q.length, none⟩) 1 (cq - q.length))) w9 (by omega) hJ4.out ⟨by simp; omega, by have := HV4.out; rwa [show ps.length - 1 + k = tn from by omega]⟩
          have HR := Lib.hid hR; clear hR HTN'
          dsimp only at hy
          gi_wp2
          refine HR.out.mono ?_
          rintro e w5 (⟨rfl, hJ5, hg5⟩ | ⟨rfl, hJx5⟩)
          · have hb3l : b3 ≠ l := by have := hb3.out; omega
            have hE5 : Ext w w5 := grown_below hE4 hg5 (Nat.le_trans hW.size hz4) hwl
            have hcb5 : w5.cell? ⟨b3, 0, none⟩ = some (.int .i64 (tn : Int)) := World.grownBy.cell hg5 hcb4 (fun e => hb3l (by injection e))
            have hz5 : W.heap.size ≤ w5.heap.size := Nat.le_trans hz4 hg5.size
            have HJ5 := Lib.hid hJ5; clear hJ5 hg5 hy
            gi_wp2
            exact left1_next htn hk hlt' (by have := SO.out.good.tk; omega) ht0 HJ HCBR hE5 HJ5 hz5
          · gi_wp2
            refine bodyPost_ret (results_none rfl _ _ _) rfl ?_
            exact ⟨⟨_, rfl⟩, .inr hJx5⟩
      · have hlt0 : (t0 : Int) < (tn : Int) := by have := htn.out; omega
        have hd : ((tn : Int) == (t0 : Int)) = false := by rw [beq_eq_false_iff_ne]; omega
        have hmin : min (tn : Int) (t0 : Int) = (t0 : Int) := by omega
        clear hk0
        gi_wp2
        refine wpIn_wide.2 ?_
        go_quiet ((go_at_call 87; refine (task_calls _ (HS.out.ext (hE2.drewN _)) (by omega)).mono ?_; rintro e w9 ⟨he9, rfl⟩; rw [show (ps.length : Int) - 1 = (t0 : Int) from by omega] at he9; exact ⟨he9, ⟨_, rfl⟩⟩))
        generalize hw3 : w2.drewN nq = w3
        have hd3 : Drew w2 w3 := ⟨nq, hw3.symm⟩
        have hx3 : Ext w2 w3 := hd3.below _
        clear hw3 hd3
        have hE3 : Ext w w3 := hE2.trans hx3
        have hcb3 := hx3.cell hcb2
        have hf3 : w3.frozen? ⟨b3, 0, none⟩ = false := (Below.frozen hx3 (p := ⟨b3, 0, none⟩) (lt_of_cell hcb2)).trans hf2
        have hJ3 := Lib.hid (HJ.out _ _ _ hJ2.out (hx3.mono hz2))
        have hz3 : W.heap.size ≤ w3.heap.size := Nat.le_trans hz2 hx3.size
        clear hcb2 hf2 hJ2 hE2 hx3 hz2
        have HFR : Hid (fromL m ps us tn = ((m.tasks.getD tn ([], [])).1).filter fun n => !(!freeAt m tn n || decide (n ∈ us))) := by
          show fromL m ps us tn = _
          unfold fromL
          rw [if_neg (by omega)]
        gi_wp2
        refine wpIn_wide.2 ?_
        go_quiet ((go_at_call 87; refine (task_calls _ (HS.out.ext (hE3.drewN _)) (by omega)).mono ?_; rintro e w9 ⟨he9, rfl⟩; rw [show (ps.length : Int) - 1 = (t0 : Int) from by omega] at he9; exact ⟨he9, ⟨_, rfl⟩⟩))
        gi_wp2
        refine wpIn_wide.2 ?_
        generalize hw6 : w3.drewN nq = w6
        have hd6 : Drew w3 w6 := ⟨nq, hw6.symm⟩
        have hx6 : Ext w3 w6 := hd6.below _
        have hx6c := hx6
        clear hw6 hd6
        have hE6 : Ext w w6 := hE3.trans hx6
        have hcb6 := hx6.cell hcb3
        have hJ6 := Lib.hid (HJ.out _ _ _ hJ3.out (hx6.mono hz3))
        have hz6 : W.heap.size ≤ w6.heap.size := Nat.le_trans hz3 hx6.size
        clear hJ3 hE3 hx6 hz3
        have HCB6 := Lib.hid hcb6
        have HFZ := Lib.hid ((Below.frozen hx6c (p := ⟨b3, 0, none⟩) (lt_of_cell hcb3)).trans hf3); clear hf3 hcb3 hx6c
        have hlt' : tn < m.tasks.length := hlt
        obtain ⟨bt, offt, sn, u1, u2, rfl, _, hk0', hk1, hk2, hi1, hi2⟩ := tasksAt HTS.out hlt'
        have hlf := (SO.out.lens.tl _ (List.getElem_mem hlt')).1
        have htnR := SO.out.good.tn _ (List.getElem_mem hlt')
        have HFR' : Hid (fromL m ps us tn = ((m.tasks[tn]).1).filter fun n => !(!freeAt m tn n || decide (n ∈ us))) := HFR.out.trans (by rw [List.getD_eq_getElem?_getD, List.getElem?_eq_getElem hlt', Option.getD_some])
        obtain ⟨tk, htk⟩ : ∃ tk, tk = m.tasks[tn] := ⟨_, rfl⟩
        rw [← htk] at hi1 hlf htnR HFR'
        clear htk hi2 hk0' hk2
        have HF := Lib.hid hi1
        obtain ⟨A5, c5, rfl, hc5, _⟩ := hi1
        have HTN := Lib.hid htnR; clear htnR
        have q1 := Ext.rule hk1
        have rb3 := Ext.rule hcb6
        have hx66 := Ext.refl w6
        have htl : (tn : Int) < (m.tasks.length : Int) := by omega
        have htl0 : (0 : Int) ≤ (tn : Int) := by omega
        have hfrl : tn < m.free.length := by have := SO.out.good.fl; omega
        clear hk1 hcb6
        have hR0 : (0 : Int) ≤ 0 ∧ (0 : Int) < m.n := by have := SO.out.good.n1; unfold MZ.n; omega
        have q3 := rb3
        go_region_held3 (fun W' => Ext w W' ∧ Ext w6 W')
          (first | (exact ⟨hE6.drew, hx66.drew⟩) | (exact ⟨hE6.drew.trans hM9.ext, hx66.drew.trans hM9.ext⟩) | (exact ⟨hE6.drew.trans hM8.ext, hx66.drew.trans hM8.ext⟩) | assumption)
          (first | ((go_at_call 64; refine (cloneJ_calls _ (HF.out.below hE6.drew) (by omega)).mono ?_; rintro e w8 ⟨v8, rfl, hM8⟩)) | ((go_at_call 100; refine (left11_del tn HS.out SO.out hE6.drew hM8 (rb _ hE6.drew) (q3 _ hx66.drew) hlt' (by omega) (fun x hx => HTN.out x (.inl hx))).mono ?_; rintro e w9 ⟨v9, rfl, hM9⟩)))
        all_goals
          have hE4 : Ext w w9 := hE6.drew.trans hM9.ext
          have hx64 : Ext w6 w9 := hx66.drew.trans hM9.ext
          have HV4 : Hid (Ints w9 (fun _ => True) v9 (fromL m ps us tn)) := by
            have h1 := hM9.ints
            rw [← HFR'.out] at h1
            exact h1.weaken fun _ _ => trivial
          have hcb4 := hx64.cell HCB6.out
          have hf4 : w9.frozen? ⟨b3, 0, none⟩ = false := (Below.frozen hx64 (p := ⟨b3, 0, none⟩) (lt_of_cell HCB6.out)).trans HFZ.out
          have hJ4 := Lib.hid (HJ.out _ _ _ hJ6.out (hx64.mono hz6))
          have hz4 : W.heap.size ≤ w9.heap.size := Nat.le_trans hz6 hx64.size
          have HTN' := htn.out
          clear hM9 hM8 hx64 q3 rb3 hx66 q1 hE6 hJ6 hz6 HCB6 HFZ
          obtain ⟨fn, tmps, assign, body, hy, hR⟩ := HY.out k ((tn : Int), v9) w9 (by omega) hJ4.out ⟨by simp; omega, by have := HV4.out; rwa [show ps.length - 1 + k = tn from by omega]⟩
          have HR := Lib.hid hR; clear hR HTN'
          dsimp only at hy
          gi_wp2
          refine HR.out.mono ?_
          rintro e w5 (⟨rfl, hJ5, hg5⟩ | ⟨rfl, hJx5⟩)
          · have hb3l : b3 ≠ l := by have := hb3.out; omega
            have hE5 : Ext w w5 := grown_below hE4 hg5 (Nat.le_trans hW.size hz4) hwl
            have hcb5 : w5.cell? ⟨b3, 0, none⟩ = some (.int .i64 (tn : Int)) := World.grownBy.cell hg5 hcb4 (fun e => hb3l (by injection e))
            have hz5 : W.heap.size ≤ w5.heap.size := Nat.le_trans hz4 hg5.size
            have HJ5 := Lib.hid hJ5; clear hJ5 hg5 hy
            gi_wp2
            exact left1_next htn hk hlt' (by have := SO.out.good.tk; omega) ht0 HJ HCBR hE5 HJ5 hz5
          · gi_wp2
            refine bodyPost_ret (results_none rfl _ _ _) rfl ?_
            exact ⟨⟨_, rfl⟩, .inr hJx5⟩
    · gi_wp2
      go_end0
      have hkN : k = m.tasks.length + 1 - ps.length := by have := htn.out; omega
      exact ⟨⟨_, rfl⟩, .inl (by rw [← hkN]; exact hJ2.out)⟩
end Go.Proofs.Ytgpjfpcjiebjiaa
