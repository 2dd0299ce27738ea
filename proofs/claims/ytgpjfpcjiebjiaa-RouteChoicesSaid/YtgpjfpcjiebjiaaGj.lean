/- Walks: the candidates of a state. Blocks are bounded; walks: DeleteFunc at numbers and at lists, by the library's contract. -/
import Derived.Test.YtgpjfpcjiebjiaaGh
import Derived.Test.YtgpjfpcjiebjiaaGi
import Derived.Shelf.SlicesE.DeleteFunc
import Derived.Ground.SlgfProg
namespace Go.Proofs.Ytgpjfpcjiebjiaa
open Go.RowKit
set_option linter.unusedVariables false
set_option linter.unusedSimpArgs false
attribute [local go_sem ↓] Go.wp_at_zero Go.wp_at_succ

/-- May n follow the path q ++ [x] for the task t? -/
def followsB (m : MZ) (us : List Int) (t : Nat) (q from_ : List Int) (n : Int) : Bool := freeAt m t n && !decide (n ∈ us) && !(q.any fun y => decide (n ∈ nextL m y)) && !decide (n ∈ from_)
/-- What candidates returns. -/
def candL (m : MZ) (ps : List (List Int)) (us : List Int) : List Int :=
 if cmpB m ps = true then []
 else match (ps.getD (ps.length - 1) []).getLast? with
  | none => (Lib.compact (sortL (m.tasks.getD (ps.length - 1) ([], [])).1)).filter fun n => freeAt m (ps.length - 1) n && !decide (n ∈ us)
  | some x => (nextL m x).filter (followsB m us (ps.length - 1) (ps.getD (ps.length - 1) []).dropLast (m.tasks.getD (ps.length - 1) ([], [])).1)

theorem mem_sortL {l : List Int} {x : Int} : x ∈ sortL l ↔ x ∈ l := by unfold sortL; exact (List.mergeSort_perm _ _).mem_iff
theorem compact_len (l : List Int) : (Lib.compact l).length ≤ l.length := by
 unfold Lib.compact Lib.compactUpTo
 rw [List.length_map]
 exact Nat.le_trans (List.length_filter_le _ _) (by simp)
theorem mem_compact {l : List Int} {x : Int} (h : x ∈ Lib.compact l) : x ∈ l := by
 unfold Lib.compact Lib.compactUpTo at h
 obtain ⟨j, hj, rfl⟩ := List.mem_map.1 h
 have hj' : j < l.length := by simpa using (List.mem_filter.1 hj).1
 simp [getElem!_pos, hj']
theorem path_cell {w : World} {ok : Nat → Prop} {A : Option Addr} {n c : Nat} {l : List Int} (h : Ints w ok (.slice A n c) l) {k : Nat} {y : Int} (hy : l[k]? = some y) : ∃ b o, A = some ⟨b, o, none⟩ ∧ ∀ W, Ext w W → W.cell? ⟨b, o + k, none⟩ = some (.int .i64 y) := by
 obtain ⟨A', c', e, _, hr⟩ := h
 injection e with e1 e2 e3
 subst e1
 have hk : k < l.length := by
  rcases Nat.lt_or_ge k l.length with h | h
  ·exact h
  ·rw [List.getElem?_eq_none h] at hy; cases hy
 obtain ⟨b, o, e, _, hc⟩ := intsAt hr hk hk
 rw [List.getElem?_eq_getElem hk] at hy
 injection hy with hy
 rw [hy] at hc
 exact ⟨b, o, e, Ext.rule hc⟩
/-- The set of near nodes, while it is made. -/
structure NR (W wr : World) (gn : Nat) (s : List Int) : Prop where
 ext : Ext W wr
 set : SetIs wr gn s
theorem NR.more {W wr w' : World} {gn : Nat} {s : List Int} (h : NR W wr gn s) (hb : Ext wr w') : NR W w' gn s := ⟨h.ext.trans hb, h.set.below hb⟩
theorem NR.add {W wr w' : World} {gn : Nat} {s : List Int} {x : Int} (h : NR W wr gn s) (hg : gn = W.heap.size) (hs : SetIs w' gn (ins s x)) (hb : wr.grownBy w' (some gn)) : NR W w' gn (ins s x) := ⟨grown_below h.ext hb h.ext.size (by omega), hs⟩
theorem near_step {m : MZ} {q : List Int} {y a : Int} : ((∃ y' ∈ q, a ∈ nextL m y') ∨ a ∈ nextL m y) ↔ ∃ y' ∈ q ++ [y], a ∈ nextL m y' := by
 constructor
 ·rintro (⟨y', h1, h2⟩ | h)
  ·exact ⟨y', by simp [h1], h2⟩
  ·exact ⟨y, by simp, h⟩
 ·rintro ⟨y', h1, h2⟩
  rw [List.mem_append, List.mem_singleton] at h1
  rcases h1 with h1 | rfl
  ·exact .inl ⟨y', h1, h2⟩
  ·exact .inr h2
theorem near_any {m : MZ} {q s : List Int} {z : Int} (h : z ∈ s ↔ ∃ y ∈ q, z ∈ nextL m y) : decide (z ∈ s) = q.any fun y => decide (z ∈ nextL m y) := by
 by_cases hz : z ∈ s
 ·rw [decide_eq_true hz]
  symm
  obtain ⟨y, h1, h2⟩ := h.1 hz
  exact List.any_eq_true.2 ⟨y, h1, decide_eq_true h2⟩
 ·rw [decide_eq_false hz]
  symm
  rw [Bool.eq_false_iff]
  intro h3
  obtain ⟨y, h1, h2⟩ := List.any_eq_true.1 h3
  exact hz (h.2 ⟨y, h1, of_decide_eq_true h2⟩)
/-- What the statement that reads the task and the path has made. -/
structure JC (wB : World) (sn : ByteArray) (u1 u2 up : Value) (e : Nat → Bool) (v : Nat → Value) (W : World) : Prop where
 ext : Ext wB W
 al : e 15 = true → ∃ g3, v 15 = .pointer (some ⟨g3, 0, none⟩) ∧ wB.heap.size ≤ g3 ∧ (e 16 = false → Blk W g3 75 #[.string ⟨#[]⟩, .slice none 0 0, .slice none 0 0]) ∧ (e 16 = true → Blk W g3 75 #[.string sn, u1, u2])
 asg : e 17 = true → v 17 = up
 d16 : e 16 = true → e 15 = true
section
variable {wB W W' : World} {sn : ByteArray} {u1 u2 up : Value} {e : Nat → Bool} {v : Nat → Value}
theorem JC.init (he : ∀ j ∈ [15, 16, 17], e j = false) : JC wB sn u1 u2 up e v wB.drew :=
 ⟨held1_drew, fun a => ff (he 15 (by simp)) a, fun a => ff (he 17 (by simp)) a, fun a => ff (he 16 (by simp)) a⟩
theorem JC.s15 (h : JC wB sn u1 u2 up e v W) (h15 : e 15 = false) : JC wB sn u1 u2 up (upd e 15 true) (upd v 15 (.pointer (some ⟨W.heap.size, 0, none⟩))) (W.alloc (.cells #[.string ⟨#[]⟩, .slice none 0 0, .slice none 0 0] 75)) :=
 ⟨h.ext.alloc _, fun _ => ⟨_, rfl, h.ext.size, fun _ => Blk.new _ _ _ rfl, fun a => ff (b := e 16) (notT h.d16 h15) a⟩, h.asg, fun _ => rfl⟩
theorem JC.s16 {g3 : Nat} {x : Value} (h : JC wB sn u1 u2 up e v W) (h15 : e 15 = true) (hv : v 15 = .pointer (some ⟨g3, 0, none⟩)) (hg : wB.heap.size ≤ g3) (hE : Ext wB W') (hb : Blk W' g3 75 #[.string sn, u1, u2]) : JC wB sn u1 u2 up (upd e 16 true) (upd v 16 x) W' :=
 ⟨hE, fun _ => ⟨g3, hv, hg, fun a => (by cases a), fun _ => hb⟩, h.asg, fun _ => h15⟩
theorem JC.s17 (h : JC wB sn u1 u2 up e v W) : JC wB sn u1 u2 up (upd e 17 true) (upd v 17 up) W := ⟨h.ext, h.al, fun _ => rfl, h.d16⟩
end

set_option maxHeartbeats 4000000 in
set_option maxRecDepth 100000 in
theorem candidates_calls {ok : Nat → Prop} {m : MZ} {ch us : List Int} {ps : List (List Int)} {g gu : Nat} {f u ts vc vp : Value} (w : World) (h : StAt w ok g m ch ps us f u ts vc vp gu) (so : SOk m ch ps) :
  Calls Try.prog 68 #[.pointer (some ⟨g, 0, none⟩)] w fun e w' => ∃ v', e = .returned v' ∧ Mk w w' v' (candL m ps us) := by
 have HS := Lib.hid h
 have SO := Lib.hid so
 have hps6 : ps.length ≤ 6 := Nat.le_trans so.pl so.good.tk
 obtain ⟨r0, r1, r2, r3, r4, r5, r6, r7, r8⟩ := h.rules
 have hx := Ext.refl w
 go_enter Try.func68, Try.ntmps68
 go_wp2_with fail
 generalize hw1 : w.alloc (.cells #[.pointer (some ⟨g, 0, none⟩)] 88) = w1
 have hb1 : Ext w w1 := by rw [← hw1]; exact (Ext.refl w).alloc _
 have hcb : w1.cell? ⟨w.heap.size, 0, none⟩ = some (.pointer (some ⟨g, 0, none⟩)) := by rw [← hw1]; exact cell_new _ _ _ rfl
 have hlt1 : w.heap.size < w1.heap.size := lt_of_cell hcb
 have rb := Ext.rule hcb
 clear hw1
 refine (complete_calls _ (HS.out.ext hb1) SO.out).mono ?_
 rintro e wA ⟨rfl, hdA⟩
 have hxA : Ext w1 wA := hdA.below _
 have hA := hb1.trans hxA
 clear hdA hcb
 cases hcmp : cmpB m ps with
 | true =>
  have HC := Lib.hid hcmp; clear hcmp
  go_wp2_with fail
  go_ret
  exact ⟨_, rfl, hA.mono_mk (Mk.cast (Mk.nil _) (by unfold candL; rw [if_pos HC.out]))⟩
 | false =>
  have HC := Lib.hid hcmp
  have hp : 0 < ps.length := by
   by_cases h0 : m.tasks.length = 0
   ·unfold cmpB at hcmp; rw [decide_eq_true h0] at hcmp; cases hcmp
   ·exact so.pn (by omega)
  clear hcmp
  go_wp2_with fail
  refine (task_calls _ (HS.out.ext hA) (by omega)).mono ?_
  rintro e wB ⟨he, hBA⟩
  subst hBA
  obtain ⟨t, hk⟩ : ∃ t, ps.length = t + 1 := ⟨ps.length - 1, by omega⟩
  have hki : (ps.length : Int) - 1 = (t : Int) := by omega
  rw [hki] at he
  subst he
  clear hki
  have hbB : Ext w (wA.alloc (.cells #[.int .i64 t] 3)) := hA.alloc _
  have hc2 : (wA.alloc (.cells #[.int .i64 t] 3)).cell? ⟨wA.heap.size, 0, none⟩ = some (.int .i64 t) := cell_new _ _ _ rfl
  have hxB : Ext w1 (wA.alloc (.cells #[.int .i64 t] 3)) := hxA.alloc _
  have ho := h.ps
  have hmz := h.maze
  obtain ⟨vs, ⟨Ap, cp, rfl, hcp, hrp⟩, hep⟩ := ho
  obtain ⟨fr', up', ts', hee, _, _, hts⟩ := hmz
  injection hee with hee
  injection hee with hee
  simp only [List.cons.injEq, and_true, true_and] at hee
  obtain ⟨rfl, rfl, rfl⟩ := hee
  have htt := hts
  obtain ⟨vst, ⟨At, ct, rfl, hct, _⟩, _⟩ := htt
  have htp : t < ps.length := by omega
  obtain ⟨b, off, up, rfl, _, hcp0, hup⟩ := eachAt hrp hep htp htp
  have hkt : t < m.tasks.length := by have := so.pl; omega
  obtain ⟨bt, offt, sn, u1, u2, rfl, _, hk0, hk1, hk2, hi1, hi2⟩ := tasksAt hts hkt
  have hlp := so.pp _ (List.getElem_mem htp)
  have hrp2 := so.pr _ (List.getElem_mem htp)
  have hlf := (so.lens.tl _ (List.getElem_mem hkt)).1
  have htn := so.good.tn _ (List.getElem_mem hkt)
  have hcand : candL m ps us = match (ps[t]).getLast? with
    | none => (Lib.compact (sortL (m.tasks[t]).1)).filter fun n => freeAt m t n && !decide (n ∈ us)
    | some x => (nextL m x).filter (followsB m us t (ps[t]).dropLast (m.tasks[t]).1) := by
   unfold candL
   rw [HC.out, if_neg (by simp), show ps.length - 1 = t from by omega]
   simp [htp, hkt]
  have HCA := Lib.hid hcand; clear hcand
  obtain ⟨p, hpp⟩ : ∃ p, p = ps[t] := ⟨_, rfl⟩
  obtain ⟨tk, htk⟩ : ∃ tk, tk = m.tasks[t] := ⟨_, rfl⟩
  rw [← hpp] at hup hlp HCA hrp2
  rw [← htk] at hi1 hi2 hlf HCA htn
  have hi1' := hi1
  obtain ⟨A5, c5, rfl, hc5, _⟩ := hi1'
  have hi2' := hi2
  obtain ⟨A6, c6, rfl, hc6, _⟩ := hi2'
  clear hpp htk hrp hep hts hi2
  have HP := Lib.hid hup; clear hup
  have HF := Lib.hid hi1; clear hi1
  have HRP := Lib.hid hrp2; clear hrp2
  have HTN := Lib.hid htn; clear htn
  have ht1 : (t : Int) < (ps.length : Int) := by omega
  have ht0 : (0 : Int) ≤ (t : Int) := by omega
  have ht2 : (t : Int) < (m.tasks.length : Int) := by omega
  have hfr : t < m.free.length := by have := so.good.fl; omega
  have q0 := Ext.rule hcp0
  have q1 := Ext.rule hk0
  have q2 := Ext.rule hk1
  have q3 := Ext.rule hk2
  clear hcp0 hk0 hk1 hk2 h so hk
  generalize hwB : wA.alloc (.cells #[.int .i64 t] 3) = wB at *
  have rt := Ext.rule hc2
  have hxx := Ext.refl wB
  go_wp2_with fail
  clear hwB
  refine wp_region_held_drew (S := (fun W => Ext w W ∧ Ext w1 W ∧ Ext wB W)) (by kernel_rfl) (⟨hbB.drew, hxB.drew, hxx.drew⟩) (fun hHeld => ?_)
  refine wpAnyH_take (i := 0) (v := ?v2) rfl (by kernel_rfl) (by kernel_rfl) (by kernel_rfl) (fun _ _ _ h => h) (Or.inl ⟨?w2, ?y2⟩) hHeld ?r2
  case w2 => rfl
  case y2 => (intro w hSw; go_simp; try with_reducible rfl)
  simp only [rtPr, Act.put]
  refine wpAnyH_take (i := 1) (v := ?v3) rfl (by kernel_rfl) (by kernel_rfl) (by kernel_rfl) (fun _ _ _ h => h) (Or.inl ⟨?w3, ?y3⟩) hHeld ?r3
  case w3 => rfl
  case y3 => (intro w hSw; go_simp; try with_reducible rfl)
  simp only [rtPr, Act.put]
  refine wpAnyH_take (i := 2) (v := ?v4) rfl (by kernel_rfl) (by kernel_rfl) (by kernel_rfl) (fun _ _ _ h => h) (Or.inl ⟨?w4, ?y4⟩) hHeld ?r4
  case w4 => rfl
  case y4 => (intro w hSw; go_simp; try with_reducible rfl)
  simp only [rtPr, Act.put]
  refine wpAnyH_take (i := 3) (v := ?v5) rfl (by kernel_rfl) (by kernel_rfl) (by kernel_rfl) (fun _ _ _ h => h) (Or.inl ⟨?w5, ?y5⟩) hHeld ?r5
  case w5 => rfl
  case y5 => (intro w hSw; go_simp; try with_reducible rfl)
  simp only [rtPr, Act.put]
  refine wpAnyH_take (i := 4) (v := ?v6) rfl (by kernel_rfl) (by kernel_rfl) (by kernel_rfl) (fun _ _ _ h => h) (Or.inl ⟨?w6, ?y6⟩) hHeld ?r6
  case w6 => rfl
  case y6 => (intro w hSw; go_simp; try with_reducible rfl)
  simp only [rtPr, Act.put]
  refine wpAnyH_take (i := 5) (v := ?v7) rfl (by kernel_rfl) (by kernel_rfl) (by kernel_rfl) (fun _ _ _ h => h) (Or.inl ⟨?w7, ?y7⟩) hHeld ?r7
  case w7 => rfl
  case y7 => (intro w hSw; go_simp; try with_reducible rfl)
  simp only [rtPr, Act.put]
  refine wpAnyH_take (i := 6) (v := ?v8) rfl (by kernel_rfl) (by kernel_rfl) (by kernel_rfl) (fun _ _ _ h => h) (Or.inl ⟨?w8, ?y8⟩) hHeld ?r8
  case w8 => rfl
  case y8 => (intro w hSw; go_simp; try with_reducible rfl)
  simp only [rtPr, Act.put]
  refine wpAnyH_take (i := 7) (v := ?v9) rfl (by kernel_rfl) (by kernel_rfl) (by kernel_rfl) (fun _ _ _ h => h) (Or.inl ⟨?w9, ?y9⟩) hHeld ?r9
  case w9 => rfl
  case y9 => (intro w hSw; go_simp; try with_reducible rfl)
  simp only [rtPr, Act.put]
  refine wpAnyH_take (i := 8) (v := ?v10) rfl (by kernel_rfl) (by kernel_rfl) (by kernel_rfl) (fun _ _ _ h => h) (Or.inl ⟨?w10, ?y10⟩) hHeld ?r10
  case w10 => rfl
  case y10 => (intro w hSw; go_simp; try with_reducible rfl)
  simp only [rtPr, Act.put]
  refine wpAnyH_take (i := 9) (v := ?v11) rfl (by kernel_rfl) (by kernel_rfl) (by kernel_rfl) (fun _ _ _ h => h) (Or.inl ⟨?w11, ?y11⟩) hHeld ?r11
  case w11 => rfl
  case y11 => (intro w hSw; go_simp; try with_reducible rfl)
  simp only [rtPr, Act.put]
  refine wpAnyH_take (i := 10) (v := ?v12) rfl (by kernel_rfl) (by kernel_rfl) (by kernel_rfl) (fun _ _ _ h => h) (Or.inl ⟨?w12, ?y12⟩) hHeld ?r12
  case w12 => rfl
  case y12 => (intro w hSw; go_simp; try with_reducible rfl)
  simp only [rtPr, Act.put]
  refine wpAnyH_take (i := 11) (v := ?v13) rfl (by kernel_rfl) (by kernel_rfl) (by kernel_rfl) (fun _ _ _ h => h) (Or.inl ⟨?w13, ?y13⟩) hHeld ?r13
  case w13 => rfl
  case y13 => (intro w hSw; go_simp; try with_reducible rfl)
  simp only [rtPr, Act.put]
  refine wpAnyH_take (i := 12) (v := ?v14) rfl (by kernel_rfl) (by kernel_rfl) (by kernel_rfl) (fun _ _ _ h => h) (Or.inl ⟨?w14, ?y14⟩) hHeld ?r14
  case w14 => rfl
  case y14 => (intro w hSw; go_simp; try with_reducible rfl)
  simp only [rtPr, Act.put]
  refine wpAnyH_take (i := 13) (v := ?v15) rfl (by kernel_rfl) (by kernel_rfl) (by kernel_rfl) (fun _ _ _ h => h) (Or.inl ⟨?w15, ?y15⟩) hHeld ?r15
  case w15 => rfl
  case y15 => (intro w hSw; go_simp; try with_reducible rfl)
  simp only [rtPr, Act.put]
  refine wpAnyH_take (i := 14) (v := ?v16) rfl (by kernel_rfl) (by kernel_rfl) (by kernel_rfl) (fun _ _ _ h => h) (Or.inl ⟨?w16, ?y16⟩) hHeld ?r16
  case w16 => rfl
  case y16 => (intro w hSw; go_simp; try with_reducible rfl)
  simp only [rtPr, Act.put]
  refine wpAnyH_by_invF [15, 16, 17] (fun e v W => JC wB sn (.slice A5 tk.1.length c5) (.slice A6 tk.2.length c6) up e v W) (F := ?F1) (by kernel_rfl) (by kernel_rfl) (by decide) hHeld (fun v => ?hF1) ?init1 (by kernel_rfl) ?steps1 ?fin1
  case hF1 => (simp only [putAll, dstOf, List.getElem?_toArray, List.getElem?_cons_succ, List.getElem?_cons_zero, Option.bind, Act.put, List.setIfInBounds_toArray, List.set_cons_succ, List.set_cons_zero]; rfl)
  case init1 =>
   intro e v he
   exact JC.init he
  case steps1 =>
   refine StepsOf.cons rfl (fun e v W K hJ hW he hd hK => ?_) ?_
   ·simp only [List.getElem_toArray, List.getElem_cons_succ, List.getElem_cons_zero] at hd hK ⊢
    go_simp
    exact hK.out _ _ _ (by rfl) ⟨hW.1.alloc _, hW.2.1.alloc _, hW.2.2.alloc _⟩ (hJ.s15 he)
   refine StepsOf.cons rfl (fun e v W K hJ hW he hd hK => ?_) ?_
   ·simp only [List.getElem_toArray, List.getElem_cons_succ, List.getElem_cons_zero] at hd hK ⊢
    have h15 : e 15 = true := deps_of hd [15] (by kernel_rfl) 15 (by simp)
    obtain ⟨g3, hv15, hg3, hb3, _⟩ := hJ.al h15
    have hb3 := hb3 he
    have hf := fun k => hb3.frozen k
    have hc0 := hb3.cell (k := 0) rfl
    have hc1 := hb3.cell (k := 1) rfl
    have hc2' := hb3.cell (k := 2) rfl
    go_simp
    have hE3 := ((hJ.ext.setCell (p := ⟨g3, 0, none⟩) hg3 (.string sn)).setCell (p := ⟨g3, 1, none⟩) hg3 (.slice A5 tk.1.length c5)).setCell (p := ⟨g3, 2, none⟩) hg3 (.slice A6 tk.2.length c6)
    exact hK.out _ undef _ (by simp [Act.put, hv15]) ⟨hbB.trans hE3, hxB.trans hE3, hE3⟩ (hJ.s16 h15 hv15 hg3 hE3 (((hb3.set (k := 0) _).set (k := 1) _).set (k := 2) _))
   refine StepsOf.cons rfl (fun e v W K hJ hW he hd hK => ?_) ?_
   ·simp only [List.getElem_toArray, List.getElem_cons_succ, List.getElem_cons_zero] at hd hK ⊢
    go_simp
    exact hK.out _ up _ (by rfl) hW hJ.s17
   exact StepsOf.nil
  case fin1 =>
   intro v W hJ hW
   obtain ⟨g3, hv15, hg3, _, hb3⟩ := hJ.al rfl
   have hb3 := hb3 rfl
   have hv17 := hJ.asg rfl
   rw [hv15, hv17]
   clear hJ hv15 hv17
   obtain ⟨hW0, hW1, hWB⟩ := hW
   have rg3 := Ext.rule (hb3.cell (k := 1) rfl)
   clear hb3
   have HW0 := Lib.hid hW0
   have hcw := rt W hWB
   have hcf := callFunc_run (P := Try.prog) Try.func88 (by kernel_rfl) (by kernel_rfl)
   have hcbW := rb W hW1
   generalize hgA : wA.heap.size = g2 at *
   clear hgA
   have hpc := HP.out
   obtain ⟨Aq, cq, rfl, hcq, hrq⟩ := hpc
   clear hrq
   have hxx := Ext.refl W
   rcases List.eq_nil_or_concat p with rfl | ⟨q, x, rfl⟩
   ·have HC2 : Hid (candL m ps us = (Lib.compact (sortL tk.1)).filter fun n => freeAt m t n && !decide (n ∈ us)) := HCA.out
    go_wp2_with fail
    refine (values_calls A5 tk.1.length c5 W).mono ?_
    rintro e w2 ⟨rfl, rfl⟩
    have hE2 : Ext W (W.alloc (.cells #[.slice A5 tk.1.length c5] 24)) := hxx.alloc _
    have hcv : (W.alloc (.cells #[.slice A5 tk.1.length c5] 24)).cell? ⟨W.heap.size, 0, none⟩ = some (.slice A5 tk.1.length c5) := cell_new _ _ _ rfl
    have hS := Lib.hid (sorted_calls W.heap.size _ hcv (HF.out.below (HW0.out.trans hE2)) (by omega))
    go_wp2_with fail
    refine hS.out.mono ?_
    rintro e w3 ⟨v3, rfl, hM3⟩
    have hsl : (sortL tk.1).length ≤ 1000000000000 := by unfold sortL; rw [List.length_mergeSort]; omega
    have hCo := Lib.hid (compact_calls hM3 hsl)
    have hE3 := Lib.hid hM3.ext
    clear hM3 hS
    go_wp2_with fail
    refine hCo.out.mono ?_
    rintro e w4 ⟨v4, rfl, hM4⟩
    have hmL : Hid (∀ y, y ∈ Lib.compact (sortL tk.1) → y ∈ tk.1) := fun y hy => mem_sortL.1 (mem_compact hy)
    have hlL : (Lib.compact (sortL tk.1)).length ≤ 1000000000000 := Nat.le_trans (compact_len _) hsl
    generalize Lib.compact (sortL tk.1) = L at *
    have hE4 : Ext W w4 := hE2.trans hM4.ext
    obtain ⟨A7, c7, hv4, hc7⟩ := hM4.slice
    subst hv4
    have HM4 := Lib.hid hM4; clear hM4 hCo hE3 hcv hE2
    have hx4 : Ext w w4 := HW0.out.trans hE4
    have hMk := Lib.hid (Mk.nil w4)
    go_wp2_with fail
    go_loopw [7, 46] (fun v i wr => ∃ k : Nat, k ≤ L.length ∧ i = .int .i64 (k : Nat) ∧ Hid (Mk w4 wr v ((L.take k).filter fun n => freeAt m t n && !decide (n ∈ us)))) (fun _ i _ => L.length - (intOf i).toNat)
    case atStart => exact ⟨0, by omega, rfl, hMk⟩
    clear hMk
    case round =>
     obtain ⟨k, hk, rfl, hM⟩ := hrel
     have hxr := hM.out.ext
     by_cases hlt : k < L.length
     ·obtain ⟨b9, rfl, hb9, hcell⟩ := own_at (HM4.out.own.ext hxr) hlt
      have hts := Lib.hid (List.take_succ_eq_append_getElem hlt)
      have hyr := HTN.out _ (.inl (hmL.out _ (List.getElem_mem hlt)))
      obtain ⟨y, hy⟩ : ∃ y, y = L[k] := ⟨_, rfl⟩
      rw [← hy] at hcell hts hyr
      clear hy
      have hcall := Lib.hid (cand1_calls t y wr (HS.out.ext (hx4.trans hxr)) SO.out.good.fn hfr ((hE4.trans hxr).cell hcbW) ((hE4.trans hxr).cell hcw) hyr.1 hyr.2)
      obtain ⟨bb, hbb⟩ : ∃ bb, bb = (freeAt m t y && !decide (y ∈ us)) := ⟨_, rfl⟩
      rw [← hbb] at hcall
      have HBB := Lib.hid hbb; clear hbb hyr
      have hfl : ((L.take k).filter fun n => freeAt m t n && !decide (n ∈ us)).length ≤ 1000000000000 := Nat.le_trans (List.length_filter_le _ _) (by simp; omega)
      have hfs : Hid ((L.take (k + 1)).filter (fun n => freeAt m t n && !decide (n ∈ us)) = (L.take k).filter (fun n => freeAt m t n && !decide (n ∈ us)) ++ (if bb then [y] else [])) := by rw [hts.out, List.filter_append, HBB.out]; show _ ++ List.filter _ [y] = _; by_cases h : (freeAt m t y && !decide (y ∈ us)) = true <;> simp [List.filter_cons, h]
      generalize (L.take k).filter (fun n => freeAt m t n && !decide (n ∈ us)) = lk at *
      go_wp2_with fail
      refine hcall.out.mono ?_
      rintro e w5 ⟨rfl, hd5⟩
      have hE5 : Ext wr w5 := hd5.below _
      have hM5 := Lib.hid (hM.out.more hE5)
      clear hd5 hcall
      cases bb with
      | true =>
       have hz5 : w4.heap.size ≤ w5.heap.size := hM5.out.ext.size
       go_wp2_with (at_builtin; refine wpAppAt rfl _ _ rfl _ lk y w4.heap.size w5.heap.size 1 _ rfl rfl (hM5.out.own.alloc _) ?d1 ?d2 ?d3 ?_)
       (try case d1 => exact cell_new _ _ _ (by simp))
       case d2 => (first | (simp; done) | (simp; omega) | omega)
       case d3 => omega
       intro v' wb hob hgb _
       have hM' := Lib.hid ((hM5.out.alloc _).app hob hgb)
       clear hob hgb
       go_wp2
       go_roundw
       case rel => exact ⟨k + 1, by omega, by go_num, by rw [hfs.out]; exact hM'⟩
       case measure => simp [intOf]; omega
      | false =>
       go_wp2
       go_roundw
       case rel => exact ⟨k + 1, by omega, by go_num, by rw [hfs.out]; simpa using hM5⟩
       case measure => simp [intOf]; omega
     ·obtain rfl : k = L.length := by omega
      go_wp2_with fail
      go_ret
      refine ⟨_, rfl, (hx4.mono_mk hM.out).cast ?_⟩
      rw [HC2.out, List.take_length]
   ·rw [List.concat_eq_append] at HP HCA HRP
    have hpl : (q.concat x).length = q.length + 1 := by simp
    have hpl2 : (q ++ [x]).length = q.length + 1 := by simp
    rw [hpl] at hcq hlp ⊢
    rw [hpl2] at HP
    obtain ⟨N, hN⟩ : ∃ N, N = q.length + 1 := ⟨_, rfl⟩
    rw [← hN] at hcq hlp HP ⊢
    have hNi : (q.length : Int) < (N : Int) := by omega
    have hqw : IntKind.i64.wrap ((N : Int) - 1) = (q.length : Int) := by rw [IntKind.wrap_i64]; omega
    have hqw2 : (N : Int) - 1 = (q.length : Int) := by omega
    have hq0 : (0 : Int) ≤ (q.length : Int) := by omega
    have hN0 : 0 < N := by omega
    have hqN : q.length ≤ N := by omega
    have HC2 : Hid (candL m ps us = (nextL m x).filter (followsB m us t q tk.1)) := by have h := HCA.out; simp at h; exact h
    have hcells : Hid (∀ k y, (q ++ [x])[k]? = some y → ∃ bq oq, Aq = some ⟨bq, oq, none⟩ ∧ ∀ W', Ext w W' → W'.cell? ⟨bq, oq + k, none⟩ = some (.int .i64 y)) := fun k y hy => path_cell HP.out hy
    clear hpl hpl2 hN
    have hmm := @run_makeMap Try.prog
    go_wp2_with fail
    have hNR : Hid (NR W (W.alloc (.map #[] 0)) W.heap.size []) := ⟨hxx.alloc _, SetIs.new W⟩
    generalize hgn : W.heap.size = gn at *
    have hgn1 : gn = W.heap.size := hgn.symm
    have HGN := Lib.hid hgn1; clear hgn hgn1
    go_loopw [66] (fun i wr => ∃ k s, k ≤ q.length ∧ i = .int .i64 (k : Nat) ∧ Hid (NR W wr gn s) ∧ Hid (∀ z, z ∈ s ↔ ∃ y ∈ q.take k, z ∈ nextL m y)) (fun i _ => q.length - (intOf i).toNat)
    case atStart => exact ⟨0, [], by omega, rfl, hNR, by simp [Hid]⟩
    clear hNR
    case round =>
     obtain ⟨k, s, hk, rfl, hR, hmem⟩ := hrel
     have hxr : Ext W wr := hR.out.ext
     have hx0 : Ext w wr := HW0.out.trans hxr
     have hx1 : Ext w1 wr := hW1.trans hxr
     obtain ⟨wk, rfl⟩ : ∃ wk : World, wk = wr := ⟨_, rfl⟩
     by_cases hlt : k < q.length
     ·obtain ⟨bq, oq, rfl, hcell⟩ := hcells.out k q[k] (by rw [List.getElem?_append_left hlt]; exact List.getElem?_eq_getElem hlt)
      have hyr := HRP.out q[k] (by simp)
      have hts := Lib.hid (List.take_succ_eq_append_getElem hlt)
      obtain ⟨y, hy⟩ : ∃ y, y = q[k] := ⟨_, rfl⟩
      rw [← hy] at hcell hyr hts
      clear hy
      have hlk : (k : Int) < (q.length : Int) := by omega
      have hnx := Lib.hid (next_calls m y wk (HS.out.maze.below hx0) SO.out.good.dim hyr.1 hyr.2)
      clear hyr
      go_wp2_with fail
      refine hnx.out.mono ?_
      rintro e w9 ⟨v9, rfl, hb9, ho9⟩
      have hR9 := Lib.hid (hR.out.more hb9)
      have hO9 : Hid (OwnI w9 wk.heap.size v9 (nextL m y)) := ho9
      obtain ⟨A9, c9, rfl, hc9⟩ := own_slice ho9
      have hgk : gn < wk.heap.size := lt_of_some hR.out.set
      clear hb9 ho9 hnx hR
      have hl6 := nextL_len m y
      go_wp2_with fail
      go_loopw [77] (fun i wi => ∃ j s', j ≤ (nextL m y).length ∧ i = .int .i64 (j : Nat) ∧ Hid (NR W wi gn s') ∧ Hid (OwnI wi wk.heap.size (.slice A9 (nextL m y).length c9) (nextL m y)) ∧ Hid (∀ z, z ∈ s' ↔ z ∈ s ∨ z ∈ (nextL m y).take j)) (fun i _ => (nextL m y).length - (intOf i).toNat)
      case atStart => exact ⟨0, s, Nat.zero_le _, rfl, hR9, hO9, by simp [Hid]⟩
      clear hR9 hO9
      case round =>
       obtain ⟨j, s', hj, rfl, hR, hO, hm'⟩ := hrel
       by_cases hjl : j < (nextL m y).length
       ·obtain ⟨b2, rfl, hb2, hcell2⟩ := own_at hO.out hjl
        have hts2 := Lib.hid (fun z => mem_take_succ hjl z)
        obtain ⟨z, hz⟩ : ∃ z, z = (nextL m y)[j] := ⟨_, rfl⟩
        rw [← hz] at hcell2 hts2
        clear hz
        go_wp2_with (at_mapUpdate; refine wpSetAdd rfl _ _ _ _ rfl Try.underlying82 gn s' z rfl rfl rfl hR.out.set ?_)
        intro wb hsb hgb
        have hR2 := Lib.hid (hR.out.add HGN.out hsb hgb)
        have hO2 : Hid (OwnI wb wk.heap.size (.slice (some ⟨b2, 0, none⟩) (nextL m y).length c9) (nextL m y)) := World.ownsRow.kept hO.out hgb (own_set_ne hO.out hR.out.set)
        clear hsb hgb
        go_wp2
        go_roundw
        case rel => exact ⟨j + 1, ins s' z, by omega, by go_num, hR2, hO2, fun a => by rw [mem_ins, hm'.out, hts2.out, or_assoc]⟩
        case measure => simp [intOf]; omega
       ·obtain rfl : j = (nextL m y).length := by omega
        go_wp2
        go_roundw
        case rel => exact ⟨k + 1, s', by omega, by go_num, hR, fun a => by rw [hm'.out, List.take_length, hmem.out, hts.out]; exact near_step⟩
        case measure => simp [intOf]; omega
     ·obtain rfl : k = q.length := by omega
      rw [List.take_length] at hmem
      obtain ⟨bq, oq, rfl, hcell⟩ := hcells.out q.length x (by simp)
      have hyr := HRP.out x (by simp)
      have hxk := Ext.refl wk
      have hnear : Hid (∀ z, decide (z ∈ s) = q.any fun y => decide (z ∈ nextL m y)) := fun z => near_any (hmem.out z)
      have hqw3 : IntKind.i64.wrap ((N : Int) - 1) = (q.length : Int) := by rw [IntKind.wrap_i64]; omega
      clear hqw hqw2
      go_wp2_with fail
      go_region_held3 (fun W' => Ext w W' ∧ Ext w1 W' ∧ Ext wk W')
       (first | (exact ⟨hx0.drew, hx1.drew, hxk.drew⟩) | (exact ⟨hx0.drew.trans hb9, hx1.drew.trans hb9, hxk.drew.trans hb9⟩))
       ((go_at_call 55; refine (next_calls m x _ (HS.out.maze.below hx0.drew) SO.out.good.dim hyr.1 hyr.2).mono ?_; rintro e w9 ⟨v9, rfl, hb9, ho9⟩; obtain ⟨A9, c9, rfl, hc9⟩ := own_slice (l := nextL m x) ho9))
      rename_i hS9
      obtain ⟨hx09, hx19, hxk9⟩ := hS9
      have hb9' : Ext wk.drew w9 := hb9
      have hO9 : Hid (OwnI w9 wk.drew.heap.size (.slice A9 (nextL m x).length c9) (nextL m x)) := ho9
      have hset9 := Lib.hid (hR.out.set.below hxk9)
      clear hb9 ho9 hR hb9' hcell
      have hl6 := nextL_len m x
      have hWk9 : Ext W w9 := hxr.trans hxk9
      have hMk := Lib.hid (Mk.nil w9)
      have hrange := Lib.hid (fun z hz => nextL_range (m := m) (x := z) SO.out.good.dim hyr.1 hyr.2 hz)
      go_wp2_with fail
      clear hx0 hx1 hxr hxk hlt hk
      generalize hLL : nextL m x = L at *
      have HLL := Lib.hid hLL; clear hLL
      go_loopw [7, 97] (fun v i wr => ∃ k : Nat, k ≤ L.length ∧ i = .int .i64 (k : Nat) ∧ Hid (Mk w9 wr v ((L.take k).filter (followsB m us t q tk.1)))) (fun _ i _ => L.length - (intOf i).toNat)
      case atStart => exact ⟨0, by omega, rfl, hMk⟩
      clear hMk
      case round =>
       obtain ⟨k, hk, rfl, hM⟩ := hrel
       have hxr := hM.out.ext
       by_cases hlt : k < L.length
       ·obtain ⟨b9, rfl, hb9, hcell⟩ := own_at (hO9.out.ext hxr) hlt
        have hts := Lib.hid (List.take_succ_eq_append_getElem hlt)
        have hyr2 := hrange.out _ (List.getElem_mem hlt)
        obtain ⟨y, hy⟩ : ∃ y, y = L[k] := ⟨_, rfl⟩
        rw [← hy] at hcell hts hyr2
        clear hy
        have hcall := Lib.hid (cand1_calls t y wr (HS.out.ext (hx09.trans hxr)) SO.out.good.fn hfr ((hWk9.trans hxr).cell hcbW) ((hWk9.trans hxr).cell hcw) hyr2.1 hyr2.2)
        obtain ⟨b1, hb1'⟩ : ∃ b1, b1 = (freeAt m t y && !decide (y ∈ us)) := ⟨_, rfl⟩
        rw [← hb1'] at hcall
        have hfol : followsB m us t q tk.1 y = (b1 && !decide (y ∈ s) && !decide (y ∈ tk.1)) := by unfold followsB; rw [hnear.out y, hb1']
        clear hb1' hyr2
        have HFOL := Lib.hid hfol; clear hfol
        have hfl : ((L.take k).filter (followsB m us t q tk.1)).length ≤ 1000 := Nat.le_trans (List.length_filter_le _ _) (by simp; omega)
        have hfs : Hid (∀ bb, followsB m us t q tk.1 y = bb → (L.take (k + 1)).filter (followsB m us t q tk.1) = (L.take k).filter (followsB m us t q tk.1) ++ (if bb then [y] else [])) := fun bb h => by rw [hts.out, List.filter_append]; show _ ++ List.filter _ [y] = _; cases bb <;> simp [List.filter_cons, h]
        generalize (L.take k).filter (followsB m us t q tk.1) = lk at *
        go_wp2_with fail
        refine hcall.out.mono ?_
        rintro e w5 ⟨rfl, hd5⟩
        have hE5 : Ext wr w5 := hd5.below _
        have hM5 := Lib.hid (hM.out.more hE5)
        clear hd5 hcall
        have hset5 := hset9.out.below (hxr.trans hE5)
        have hW5 : Ext W w5 := hWk9.trans (hxr.trans hE5)
        have hF5 := Lib.hid (HF.out.below (HW0.out.trans hW5))
        cases b1 with
        | false =>
         have hff : Hid (followsB m us t q tk.1 y = false) := HFOL.out.trans (by simp)
         go_wp2
         go_roundw
         case rel => exact ⟨k + 1, by omega, by go_num, by rw [hfs.out false hff.out]; simpa using hM5⟩
         case measure => simp [intOf]; omega
        | true =>
         by_cases hys : y ∈ s
         ·have hff : Hid (followsB m us t q tk.1 y = false) := HFOL.out.trans (by simp [hys])
          have hlk := look_t hset5 hys
          clear hys
          go_wp2
          go_roundw
          case rel => exact ⟨k + 1, by omega, by go_num, by rw [hfs.out false hff.out]; simpa using hM5⟩
          case measure => simp [intOf]; omega
         ·have hlk := look_f hset5 hys
          have hrc := rg3 w5 hW5
          have hcon := Lib.hid (contains_calls y w5 hF5.out (by omega))
          by_cases hyf : y ∈ tk.1
          ·have hff : Hid (followsB m us t q tk.1 y = false) := HFOL.out.trans (by simp [hyf])
           rw [decide_eq_true hyf] at hcon
           clear hys hyf
           go_wp2_with fail
           refine hcon.out.mono ?_
           rintro e w6 ⟨rfl, rfl⟩
           go_wp2
           go_roundw
           case rel => exact ⟨k + 1, by omega, by go_num, by rw [hfs.out false hff.out]; simpa using hM5⟩
           case measure => simp [intOf]; omega
          ·have hff : Hid (followsB m us t q tk.1 y = true) := HFOL.out.trans (by simp [hys, hyf])
           rw [decide_eq_false hyf] at hcon
           clear hys hyf
           have hz5 : w9.heap.size ≤ w5.heap.size := hM5.out.ext.size
           go_wp2_with (first | (go_at_call 67; refine hcon.out.mono ?_; rintro e w6 ⟨rfl, rfl⟩) | (at_builtin; refine wpAppAt rfl _ _ rfl _ lk y w9.heap.size w5.heap.size 1 _ rfl rfl (hM5.out.own.alloc _) ?d1 ?d2 ?d3 ?_))
           (try case d1 => exact cell_new _ _ _ (by simp))
           case d2 => (first | (simp; done) | (simp; omega) | omega)
           case d3 => omega
           intro v' wb hob hgb _
           have hM' := Lib.hid ((hM5.out.alloc _).app hob hgb)
           clear hob hgb
           go_wp2
           go_roundw
           case rel => exact ⟨k + 1, by omega, by go_num, by rw [hfs.out true hff.out]; exact hM'⟩
           case measure => simp [intOf]; omega
       ·obtain rfl : k = L.length := by omega
        go_wp2_with fail
        go_ret
        refine ⟨_, rfl, (hx09.mono_mk hM.out).cast ?_⟩
        rw [HC2.out, List.take_length]
end Go.Proofs.Ytgpjfpcjiebjiaa

namespace Go.Proofs.Ytgpjfpcjiebjiaa
open Go.RowKit Go.Sort Go.Shelf
set_option linter.unusedVariables false
set_option linter.unusedSimpArgs false

section
variable {w : World} {ok : Nat → Prop} {size n : Nat} {A : Option Addr} {v : Value} {xs : List Value}
theorem RowA.bound (h : RowA w ok size A n xs) (hs : 0 < size) : RowA w (fun b => ok b ∧ b < w.heap.size) size A n xs := by
 refine ⟨h.1, fun hn => ?_⟩
 obtain ⟨b, off, e, hb, hc⟩ := h.2 hn
 have h0 : 0 < xs.length := by rw [h.1]; exact Nat.mul_pos hn hs
 exact ⟨b, off, e, ⟨hb, lt_of_cell (hc 0 _ (List.getElem?_eq_getElem h0))⟩, hc⟩
theorem Row.bound (h : Row w ok size v n xs) (hs : 0 < size) : Row w (fun b => ok b ∧ b < w.heap.size) size v n xs := by
 obtain ⟨A, c, e, hc, hr⟩ := h
 exact ⟨A, c, e, hc, hr.bound hs⟩
theorem Bools.bound {l : List Bool} (h : Bools w ok v l) : Bools w (fun b => ok b ∧ b < w.heap.size) v l := Row.bound h (by decide)
theorem Each.bound {α : Type} {R R' : Value → α → Prop} {l : List α} (h : Each R w ok v l) (hR : ∀ u x, R u x → R' u x) : Each R' w (fun b => ok b ∧ b < w.heap.size) v l := by
 obtain ⟨vs, hr, he⟩ := h
 refine ⟨vs, hr.bound (by decide), fun i x hx => ?_⟩
 obtain ⟨u, hu, hr⟩ := he i x hx
 exact ⟨u, hu, hR _ _ hr⟩
theorem Boolss.bound {l : List (List Bool)} (h : Boolss w ok v l) : Boolss w (fun b => ok b ∧ b < w.heap.size) v l := Each.bound h (fun _ _ h => Bools.bound h)
theorem Intss.bound {l : List (List Int)} (h : Intss w ok v l) : Intss w (fun b => ok b ∧ b < w.heap.size) v l := Each.bound h (fun _ _ h => Ints.bound h)
theorem Tasks.bound {l : List (List Int × List Int)} (h : Tasks w ok v l) : Tasks w (fun b => ok b ∧ b < w.heap.size) v l := by
 obtain ⟨vs, hr, he⟩ := h
 refine ⟨vs, hr.bound (by decide), fun i x hx => ?_⟩
 obtain ⟨s, u1, u2, h0, h1, h2, i1, i2⟩ := he i x hx
 exact ⟨s, u1, u2, h0, h1, h2, i1.bound, i2.bound⟩
theorem MazeV.bound {m : MZ} (h : MazeV w ok v m) : MazeV w (fun b => ok b ∧ b < w.heap.size) v m := by
 obtain ⟨f, u, t, rfl, h1, h2, h3⟩ := h
 exact ⟨f, u, t, rfl, h1.bound, h2.bound, h3.bound⟩
theorem StAt.bound {g gu : Nat} {m : MZ} {ch us : List Int} {ps : List (List Int)} {f u t vc vp : Value} (h : StAt w ok g m ch ps us f u t vc vp gu) : StAt w (fun b => ok b ∧ b < w.heap.size) g m ch ps us f u t vc vp gu :=
 ⟨h.blk, ⟨h.okg, lt_of_some h.blk⟩, h.maze.bound, h.ch.bound, h.ps.bound, ⟨h.oku, lt_of_some h.us⟩, h.us⟩
end


/-- A number in a range. -/
abbrev InR (R : Int → Prop) := { x : Int // R x }
theorem holds_sub {R : Int → Prop} {w : World} {B g cap : Nat} {l : List (InR R)} [Inhabited (InR R)] (h : OwnI w B (.slice (some ⟨g, 0, none⟩) (l.map (·.1)).length cap) (l.map (·.1))) : Holds (fun x : InR R => Value.int .i64 x.1) w g 0 l.toArray := by
 intro j hj
 have hj' : j < l.length := by simpa using hj
 refine ⟨?_, by have := World.ownsRow.frozenAt h j; simpa using this⟩
 have := World.ownsRow.cellAt h j (by simpa using hj')
 rw [Nat.zero_add, this]
 simp [getElem!_pos, hj']

theorem sortWorld_same {α : Type} [Inhabited α] {enc : α → Value} {w : World} {blk off n B : Nat} {dk : Array α} {os : Array Obj} (hB : B ≤ blk) (hw : B ≤ w.heap.size) : Same (fun b => b < B) w (sortWorld enc w blk off n dk os) := by
 intro b hb hlt
 have hne : blk ≠ b := by omega
 simp [sortWorld, grow, putRow, mapBlock, Sort.ahead, Array.getElem?_append, Array.getElem?_modify, Array.getElem_modify, hlt, hne]

theorem deleteFuncI_calls {w1 w : World} {v : Value} {l : List Int} (hM : Mk w1 w v l) (R : Int → Prop) (hR : ∀ x ∈ l, R x) (h0 : R 0) (hl : l.length ≤ 1000000000000) (fn : FuncId) (lb : Array Value) (p : Int → Bool)
  (eg : ∀ args w, (callFunc fn args).run Try.prog w = .ok (.enter fn args) w)
  (hp : ∀ x, R x → ∀ W, Same (fun b => b < w1.heap.size) w W → Calls Try.prog fn (#[.int .i64 x] ++ lb) W fun e w' => e = .returned (.bool (p x)) ∧ Drew W w') :
  Calls Try.prog 100 #[v, .func (.func fn) #[] lb] w fun e w' => ∃ v', e = .returned v' ∧ Mk w1 w' v' (l.filter fun x => !p x) := by
 rcases Nat.eq_zero_or_pos l.length with hl0 | hl0
 ·have hnil := List.eq_nil_of_length_eq_zero hl0
  subst hnil
  obtain ⟨A, c, rfl, _⟩ := hM.slice
  have hI := Lib.hid (indexFuncI_calls fn lb p w hM.ints (by simp) eg (fun x hx => by cases hx))
  have HM := Lib.hid hM; clear hM hp
  go_enter Try.func100, Try.ntmps100
  go_wp2_with fail
  refine hI.out.mono ?_
  rintro e w2 ⟨r, rfl, hr, hr1, hd⟩
  have hr2 : r = -1 := by
   have : ¬ 0 ≤ r := fun h => by have := hr.1 h; simp at this
   omega
  subst hr2
  have hE : Ext w w2 := hd.below _
  clear hd hr
  go_wp2_with fail
  go_ret
  exact ⟨_, rfl, HM.out.more hE⟩
 ·letI : Inhabited (InR R) := ⟨⟨0, h0⟩⟩
  obtain ⟨l', rfl⟩ : ∃ l' : List (InR R), l'.map (·.1) = l := ⟨l.attachWith R hR, by simp⟩
  obtain ⟨g, cap, rfl, hg, hlt⟩ := World.ownsRow.form hM.own hl0
  have hcap := own_cap hM.own
  have hll : (l'.map (·.1)).length = l'.toArray.size := by simp
  have hc := AnyE.slices_DeleteFunc dfIA (fun x : InR R => Value.int .i64 x.1) (fun _ => rfl) (fun x => p x.1) fn lb eg ⟨0, h0⟩ Try.zeroValue3 g 0 cap l'.toArray w
   (fun W x hb => by
    refine Calls.mono (hp x.1 x.2 W (fun b hb' hlt' => hb.block b hlt')) ?_
    rintro e w' ⟨rfl, q, rfl⟩
    exact ⟨rfl, q, rfl⟩)
   (fun n os dk x _ => by
    refine Calls.mono (hp x.1 x.2 _ (sortWorld_same hg hM.ext.size)) ?_
    rintro e w' ⟨rfl, q, rfl⟩
    exact ⟨rfl, q, rfl⟩)
   (holds_sub hM.own) (by rw [← hll]; omega) (by rw [← hll]; exact hcap)
  change Calls Try.prog 100 _ _ _ at hc
  rw [← hll] at hc
  refine Calls.mono hc ?_
  rintro e w' ⟨rfl, q, rfl⟩
  have hfm : (l'.map (·.1)).filter (fun x => !p x) = (l'.filter fun x => !p x.1).map (·.1) := by rw [List.filter_map]; rfl
  have hfl : (l'.filter fun x => !p x.1).length ≤ l'.length := List.length_filter_le _ _
  refine ⟨_, rfl, ?_, Lib.below_putRow hM.ext hg⟩
  have ho : w.ownsRow w1.heap.size 3 1 (.slice (some ⟨g, 0, none⟩) (l'.map (·.1)).length cap) (l'.map (·.1)).length (l'.map fun x : InR R => Value.int .i64 x.1) := by
   have := hM.own
   unfold OwnI at this
   rw [List.map_map] at this
   exact this
  have := Lib.ownsRow_putRow (enc := fun x : InR R => Value.int .i64 x.1) (q := q) (k := (l'.filter fun x => !p x.1).length) (ys := (l'.filter fun x => !p x.1) ++ List.replicate (l'.length - (l'.filter fun x => !p x.1).length) ⟨0, h0⟩) ho (by simp; omega) (by simpa using hfl)
  rw [List.take_left' rfl] at this
  rw [hfm]
  unfold OwnI
  rw [List.map_map, List.length_map]
  simpa using this
end Go.Proofs.Ytgpjfpcjiebjiaa
