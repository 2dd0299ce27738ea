/- Plain: the paths of choices. Plain: the search is complete: where there are complete choices, open at each of their beginnings, it does not end without some; and it ends. Plain: where there are paths for all tasks, with any detours, there are choices that the search comes to; and the reverse. Plain: in small mazes the search ends within 20000 steps. -/
import Derived.Test.YtgpjfpcjiebjiaaGQ
import Derived.Test.YtgpjfpcjiebjiaaGr
import Derived.Test.YtgpjfpcjiebjiaaGm
namespace Go.Proofs.Ytgpjfpcjiebjiaa
open Go.RowKit
set_option linter.unusedVariables false
set_option linter.unusedSimpArgs false

/-- A path that may go on. -/
structure PathR (m : MZ) (t : Nat) (p : List Int) : Prop where
 hd : ∀ x, p.head? = some x → x ∈ (m.tasks.getD t ([], [])).1
 fr : ∀ x ∈ p, freeAt m t x = true
 nb : ∀ k x y, p[k]? = some x → p[k + 1]? = some y → y ∈ nextL m x
def FinP (m : MZ) (t : Nat) (p : List Int) : Prop := ∃ x, p.getLast? = some x ∧ x ∈ (m.tasks.getD t ([], [])).2
theorem PathR.nil (m : MZ) (t : Nat) : PathR m t [] := ⟨(fun x h => by cases h), (fun x h => by cases h), (fun k x y h => by simp at h)⟩
theorem PathR.snoc {m : MZ} {t : Nat} {p : List Int} {n : Int} (h : PathR m t p) (hf : freeAt m t n = true) (h0 : p = [] → n ∈ (m.tasks.getD t ([], [])).1) (h1 : ∀ x, p.getLast? = some x → n ∈ nextL m x) : PathR m t (p ++ [n]) := by
 refine ⟨fun x hx => ?_, fun x hx => ?_, fun k x y hx hy => ?_⟩
 ·cases p with
  | nil =>
   have : n = x := by simpa using hx
   subst this
   exact h0 rfl
  | cons a p => exact h.hd x (by simpa using hx)
 ·rcases List.mem_append.1 hx with hx | hx
  ·exact h.fr x hx
  ·rw [List.mem_singleton] at hx; subst hx; exact hf
 ·rcases Nat.lt_or_ge (k + 1) p.length with hk | hk
  ·rw [List.getElem?_append_left (by omega)] at hx
   rw [List.getElem?_append_left hk] at hy
   exact h.nb k x y hx hy
  ·have hlt : k + 1 < (p ++ [n]).length := by
    rcases Nat.lt_or_ge (k + 1) (p ++ [n]).length with h2 | h2
    ·exact h2
    ·rw [List.getElem?_eq_none h2] at hy; cases hy
   have hkp : k + 1 = p.length := by simp at hlt; omega
   rw [List.getElem?_append_right (by omega), show k + 1 - p.length = 0 from by omega] at hy
   have : n = y := by simpa using hy
   subst this
   rw [List.getElem?_append_left (by omega)] at hx
   refine h1 x ?_
   rw [List.getLast?_eq_getElem?, show p.length - 1 = k from by omega]
   exact hx
/-- What holds of the paths of choices. -/
structure PsR (m : MZ) (ps : List (List Int)) : Prop where
 one : ∀ t p, ps[t]? = some p → PathR m t p
 fin : ∀ t p, ps[t]? = some p → t + 1 < ps.length → FinP m t p
theorem cand_step {m : MZ} {ps : List (List Int)} {us : List Int} {n : Int} (h : n ∈ candL m ps us) : freeAt m (ps.length - 1) n = true ∧ ((ps.getD (ps.length - 1) []) = [] → n ∈ (m.tasks.getD (ps.length - 1) ([], [])).1) ∧ (∀ x, (ps.getD (ps.length - 1) []).getLast? = some x → n ∈ nextL m x) := by
 unfold candL at h
 split at h
 ·cases h
 ·split at h
  ·rename_i hl
   obtain ⟨h1, h2⟩ := List.mem_filter.1 h
   simp only [Bool.and_eq_true] at h2
   exact ⟨h2.1, fun _ => mem_sortL.1 (mem_compact h1), fun x hx => by rw [hl] at hx; cases hx⟩
  ·rename_i x hl
   obtain ⟨h1, h2⟩ := List.mem_filter.1 h
   unfold followsB at h2
   simp only [Bool.and_eq_true] at h2
   refine ⟨h2.1.1.1, (fun h0 => by rw [h0] at hl; cases hl), fun y hy => ?_⟩
   rw [hl] at hy
   injection hy with hy
   subst hy
   exact h1
theorem PsR.add {m : MZ} {ps : List (List Int)} {us : List Int} {n : Int} (h : PsR m ps) (hp : 0 < ps.length) (hn : n ∈ candL m ps us) : PsR m (addN ps n) := by
 obtain ⟨h1, h2, h3⟩ := cand_step hn
 obtain ⟨qs, p, rfl, he⟩ := addN_eq hp n
 rw [he]
 have hl : (qs ++ [p]).length - 1 = qs.length := by simp
 have hg : (qs ++ [p]).getD qs.length [] = p := by simp
 rw [hl] at h1 h2 h3
 rw [hg] at h2 h3
 refine ⟨fun t q hq => ?_, fun t q hq ht => ?_⟩
 ·rcases Nat.lt_or_ge t qs.length with hlt | hge
  ·rw [List.getElem?_append_left hlt] at hq
   exact h.one t q (by rw [List.getElem?_append_left hlt]; exact hq)
  ·have hte : t = qs.length := by
    rcases Nat.lt_or_ge t (qs ++ [p ++ [n]]).length with h4 | h4
    ·simp at h4; omega
    ·rw [List.getElem?_eq_none h4] at hq; cases hq
   subst hte
   rw [List.getElem?_append_right (Nat.le_refl _), Nat.sub_self] at hq
   have : p ++ [n] = q := by simpa using hq
   subst this
   exact (h.one qs.length p (by simp)).snoc h1 h2 h3
 ·have hlt : t < qs.length := by simp at ht; omega
  rw [List.getElem?_append_left hlt] at hq
  exact h.fin t q (by rw [List.getElem?_append_left hlt]; exact hq) (by simp; omega)
theorem PsR.with {m : MZ} {ps : List (List Int)} {us : List Int} {n : Int} (h : PsR m ps) (hp : 0 < ps.length) (hn : n ∈ candL m ps us) : PsR m (withPs m ps n) := by
 have h1 := h.add hp hn
 unfold withPs
 split
 ·rename_i hf
  have hlen : (addN ps n).length = ps.length := addN_len
  have hF : ∀ t p, (addN ps n)[t]? = some p → t + 1 = ps.length → FinP m t p := fun t p ht he => by
   have h2 := hf.1
   unfold finB at h2
   rw [hlen, show ps.length - 1 = t from by omega, List.getD_eq_getElem?_getD, ht] at h2
   simp only [Option.getD_some] at h2
   split at h2
   ·cases h2
   ·rename_i x hx
    exact ⟨x, hx, of_decide_eq_true h2⟩
  refine ⟨fun t p ht => ?_, fun t p ht hlt => ?_⟩
  ·rcases Nat.lt_or_ge t (addN ps n).length with h2 | h2
   ·rw [List.getElem?_append_left h2] at ht; exact h1.one t p ht
   ·rw [List.getElem?_append_right h2] at ht
    have hp0 : p = [] := by
     cases hk : t - (addN ps n).length with
     | zero => rw [hk] at ht; simpa using ht.symm
     | succ j => rw [hk] at ht; simp at ht
    subst hp0
    exact PathR.nil m t
  ·have h2 : t < (addN ps n).length := by simp at hlt; omega
   rw [List.getElem?_append_left h2] at ht
   rcases Nat.lt_or_ge (t + 1) (addN ps n).length with h3 | h3
   ·exact h1.fin t p ht h3
   ·exact hF t p ht (by omega)
 ·exact h1
theorem IsCh.psR {m : MZ} {ch : List Int} (h : IsCh m ch) : PsR m (psOf m ch) := by
 induction h with
 | nil =>
  rw [psOf_nil]
  unfold ps0
  split
  ·exact ⟨fun t p h => by simp at h, fun t p h => by simp at h⟩
  ·refine ⟨fun t p h => ?_, fun t p h hl => by simp at hl⟩
   match t, h with
   | 0, h =>
    have : p = [] := by simpa using h.symm
    subst this
    exact PathR.nil m 0
 | @snoc ch n h hn ih =>
  rw [psOf_snoc]
  exact ih.with (h.psOk.pn (ncmp_tasks (cand_ncmp hn))) hn
theorem IsCh.all {m : MZ} {ch : List Int} (h : IsCh m ch) (hcm : cmpC m ch = true) : (psOf m ch).length = m.tasks.length ∧ (∀ t p, (psOf m ch)[t]? = some p → PathR m t p ∧ FinP m t p) := by
 have hR := h.psR
 have hO := h.psOk
 unfold cmpC cmpB at hcm
 rw [Bool.or_eq_true, decide_eq_true_eq, Bool.and_eq_true, decide_eq_true_eq] at hcm
 rcases hcm with h0 | ⟨h0, h1⟩
 ·have := hO.pl
  refine ⟨by omega, fun t p ht => ?_⟩
  rw [List.getElem?_eq_none (by omega)] at ht; cases ht
 ·refine ⟨h0, fun t p ht => ⟨hR.one t p ht, ?_⟩⟩
  have htl : t < (psOf m ch).length := by
   rcases Nat.lt_or_ge t (psOf m ch).length with h2 | h2
   ·exact h2
   ·rw [List.getElem?_eq_none h2] at ht; cases ht
  rcases Nat.lt_or_ge (t + 1) (psOf m ch).length with h2 | h2
  ·exact hR.fin t p ht h2
  ·unfold finB at h1
   rw [show (psOf m ch).length - 1 = t from by omega, List.getD_eq_getElem?_getD, ht] at h1
   simp only [Option.getD_some] at h1
   split at h1
   ·cases h1
   ·rename_i x hx
    exact ⟨x, hx, of_decide_eq_true h1⟩
end Go.Proofs.Ytgpjfpcjiebjiaa

namespace Go.Proofs.Ytgpjfpcjiebjiaa
open Go.RowKit
set_option linter.unusedVariables false
set_option linter.unusedSimpArgs false

theorem cand_pw {m : MZ} (g : Good m) {ch : List Int} (h : IsCh m ch) : (cand m ch).Pairwise (· < ·) := by
 cases hc : cmpC m ch
 ·obtain ⟨qs, p, h1, h2, h3⟩ := ps_form h hc
  rcases List.eq_nil_or_concat p with rfl | ⟨q, y, rfl⟩
  ·rw [cand_beg g h1 hc h2]
   exact (range_pw _).filter _
  ·rw [List.concat_eq_append] at h1
   rw [cand_on h1 hc]
   exact (nextL_pw g.dim y).filter _
 ·rw [cand_cmp hc]
  exact List.Pairwise.nil

/-- Choices that are complete, and open at all their beginnings. -/
structure Goal (m : MZ) (c : List Int) : Prop where
 ch : IsCh m c
 cmp : cmpC m c = true
 op : ∀ k, k < c.length → openC m (c.take (k + 1)) = true
/-- The choices ch do not lie behind c in the search's order. -/
def NotBehind (ch c : List Int) : Prop := (∃ r, c = ch ++ r) ∨ ∃ k, k < ch.length ∧ k < c.length ∧ ch.take k = c.take k ∧ ch.getD k 0 < c.getD k 0

theorem aft_le {m : MZ} {ch : List Int} {b x : Int} (hp : (cand m ch).Pairwise (· < ·)) (hx : x ∈ cand m ch) (hb : b < x) (ho : openC m (ch ++ [x]) = true) : ∃ n, aft m ch b = some n ∧ n ≤ x := by
 unfold aft
 cases hf : (cand m ch).find? fun n => decide (b < n) && openC m (ch ++ [n]) with
 | none =>
  have := List.find?_eq_none.1 hf x hx
  simp [hb, ho] at this
 | some n =>
  refine ⟨n, rfl, ?_⟩
  obtain ⟨_, l1, l2, h1, h2⟩ := List.find?_eq_some_iff_append.1 hf
  rw [h1] at hx hp
  rcases List.mem_append.1 hx with h | h
  ·have := h2 x h
   simp [hb, ho] at this
  ·rcases List.mem_cons.1 h with rfl | h
   ·exact Int.le_refl _
   ·have h3 := (List.pairwise_append.1 hp).2.1
    have := (List.pairwise_cons.1 h3).1 x h
    omega
theorem getD_take {l : List Int} {k j : Nat} (h : k < j) : (l.take j).getD k 0 = l.getD k 0 := by
 rw [List.getD_eq_getElem?_getD, List.getD_eq_getElem?_getD, List.getElem?_take_of_lt h]
theorem notBehind_at {c : List Int} {k : Nat} {n : Int} (hk : k < c.length) (hn : n ≤ c.getD k 0) : NotBehind (c.take k ++ [n]) c := by
 have hg : c.getD k 0 = c[k] := by rw [List.getD_eq_getElem?_getD, List.getElem?_eq_getElem hk, Option.getD_some]
 have hl : (c.take k).length = k := by rw [List.length_take]; omega
 rcases Int.lt_or_le n (c.getD k 0) with h | h
 ·refine .inr ⟨k, by simp; omega, hk, ?_, ?_⟩
  ·rw [List.take_append_of_le_length (by omega), List.take_take, Nat.min_self]
  ·have : (c.take k ++ [n]).getD k 0 = n := by
    rw [List.getD_eq_getElem?_getD, List.getElem?_append_right (by omega), hl, Nat.sub_self]; rfl
   rw [this]; exact h
 ·have : n = c[k] := by omega
  subst this
  exact .inl ⟨c.drop (k + 1), by rw [← List.take_succ_eq_append_getElem hk, List.take_append_drop]⟩
theorem Goal.cand {m : MZ} {c : List Int} (h : Goal m c) {k : Nat} (hk : k < c.length) : c.getD k 0 ∈ Go.Proofs.Ytgpjfpcjiebjiaa.cand m (c.take k) ∧ openC m (c.take k ++ [c.getD k 0]) = true := by
 have hg : c.getD k 0 = c[k] := by rw [List.getD_eq_getElem?_getD, List.getElem?_eq_getElem hk, Option.getD_some]
 rw [hg]
 exact ⟨h.ch.at hk, by rw [← List.take_succ_eq_append_getElem hk]; exact h.op k hk⟩
theorem backN_notBehind {m : MZ} (g : Good m) {ch c : List Int} (hG : Goal m c) {k : Nat} (h1 : k < ch.length) (h2 : k < c.length) (h3 : ch.take k = c.take k) (h4 : ch.getD k 0 < c.getD k 0) : ∀ j, k < j → j ≤ ch.length → ∃ ch', backN m ch j = some ch' ∧ NotBehind ch' c
 | 0, h, _ => by omega
 | j + 1, hj, hjl => by
  unfold backN
  rcases Nat.lt_or_ge k j with hkj | hkj
  ·split
   ·rename_i n hn
    refine ⟨_, rfl, .inr ⟨k, by simp; omega, h2, ?_, ?_⟩⟩
    ·rw [List.take_append_of_le_length (by rw [List.length_take]; omega), List.take_take, Nat.min_eq_left (by omega)]; exact h3
    ·have : (ch.take j ++ [n]).getD k 0 = ch.getD k 0 := by
      rw [List.getD_eq_getElem?_getD, List.getElem?_append_left (by rw [List.length_take]; omega), List.getElem?_take_of_lt hkj, ← List.getD_eq_getElem?_getD]
     rw [this]; exact h4
   ·exact backN_notBehind g hG h1 h2 h3 h4 j hkj (by omega)
  ·obtain rfl : j = k := by omega
   obtain ⟨c1, c2⟩ := hG.cand h2
   obtain ⟨n, hn, hle⟩ := aft_le (cand_pw g (hG.ch.take j)) c1 h4 c2
   rw [h3, hn]
   exact ⟨_, rfl, notBehind_at h2 hle⟩
theorem step_notBehind {m : MZ} (g : Good m) {ch c : List Int} (hG : Goal m c) (hch : IsCh m ch) (hn : NotBehind ch c) (hc : cmpC m ch = false) : ∃ ch', stepC m ch = some ch' ∧ NotBehind ch' c := by
 unfold stepC
 rcases hn with ⟨r, hr⟩ | ⟨k, h1, h2, h3, h4⟩
 ·have hk : ch.length < c.length := by
   rw [hr, List.length_append]
   cases r with
   | nil => rw [List.append_nil] at hr; subst hr; rw [hG.cmp] at hc; cases hc
   | cons x r => simp
  have ht : c.take ch.length = ch := by rw [hr, List.take_append_of_le_length (Nat.le_refl _), List.take_length]
  obtain ⟨c1, c2⟩ := hG.cand hk
  rw [ht] at c1 c2
  have hr0 := ((IsCh.snoc hch c1).range g).1 _ (List.mem_append_right _ (List.mem_singleton.2 rfl))
  obtain ⟨n, hn, hle⟩ := aft_le (cand_pw g hch) c1 (b := -1) (by omega) c2
  rw [hn]
  refine ⟨_, rfl, ?_⟩
  have := notBehind_at hk hle
  rwa [ht] at this
 ·split
  ·rename_i n hn
   refine ⟨_, rfl, .inr ⟨k, by simp; omega, h2, ?_, ?_⟩⟩
   ·rw [List.take_append_of_le_length (by omega)]; exact h3
   ·have : (ch ++ [n]).getD k 0 = ch.getD k 0 := by
     rw [List.getD_eq_getElem?_getD, List.getElem?_append_left h1, ← List.getD_eq_getElem?_getD]
    rw [this]; exact h4
  ·exact backN_notBehind g hG h1 h2 h3 h4 ch.length h1 (Nat.le_refl _)
/-- Where there is a goal, a router is done only when its choices are complete. -/
theorem run_goal {m : MZ} (g : Good m) {c : List Int} (hG : Goal m c) : ∀ (n : Nat) {s : RS}, IsCh m s.ch → NotBehind s.ch c → s.done = cmpC m s.ch → (RS.run m n s).done = cmpC m (RS.run m n s).ch
 | 0, s, _, _, h => h
 | n + 1, s, h1, h2, h3 => by
  unfold RS.run
  split
  ·exact h3
  ·rename_i hd
   have hc : cmpC m s.ch = false := by rw [← h3]; simpa using hd
   obtain ⟨ch', h4, h5⟩ := step_notBehind g hG h1 h2 hc
   have h6 : s.one m = ⟨ch', cmpC m ch', s.steps + 1⟩ := by unfold RS.one; rw [h4]
   rw [h6]
   exact run_goal g hG n (s := ⟨ch', cmpC m ch', s.steps + 1⟩) (stepC_some h1 h4).1 h5 rfl

/-! ### The search ends -/
/-- How many choices begin with ch (with at most f nodes more). -/
def cnt (m : MZ) : Nat → List Int → Nat
 | 0, _ => 1
 | f + 1, ch => 1 + ((cand m ch).map fun n => cnt m f (ch ++ [n])).sum
def cntC (m : MZ) (ch : List Int) : Nat := cnt m (m.n.toNat - ch.length) ch
theorem cntC_eq {m : MZ} (g : Good m) {ch : List Int} (h : IsCh m ch) : cntC m ch = 1 + ((cand m ch).map fun n => cntC m (ch ++ [n])).sum := by
 unfold cntC
 have hl := h.len g
 rcases Nat.lt_or_ge ch.length m.n.toNat with h1 | h1
 ·obtain ⟨f, hf⟩ : ∃ f, m.n.toNat - ch.length = f + 1 := ⟨m.n.toNat - ch.length - 1, by omega⟩
  rw [hf]
  show 1 + _ = _
  congr 3
  funext n
  rw [List.length_append, List.length_singleton, show m.n.toNat - (ch.length + 1) = f by omega]
 ·have h2 : cand m ch = [] := by
   apply List.eq_nil_iff_forall_not_mem.2
   intro n hn
   have := (IsCh.snoc h hn).len g
   simp at this
   omega
  rw [h2, show m.n.toNat - ch.length = 0 by omega]
  rfl
/-- How many begin with ch and a candidate behind b. -/
def cntE (m : MZ) (ch : List Int) (b : Int) : Nat := (((cand m ch).filter fun n => decide (b < n)).map fun n => cntC m (ch ++ [n])).sum
/-- How many lie behind ch. -/
def cntR (m : MZ) (ch : List Int) : Nat := cntE m ch (-1) + ((List.range ch.length).map fun k => cntE m (ch.take k) (ch.getD k 0)).sum
theorem sum_pick {f : Int → Nat} {b n : Int} : ∀ {l : List Int}, n ∈ l → b < n → f n + ((l.filter fun x => decide (n < x)).map f).sum ≤ ((l.filter fun x => decide (b < x)).map f).sum
 | [], h, _ => by cases h
 | a :: l, h, hb => by
  have hle : ((l.filter fun x => decide (n < x)).map f).sum ≤ ((l.filter fun x => decide (b < x)).map f).sum := by
   clear h
   induction l with
   | nil => simp
   | cons a l ih =>
    by_cases h1 : n < a
    ·rw [List.filter_cons_of_pos (by simpa using h1), List.filter_cons_of_pos (by simp; omega)]
     simp only [List.map_cons, List.sum_cons]; omega
    ·rw [List.filter_cons_of_neg (by simpa using h1)]
     by_cases h2 : b < a
     ·rw [List.filter_cons_of_pos (by simpa using h2)]
      simp only [List.map_cons, List.sum_cons]; omega
     ·rw [List.filter_cons_of_neg (by simpa using h2)]; exact ih
  by_cases hna : n = a
  ·subst hna
   rw [List.filter_cons_of_neg (by simp), List.filter_cons_of_pos (by simpa using hb)]
   simp only [List.map_cons, List.sum_cons]; omega
  ·have hl : n ∈ l := by
    rcases List.mem_cons.1 h with h | h
    ·exact absurd h hna
    ·exact h
   have ih := sum_pick (f := f) hl hb
   by_cases h1 : n < a
   ·rw [List.filter_cons_of_pos (by simpa using h1), List.filter_cons_of_pos (by simp; omega)]
    simp only [List.map_cons, List.sum_cons]; omega
   ·rw [List.filter_cons_of_neg (by simpa using h1)]
    by_cases h2 : b < a
    ·rw [List.filter_cons_of_pos (by simpa using h2)]
     simp only [List.map_cons, List.sum_cons]; omega
    ·rw [List.filter_cons_of_neg (by simpa using h2)]; exact ih
theorem cntE_pick {m : MZ} {ch : List Int} {b n : Int} (hn : n ∈ cand m ch) (hb : b < n) : cntC m (ch ++ [n]) + cntE m ch n ≤ cntE m ch b := sum_pick (f := fun n => cntC m (ch ++ [n])) hn hb
theorem cntC_E {m : MZ} (g : Good m) {ch : List Int} (h : IsCh m ch) : cntC m ch = 1 + cntE m ch (-1) := by
 rw [cntC_eq g h]
 unfold cntE
 rw [List.filter_eq_self.2 (fun n hn => by
  have := ((IsCh.snoc h hn).range g).1 n (List.mem_append_right _ (List.mem_singleton.2 rfl))
  simp; omega)]
theorem cntR_snoc {m : MZ} {ch : List Int} {n : Int} : cntR m (ch ++ [n]) = cntE m (ch ++ [n]) (-1) + (((List.range ch.length).map fun k => cntE m (ch.take k) (ch.getD k 0)).sum + cntE m ch n) := by
 unfold cntR
 rw [List.length_append, List.length_singleton, List.range_succ, List.map_append, List.sum_append]
 congr 2
 ·congr 1
  apply List.map_congr_left
  intro k hk
  rw [List.mem_range] at hk
  rw [List.take_append_of_le_length (by omega), List.getD_eq_getElem?_getD, List.getElem?_append_left hk, ← List.getD_eq_getElem?_getD]
 ·simp only [List.map_cons, List.map_nil, List.sum_cons, List.sum_nil, Nat.add_zero]
  rw [List.take_append_of_le_length (Nat.le_refl _), List.take_length]
  congr 1
  rw [List.getD_eq_getElem?_getD, List.getElem?_append_right (Nat.le_refl _), Nat.sub_self]; rfl
theorem backN_cnt {m : MZ} (g : Good m) {ch : List Int} (h : IsCh m ch) : ∀ j, j ≤ ch.length → ∀ ch', backN m ch j = some ch' → cntR m ch' + 1 ≤ ((List.range j).map fun k => cntE m (ch.take k) (ch.getD k 0)).sum
 | 0, _, _, h => by cases h
 | j + 1, hj, ch', hb => by
  unfold backN at hb
  rw [List.range_succ, List.map_append, List.sum_append]
  split at hb
  ·rename_i n hn
   injection hb with hb
   subst hb
   obtain ⟨h1, h2, h3⟩ := aft_some hn
   have h4 := cntE_pick h1 h2
   rw [cntC_E g (IsCh.snoc (h.take j) h1)] at h4
   rw [cntR_snoc, List.length_take, Nat.min_eq_left (by omega)]
   have h5 : ((List.range j).map fun k => cntE m ((ch.take j).take k) ((ch.take j).getD k 0)) = ((List.range j).map fun k => cntE m (ch.take k) (ch.getD k 0)) := by
    apply List.map_congr_left
    intro k hk
    rw [List.mem_range] at hk
    rw [List.take_take, Nat.min_eq_left (by omega), getD_take hk]
   rw [h5]
   simp only [List.map_cons, List.map_nil, List.sum_cons, List.sum_nil, Nat.add_zero]
   omega
  ·have := backN_cnt g h j (by omega) ch' hb
   omega
theorem step_cnt {m : MZ} (g : Good m) {ch ch' : List Int} (h : IsCh m ch) (hs : stepC m ch = some ch') : cntR m ch' + 1 ≤ cntR m ch := by
 unfold stepC at hs
 split at hs
 ·rename_i n hn
  injection hs with hs
  subst hs
  obtain ⟨h1, h2, h3⟩ := aft_some hn
  have h4 := cntE_pick h1 h2
  rw [cntC_E g (IsCh.snoc h h1)] at h4
  rw [cntR_snoc]
  unfold cntR
  omega
 ·have := backN_cnt g h ch.length (Nat.le_refl _) ch' hs
  unfold cntR at *
  omega
theorem run_ends {m : MZ} (g : Good m) : ∀ (n : Nat) {s : RS}, IsCh m s.ch → cntR m s.ch < n → (RS.run m n s).done = true
 | 0, s, _, h => by omega
 | n + 1, s, h1, h2 => by
  unfold RS.run
  split
  ·assumption
  ·cases h3 : stepC m s.ch with
   | none =>
    have h4 : s.one m = ⟨[], true, s.steps + 1⟩ := by unfold RS.one; rw [h3]
    rw [h4, RS.run_done rfl]
   | some ch' =>
    have h4 : s.one m = ⟨ch', cmpC m ch', s.steps + 1⟩ := by unfold RS.one; rw [h3]
    have h5 := step_cnt g h1 h3
    rw [h4]
    exact run_ends g n (s := ⟨ch', cmpC m ch', s.steps + 1⟩) (stepC_some h1 h3).1 (by show cntR m ch' < n; omega)
end Go.Proofs.Ytgpjfpcjiebjiaa

namespace Go.Proofs.Ytgpjfpcjiebjiaa
open Go.RowKit
set_option linter.unusedVariables false
set_option linter.unusedSimpArgs false

/-- The last of a list behind a node. -/
def lst : Int → List Int → Int
 | y, [] => y
 | _, x :: q => lst x q
theorem lst_append : ∀ (a b : List Int) (y : Int), lst y (a ++ b) = lst (lst y a) b
 | [], _, _ => rfl
 | x :: a, b, _ => lst_append a b x
/-- A list of free neighbours behind a node. -/
def Lk (m : MZ) (t : Nat) : Int → List Int → Prop
 | _, [] => True
 | y, x :: q => x ∈ nextL m y ∧ freeAt m t x = true ∧ Lk m t x q
theorem Lk.split {m : MZ} {t : Nat} : ∀ (a b : List Int) (y : Int), Lk m t y (a ++ b) ↔ Lk m t y a ∧ Lk m t (lst y a) b
 | [], b, y => ⟨fun h => ⟨trivial, h⟩, fun h => h.2⟩
 | x :: a, b, y => by
  have h := Lk.split (m := m) (t := t) a b x
  show (_ ∧ _ ∧ Lk m t x (a ++ b)) ↔ (_ ∧ _ ∧ Lk m t x a) ∧ Lk m t (lst x a) b
  rw [h]
  exact ⟨fun ⟨h1, h2, h3, h4⟩ => ⟨⟨h1, h2, h3⟩, h4⟩, fun ⟨⟨h1, h2, h3⟩, h4⟩ => ⟨h1, h2, h3, h4⟩⟩
def frm (m : MZ) (t : Nat) : List Int := (m.tasks.getD t ([], [])).1
def tos (m : MZ) (t : Nat) : List Int := (m.tasks.getD t ([], [])).2
/-- A path for a task. -/
def TP (m : MZ) (t : Nat) (p : List Int) : Prop := ∃ x q, p = x :: q ∧ x ∈ frm m t ∧ freeAt m t x = true ∧ Lk m t x q ∧ lst x q ∈ tos m t

section
variable {m : MZ} {t : Nat}
theorem TP.ne {p : List Int} (h : TP m t p) : p ≠ [] := by
 obtain ⟨x, q, rfl, _⟩ := h
 exact List.cons_ne_nil _ _
/-- The list behind a first part of a path may be another one. -/
theorem TP.splice {x : Int} {u v c : List Int} (h : TP m t (x :: (u ++ v))) (hl : Lk m t (lst x u) c) (hd : lst (lst x u) c ∈ tos m t) : TP m t (x :: (u ++ c)) := by
 obtain ⟨x', q, e, h1, h2, h3, h4⟩ := h
 injection e with e1 e2
 subst e1 e2
 exact ⟨x, _, rfl, h1, h2, (Lk.split _ _ _).2 ⟨((Lk.split _ _ _).1 h3).1, hl⟩, by rw [lst_append]; exact hd⟩
theorem TP.rest {x n : Int} {a b : List Int} (h : TP m t (x :: (a ++ n :: b))) : n ∈ nextL m (lst x a) ∧ freeAt m t n = true ∧ Lk m t n b ∧ lst n b ∈ tos m t := by
 obtain ⟨x', q, e, h1, h2, h3, h4⟩ := h
 injection e with e1 e2
 subst e1 e2
 obtain ⟨h5, h6, h7⟩ := ((Lk.split _ _ _).1 h3).2
 rw [lst_append] at h4
 exact ⟨h5, h6, h7, h4⟩
/-- A path without detours. -/
structure IP (m : MZ) (t : Nat) (p : List Int) : Prop where
 tp : TP m t p
 fr : ∀ x a n b, p = x :: (a ++ n :: b) → n ∉ frm m t
 cut : ∀ a1 z a2 n b, p = a1 ++ z :: (a2 ++ n :: b) → a2 ≠ [] → n ∉ nextL m z
 fin : ∀ x a n b, p = x :: (a ++ n :: b) → lst x a ∉ tos m t
 nd : p.Nodup
theorem nodup_of_split : ∀ (p : List Int), (∀ a1 n a2 b, p = a1 ++ n :: (a2 ++ n :: b) → False) → p.Nodup
 | [], _ => List.nodup_nil
 | x :: q, h => by
  refine List.nodup_cons.2 ⟨fun hx => ?_, nodup_of_split q fun a1 n a2 b e => h (x :: a1) n a2 b (by rw [e]; rfl)⟩
  obtain ⟨a, b, rfl⟩ := List.append_of_mem hx
  exact h [] x a b rfl
theorem head_split {x z : Int} {q a1 r : List Int} (e : x :: q = a1 ++ z :: r) : ∃ u, q = u ++ r ∧ lst x u = z ∧ a1 ++ z :: r = x :: (u ++ r) ∧ a1.length = u.length ∧ ∀ c, a1 ++ z :: c = x :: (u ++ c) := by
 cases a1 with
 | nil =>
  injection e with e1 e2
  subst e1 e2
  exact ⟨[], rfl, rfl, rfl, rfl, fun c => rfl⟩
 | cons y a1 =>
  injection e with e1 e2
  subst e1 e2
  refine ⟨a1 ++ [z], by simp, ?_, by simp, by simp, fun c => by simp⟩
  rw [lst_append]; rfl
theorem TP.short : ∀ (n : Nat) (p : List Int), p.length = n → TP m t p → ∃ q, IP m t q ∧ ∀ x ∈ q, x ∈ p := by
 intro n
 induction n using Nat.strongRecOn with
 | _ n ih =>
  intro p hn h
  by_cases hs : ∃ q, TP m t q ∧ (∀ x ∈ q, x ∈ p) ∧ q.length < p.length
  ·obtain ⟨q, h1, h2, h3⟩ := hs
   obtain ⟨r, h4, h5⟩ := ih q.length (by omega) q rfl h1
   exact ⟨r, h4, fun x hx => h2 x (h5 x hx)⟩
  ·have hno : ∀ q, TP m t q → (∀ x ∈ q, x ∈ p) → p.length ≤ q.length := fun q h1 h2 => Nat.le_of_not_lt fun h3 => hs ⟨q, h1, h2, h3⟩
   obtain ⟨x0, q0, e0, h1, h2, h3, h4⟩ := id h
   refine ⟨p, ⟨h, fun x a n b e hf => ?_, fun a1 z a2 n b e hne hz => ?_, fun x a n b e hf => ?_, nodup_of_split p fun a1 n a2 b e => ?_⟩, fun x hx => hx⟩
   ·subst e
    obtain ⟨-, h6, h7, h8⟩ := h.rest
    have := hno (n :: b) ⟨n, b, rfl, hf, h6, h7, h8⟩ (fun x hx => List.mem_cons_of_mem _ (List.mem_append_right _ hx))
    simp at this
    omega
   ·rw [e0] at e
    obtain ⟨u, e1, e2, e3, e4, e5⟩ := head_split e
    rw [e0, e1] at h
    have h6 := h
    rw [← List.append_assoc] at h6
    obtain ⟨-, h7, h8, h9⟩ := h6.rest
    have h10 := h.splice (c := n :: b) ⟨by rw [e2]; exact hz, h7, h8⟩ h9
    have := hno _ h10 (fun x hx => by
     rw [e0, e1]
     rcases List.mem_cons.1 hx with rfl | hx
     ·exact List.mem_cons_self ..
     ·refine List.mem_cons_of_mem _ ?_
      rcases List.mem_append.1 hx with hx | hx
      ·exact List.mem_append_left _ hx
      ·exact List.mem_append_right _ (List.mem_append_right _ hx))
    rw [e0, e1] at this
    have h11 := List.length_pos_iff.2 hne
    simp at this
    omega
   ·subst e
    have h10 := h.splice (c := []) trivial hf
    have := hno _ h10 (fun x hx => by
     rw [List.append_nil] at hx
     rcases List.mem_cons.1 hx with rfl | hx
     ·exact List.mem_cons_self ..
     ·exact List.mem_cons_of_mem _ (List.mem_append_left _ hx))
    simp at this
    omega
   ·rw [e0] at e
    obtain ⟨u, e1, e2, e3, e4, e5⟩ := head_split e
    rw [e0, e1] at h
    have h6 := h
    rw [← List.append_assoc] at h6
    obtain ⟨-, h7, h8, h9⟩ := h6.rest
    have h10 := h.splice (c := b) (by rw [e2]; exact h8) (by rw [e2]; exact h9)
    have := hno _ h10 (fun x hx => by
     rw [e0, e1]
     rcases List.mem_cons.1 hx with rfl | hx
     ·exact List.mem_cons_self ..
     ·refine List.mem_cons_of_mem _ ?_
      rcases List.mem_append.1 hx with hx | hx
      ·exact List.mem_append_left _ hx
      ·exact List.mem_append_right _ (List.mem_append_right _ (List.mem_cons_of_mem _ hx)))
    rw [e0, e1] at this
    simp at this
    omega
end
theorem shorts {m : MZ} : ∀ (ps : List (List Int)) (t : Nat), (∀ k p, ps[k]? = some p → TP m (t + k) p) → ps.flatten.Nodup → ∃ qs : List (List Int), qs.length = ps.length ∧ (∀ k q, qs[k]? = some q → IP m (t + k) q) ∧ qs.flatten.Nodup ∧ ∀ x ∈ qs.flatten, x ∈ ps.flatten
 | [], t, _, _ => ⟨[], rfl, fun k q h => by simp at h, List.nodup_nil, fun x hx => hx⟩
 | p :: ps, t, h, hn => by
  rw [List.flatten_cons, List.nodup_append] at hn
  obtain ⟨q, h1, h2⟩ := TP.short p.length p rfl (h 0 p rfl)
  obtain ⟨qs, h3, h4, h5, h6⟩ := shorts ps (t + 1) (fun k p hp => by have := h (k + 1) p hp; rwa [show t + (k + 1) = t + 1 + k by omega] at this) hn.2.1
  refine ⟨q :: qs, by simp [h3], fun k r hr => ?_, ?_, fun x hx => ?_⟩
  ·cases k with
   | zero => injection hr with hr; subst hr; exact h1
   | succ k => have := h4 k r hr; rwa [show t + 1 + k = t + (k + 1) by omega] at this
  ·rw [List.flatten_cons, List.nodup_append]
   exact ⟨h1.nd, h5, fun a ha b hb => hn.2.2 a (h2 a ha) b (h6 b hb)⟩
  ·rw [List.flatten_cons] at hx ⊢
   rcases List.mem_append.1 hx with hx | hx
   ·exact List.mem_append_left _ (h2 x hx)
   ·exact List.mem_append_right _ (h6 x hx)

/-! ### Trying all -/
/-- Can the tasks from t on be done, with y the last node of the path of t, and us used? -/
inductive Way (m : MZ) : Nat → Option Int → List Int → Prop
 | done {us : List Int} : Way m m.tasks.length none us
 | nxt {t : Nat} {y : Int} {us : List Int} : t < m.tasks.length → y ∈ tos m t → Way m (t + 1) none us → Way m t (some y) us
 | beg {t : Nat} {x : Int} {us : List Int} : t < m.tasks.length → x ∈ frm m t → freeAt m t x = true → x ∉ us → Way m t (some x) (us ++ [x]) → Way m t none us
 | on {t : Nat} {y x : Int} {us : List Int} : t < m.tasks.length → x ∈ nextL m y → freeAt m t x = true → x ∉ us → Way m t (some x) (us ++ [x]) → Way m t (some y) us
theorem nd_snoc {us : List Int} {x : Int} (h : us.Nodup) (hx : x ∉ us) : (us ++ [x]).Nodup := by
 rw [List.nodup_append]
 refine ⟨h, by simp, fun a ha b hb => ?_⟩
 rw [List.mem_singleton] at hb
 subst hb
 rintro rfl
 exact hx ha
theorem Way.paths {m : MZ} {t : Nat} {o : Option Int} {us : List Int} (h : Way m t o us) (hn : us.Nodup) : (o = none → ∃ ps : List (List Int), ps.length + t = m.tasks.length ∧ (∀ k p, ps[k]? = some p → TP m (t + k) p) ∧ (us ++ ps.flatten).Nodup) ∧
  (∀ y, o = some y → ∃ q, ∃ ps : List (List Int), Lk m t y q ∧ lst y q ∈ tos m t ∧ ps.length + (t + 1) = m.tasks.length ∧ (∀ k p, ps[k]? = some p → TP m (t + 1 + k) p) ∧ (us ++ (q ++ ps.flatten)).Nodup) := by
 induction h with
 | done => exact ⟨fun _ => ⟨[], by simp, fun k p h => by simp at h, by simpa using hn⟩, fun y h => by cases h⟩
 | @nxt t y us h1 h2 _ ih =>
  refine ⟨(fun h => by cases h), fun y' h => ?_⟩
  injection h with h
  subst h
  obtain ⟨ps, h3, h4, h5⟩ := (ih hn).1 rfl
  exact ⟨[], ps, trivial, h2, h3, h4, h5⟩
 | @beg t x us h1 h2 h3 h4 _ ih =>
  refine ⟨fun _ => ?_, fun y h => by cases h⟩
  obtain ⟨q, ps, h5, h6, h7, h8, h9⟩ := (ih (nd_snoc hn h4)).2 x rfl
  refine ⟨(x :: q) :: ps, by simp; omega, fun k p hp => ?_, ?_⟩
  ·cases k with
   | zero => injection hp with hp; subst hp; exact ⟨x, q, rfl, h2, h3, h5, h6⟩
   | succ k => have := h8 k p hp; rwa [show t + 1 + k = t + (k + 1) by omega] at this
  ·simpa [List.append_assoc] using h9
 | @on t y x us h1 h2 h3 h4 _ ih =>
  refine ⟨(fun h => by cases h), fun y' h => ?_⟩
  injection h with h
  subst h
  obtain ⟨q, ps, h5, h6, h7, h8, h9⟩ := (ih (nd_snoc hn h4)).2 x rfl
  exact ⟨x :: q, ps, ⟨h2, h3, h5⟩, h6, h7, h8, by simpa [List.append_assoc] using h9⟩
theorem way_on {m : MZ} {t : Nat} (ht : t < m.tasks.length) : ∀ (q : List Int) (y : Int) (us : List Int), Lk m t y q → lst y q ∈ tos m t → (us ++ q).Nodup → Way m (t + 1) none (us ++ q) → Way m t (some y) us
 | [], y, us, _, h2, _, h4 => .nxt ht h2 (by simpa using h4)
 | x :: q, y, us, h1, h2, h3, h4 => by
  refine .on ht h1.1 h1.2.1 (fun hx => ?_) (way_on ht q x (us ++ [x]) h1.2.2 h2 (by simpa using h3) (by simpa using h4))
  exact (List.nodup_append.1 h3).2.2 x hx x (List.mem_cons_self ..) rfl
theorem way_of {m : MZ} : ∀ (ps : List (List Int)) (t : Nat) (us : List Int), ps.length + t = m.tasks.length → (∀ k p, ps[k]? = some p → TP m (t + k) p) → (us ++ ps.flatten).Nodup → Way m t none us
 | [], t, us, h1, _, _ => by
  obtain rfl : t = m.tasks.length := by simpa using h1
  exact .done
 | p :: ps, t, us, h1, h2, h3 => by
  obtain ⟨x, q, rfl, h4, h5, h6, h7⟩ := h2 0 p rfl
  have ht : t < m.tasks.length := by simp at h1; omega
  have h8 : (us ++ [x] ++ (q ++ ps.flatten)).Nodup := by simpa using h3
  have h9 : (us ++ [x] ++ q).Nodup := by
   rw [← List.append_assoc] at h8
   exact (List.nodup_append.1 h8).1
  refine .beg ht h4 h5 (fun hx => (List.nodup_append.1 h3).2.2 x hx x (by simp) rfl) (way_on ht q x _ h6 h7 h9 (way_of ps (t + 1) _ (by simp at h1; omega) (fun k p hp => ?_) (by simpa using h8)))
  have := h2 (k + 1) p hp
  rwa [show t + (k + 1) = t + 1 + k by omega] at this
theorem lk_of {m : MZ} {t : Nat} : ∀ (q : List Int) (x : Int), (∀ y ∈ q, freeAt m t y = true) → (∀ k a b, (x :: q)[k]? = some a → (x :: q)[k + 1]? = some b → b ∈ nextL m a) → Lk m t x q
 | [], _, _, _ => trivial
 | y :: q, x, h1, h2 => ⟨h2 0 x y rfl rfl, h1 y (List.mem_cons_self ..), lk_of q y (fun z hz => h1 z (List.mem_cons_of_mem _ hz)) fun k a b ha hb => h2 (k + 1) a b ha hb⟩
theorem lst_getLast : ∀ (q : List Int) (x : Int), (x :: q).getLast? = some (lst x q)
 | [], _ => rfl
 | y :: q, x => by rw [List.getLast?_cons_cons]; exact lst_getLast q y
theorem tp_of {m : MZ} {t : Nat} {p : List Int} (h : PathR m t p) (hf : FinP m t p) : TP m t p := by
 obtain ⟨z, h1, h2⟩ := hf
 cases p with
 | nil => cases h1
 | cons x q =>
  refine ⟨x, q, rfl, h.hd x rfl, h.fr x (List.mem_cons_self ..), lk_of q x (fun y hy => h.fr y (List.mem_cons_of_mem _ hy)) h.nb, ?_⟩
  rw [lst_getLast] at h1
  injection h1 with h1
  rw [h1]; exact h2
/-- Complete choices do all tasks. -/
theorem IsCh.way {m : MZ} (g : Good m) {ch : List Int} (h : IsCh m ch) (hc : cmpC m ch = true) : Way m 0 none [] := by
 obtain ⟨h1, h2⟩ := h.all hc
 refine way_of (psOf m ch) 0 [] (by simpa using h1) (fun k p hp => ?_) ?_
 ·rw [Nat.zero_add]; exact tp_of (h2 k p hp).1 (h2 k p hp).2
 ·rw [List.nil_append, h.psOk.fl]; exact (h.range g).2

/-! ### The search comes there -/
/-- The state of choices under way. -/
structure Mid (m : MZ) (ch : List Int) (qs : List (List Int)) (a : List Int) : Prop where
 ic : IsCh m ch
 ps : psOf m ch = qs ++ [a]
 lt : qs.length < m.tasks.length
 nc : cmpC m ch = false
section
variable {m : MZ} {ch a : List Int} {qs : List (List Int)} {n : Int}
theorem Mid.same (h : Mid m ch qs a) (hn : n ∈ cand m ch) (ht0 : n ∉ tos m qs.length) : Mid m (ch ++ [n]) qs (a ++ [n]) := by
 have ht : n ∉ (m.tasks.getD qs.length ([], [])).2 := ht0
 have e : psOf m (ch ++ [n]) = qs ++ [a ++ [n]] := by
  rw [psOf_snoc, h.ps]
  unfold withPs
  rw [addN_snoc, finB_snoc, if_neg (by rw [decide_eq_false ht]; simp)]
 refine ⟨.snoc h.ic hn, e, h.lt, ?_⟩
 unfold cmpC cmpB
 rw [e, finB_snoc, decide_eq_false ht, decide_eq_false (by have := h.lt; omega)]
 simp
theorem Mid.next (h : Mid m ch qs a) (hn : n ∈ cand m ch) (ht0 : n ∈ tos m qs.length) (hl : qs.length + 1 < m.tasks.length) : Mid m (ch ++ [n]) (qs ++ [a ++ [n]]) [] := by
 have ht : n ∈ (m.tasks.getD qs.length ([], [])).2 := ht0
 have e : psOf m (ch ++ [n]) = (qs ++ [a ++ [n]]) ++ [[]] := by
  rw [psOf_snoc, h.ps]
  unfold withPs
  rw [addN_snoc, finB_snoc, if_pos ⟨decide_eq_true ht, by simpa using hl⟩]
 refine ⟨.snoc h.ic hn, e, by simpa using hl, ?_⟩
 unfold cmpC cmpB
 rw [e, finB_nil, decide_eq_false (by omega)]
 simp
theorem Mid.last (h : Mid m ch qs a) (hn : n ∈ cand m ch) (ht0 : n ∈ tos m qs.length) (hl : qs.length + 1 = m.tasks.length) : cmpC m (ch ++ [n]) = true := by
 have ht : n ∈ (m.tasks.getD qs.length ([], [])).2 := ht0
 have e : psOf m (ch ++ [n]) = qs ++ [a ++ [n]] := by
  rw [psOf_snoc, h.ps]
  unfold withPs
  rw [addN_snoc, finB_snoc, if_neg (by intro h; have := h.2; simp at this; omega)]
 unfold cmpC cmpB
 rw [e, finB_snoc, decide_eq_true ht, decide_eq_true (show (qs ++ [a ++ [n]]).length = m.tasks.length by simpa using hl)]
 simp
end
theorem Lk.reach {m : MZ} {t : Nat} {f us : List Int} : ∀ (q : List Int) (y : Int), RP m t f us y → Lk m t y q → (∀ x ∈ q, x ∉ us) → RP m t f us (lst y q)
 | [], _, h, _, _ => h
 | x :: q, y, h, h1, h2 => Lk.reach q x (h.step h1.1 h1.2.1 (h2 x (List.mem_cons_self ..))) h1.2.2 fun z hz => h2 z (List.mem_cons_of_mem _ hz)
open Classical in
theorem openT_of {m : MZ} (g : Good m) {ps : List (List Int)} {us : List Int} {t : Nat} {x : Int} {q : List Int} (hx : x ∈ fromL m ps us t) (h0 : 0 ≤ x ∧ x < m.n) (hl : Lk m t x q) (hd : ∀ y ∈ q, y ∉ us) (ht : lst x q ∈ tos m t) : openT m ps us t = true := by
 unfold openT
 refine List.any_eq_true.2 ⟨_, ht, decide_eq_true ?_⟩
 have hr := Lk.reach q x (RP.base (m := m) (t := t) (from_ := fromL m ps us t) (used := us) hx h0.1 h0.2) hl hd
 have h1 := hr.range g.dim
 unfold reachL
 refine List.mem_filter.2 ⟨List.mem_map.2 ⟨(lst x q).toNat, List.mem_range.2 (by omega), ?_⟩, decide_eq_true hr⟩
 show ((lst x q).toNat : Int) = _
 omega
theorem frm_range {m : MZ} (g : Good m) {t : Nat} {x : Int} (h : x ∈ frm m t) : 0 ≤ x ∧ x < m.n := by
 unfold frm at h
 by_cases hk : t < m.tasks.length
 ·rw [List.getD_eq_getElem?_getD, List.getElem?_eq_getElem hk] at h
  exact g.tn _ (List.getElem_mem hk) x (.inl h)
 ·rw [List.getD_eq_getElem?_getD, List.getElem?_eq_none (by omega)] at h
  cases h
/-- What is known under way. -/
structure Und (m : MZ) (ch : List Int) (qs : List (List Int)) (a b : List Int) (rest : List (List Int)) : Prop where
 mid : Mid m ch qs a
 ne : b ≠ []
 ip : IP m qs.length (a ++ b)
 ips : ∀ k p, rest[k]? = some p → IP m (qs.length + 1 + k) p
 len : qs.length + 1 + rest.length = m.tasks.length
 nd : (ch ++ (b ++ rest.flatten)).Nodup
theorem Und.open_ {m : MZ} (g : Good m) {ch a b : List Int} {qs rest : List (List Int)} (h : Und m ch qs a b rest) : openC m ch = true := by
 have hdis := (List.nodup_append.1 h.nd).2.2
 have hb : ∀ y ∈ b, y ∉ ch := fun y hy hc => hdis y hc y (List.mem_append_left _ hy) rfl
 have hrs : ∀ y ∈ rest.flatten, y ∉ ch := fun y hy hc => hdis y hc y (List.mem_append_right _ hy) rfl
 refine openC_true h.mid.ic fun t h1 h2 => ?_
 rw [splitL_ncmp h.mid.nc, h.mid.ps, List.length_append, List.length_singleton, Nat.add_sub_cancel] at h1
 rcases Nat.eq_or_lt_of_le h1 with rfl | h3
 ·rcases List.eq_nil_or_concat a with rfl | ⟨a1, y, rfl⟩
  ·obtain ⟨x, q, e, h4, h5, h6, h7⟩ := h.ip.tp
   rw [List.nil_append] at e
   refine openT_of g (x := x) (q := q) ?_ (frm_range g h4) h6 (fun y hy => hb y (by rw [e]; exact List.mem_cons_of_mem _ hy)) h7
   rw [fromL_off h.mid.ps (.inr rfl)]
   refine List.mem_filter.2 ⟨h4, ?_⟩
   rw [h5, decide_eq_false (hb x (by rw [e]; exact List.mem_cons_self ..))]
   rfl
  ·rw [List.concat_eq_append] at h
   have hps := h.mid.ps
   have hy : y ∈ ch := by rw [← h.mid.ic.psOk.fl, hps]; simp
   have h0 := (h.mid.ic.range g).1 y hy
   obtain ⟨x, q, e, h4, h5, h6, h7⟩ := h.ip.tp
   have e' : x :: q = a1 ++ y :: b := by rw [← e]; simp
   obtain ⟨u, e1, e2, -, -, -⟩ := head_split e'
   rw [e1] at h6 h7
   rw [lst_append, e2] at h7
   refine openT_of g (x := y) (q := b) ?_ h0 (by have := ((Lk.split _ _ _).1 h6).2; rwa [e2] at this) hb h7
   rw [fromL_on hps]
   exact List.mem_singleton.2 rfl
 ·have hk : t - (qs.length + 1) < rest.length := by have := h.len; omega
  have hip := h.ips (t - (qs.length + 1)) _ (List.getElem?_eq_getElem hk)
  rw [show qs.length + 1 + (t - (qs.length + 1)) = t by omega] at hip
  have hin : ∀ y ∈ rest[t - (qs.length + 1)], y ∉ ch := fun y hy => hrs y (List.mem_flatten.2 ⟨_, List.getElem_mem hk, hy⟩)
  obtain ⟨x, q, e, h4, h5, h6, h7⟩ := hip.tp
  rw [e] at hin
  refine openT_of g (x := x) (q := q) ?_ (frm_range g h4) h6 (fun y hy => hin y (List.mem_cons_of_mem _ hy)) h7
  rw [fromL_off h.mid.ps (.inl (by omega))]
  refine List.mem_filter.2 ⟨h4, ?_⟩
  rw [h5, decide_eq_false (hin x (List.mem_cons_self ..))]
  rfl
theorem Und.cand {m : MZ} (g : Good m) {ch a b : List Int} {n : Int} {qs rest : List (List Int)} (h : Und m ch qs a (n :: b) rest) : n ∈ Go.Proofs.Ytgpjfpcjiebjiaa.cand m ch := by
 have hdis := (List.nodup_append.1 h.nd).2.2
 have hn : n ∉ ch := fun hc => hdis n hc n (by simp) rfl
 rcases List.eq_nil_or_concat a with rfl | ⟨a1, y, rfl⟩
 ·obtain ⟨x, q, e, h4, h5, h6, h7⟩ := h.ip.tp
  rw [List.nil_append] at e
  injection e with e1 e2
  subst e1
  have hr := frm_range g h4
  rw [cand_beg g h.mid.ps h.mid.nc h.mid.lt]
  unfold begL
  refine List.mem_filter.2 ⟨List.mem_map.2 ⟨n.toNat, List.mem_range.2 (by omega), ?_⟩, ?_⟩
  ·show (n.toNat : Int) = _; omega
  ·have h4' : n ∈ (m.tasks.getD qs.length ([], [])).1 := h4
   rw [decide_eq_true h4', h5, decide_eq_false hn]; rfl
 ·rw [List.concat_eq_append] at h
  have hps := h.mid.ps
  obtain ⟨x, q, e, h4, h5, h6, h7⟩ := h.ip.tp
  have e' : x :: q = a1 ++ y :: (n :: b) := by rw [← e]; simp
  obtain ⟨u, e1, e2, e3, -, -⟩ := head_split e'
  have htp := h.ip.tp
  rw [show (a1 ++ [y]) ++ (n :: b) = x :: (u ++ n :: b) by rw [← e3]; simp] at htp
  obtain ⟨h8, h9, -, -⟩ := htp.rest
  rw [e2] at h8
  rw [cand_on hps h.mid.nc]
  refine List.mem_filter.2 ⟨h8, ?_⟩
  unfold followsB
  have hf : n ∉ (m.tasks.getD qs.length ([], [])).1 := h.ip.fr x u n b (by rw [← e3]; simp)
  rw [h9, decide_eq_false hn, decide_eq_false hf]
  have hany : (a1.any fun y => decide (n ∈ nextL m y)) = false := by
   rw [List.any_eq_false]
   intro z hz hc
   obtain ⟨s, r, rfl⟩ := List.append_of_mem hz
   exact h.ip.cut s z (r ++ [y]) n b (by simp) (by simp) (of_decide_eq_true hc)
  rw [hany]
  rfl
theorem op_snoc {m : MZ} {ch : List Int} {n : Int} (h : ∀ k, k < ch.length → openC m (ch.take (k + 1)) = true) (hn : openC m (ch ++ [n]) = true) : ∀ k, k < (ch ++ [n]).length → openC m ((ch ++ [n]).take (k + 1)) = true := fun k hk => by
 rcases Nat.lt_or_ge k ch.length with h1 | h1
 ·rw [List.take_append_of_le_length (by omega)]; exact h k h1
 ·rw [List.take_of_length_le (by simp at hk ⊢; omega)]; exact hn
theorem Und.goal {m : MZ} (g : Good m) : ∀ (N : Nat) {ch a b : List Int} {qs rest : List (List Int)}, (b ++ rest.flatten).length = N → Und m ch qs a b rest → (∀ k, k < ch.length → openC m (ch.take (k + 1)) = true) → ∃ c, Goal m c
 | 0, ch, a, b, qs, rest, hN, h, _ => by
  exact absurd (List.append_eq_nil_iff.1 (List.length_eq_zero_iff.1 hN)).1 h.ne
 | N + 1, ch, a, [], qs, rest, _, h, _ => absurd rfl h.ne
 | N + 1, ch, a, n :: b, qs, rest, hN, h, ho => by
  have hc := h.cand g
  have htl : ∀ x u, (a ++ n :: b) = x :: (u ++ b) → lst x u = n → b ≠ [] → n ∉ tos m qs.length := fun x u e e2 hb => by
   obtain ⟨z, r, rfl⟩ := List.exists_cons_of_ne_nil hb
   have := h.ip.fin x u z r e
   rwa [e2] at this
  obtain ⟨x, q, e, h4, h5, h6, h7⟩ := h.ip.tp
  obtain ⟨u, e1, e2, e3, -, -⟩ := head_split e.symm
  by_cases hb : b = []
  ·subst hb
   have hn : n ∈ tos m qs.length := by
    rw [e1, lst_append, e2] at h7
    exact h7
   cases rest with
   | nil =>
    have hl : qs.length + 1 = m.tasks.length := by have := h.len; simpa using this
    have hcm := h.mid.last hc hn hl
    have hop : openC m (ch ++ [n]) = true := by
     have hI := IsCh.snoc h.mid.ic hc
     refine openC_true hI fun t h8 h9 => ?_
     rw [(splitL_len hI).1 hcm] at h8
     omega
    exact ⟨ch ++ [n], .snoc h.mid.ic hc, hcm, op_snoc ho hop⟩
   | cons p rest =>
    have hl : qs.length + 1 < m.tasks.length := by have := h.len; simp at this; omega
    have hU : Und m (ch ++ [n]) (qs ++ [a ++ [n]]) [] p rest := by
     refine ⟨h.mid.next hc hn hl, (h.ips 0 p rfl).tp.ne, ?_, fun k r hr => ?_, ?_, ?_⟩
     ·rw [List.nil_append, List.length_append, List.length_singleton]; exact h.ips 0 p rfl
     ·have := h.ips (k + 1) r hr
      rw [List.length_append, List.length_singleton]
      rwa [show qs.length + 1 + (k + 1) = qs.length + 1 + 1 + k by omega] at this
     ·have := h.len; simp at this ⊢; omega
     ·have := h.nd; simpa using this
    exact hU.goal g N (by simpa using hN) (op_snoc ho (hU.open_ g))
  ·have hn := htl x u (by rw [e, e1]) e2 hb
   have hU : Und m (ch ++ [n]) qs (a ++ [n]) b rest := by
    refine ⟨h.mid.same hc hn, hb, ?_, h.ips, h.len, ?_⟩
    ·have := h.ip; simpa using this
    ·have := h.nd; simpa using this
   exact hU.goal g N (by simpa using hN) (op_snoc ho (hU.open_ g))
theorem Way.goal {m : MZ} (g : Good m) (h : Way m 0 none []) : ∃ c, Goal m c := by
 obtain ⟨ps, h1, h2, h3⟩ := (h.paths List.nodup_nil).1 rfl
 obtain ⟨qs, h4, h5, h6, -⟩ := shorts ps 0 h2 (by simpa using h3)
 have hl : qs.length = m.tasks.length := by simp at h1; omega
 cases qs with
 | nil =>
  have h0 : m.tasks.length = 0 := by simpa using hl.symm
  exact ⟨[], .nil, by unfold cmpC cmpB; rw [decide_eq_true h0]; rfl, fun k hk => by simp at hk⟩
 | cons p qs =>
  have h0 : 0 < m.tasks.length := by simp at hl; omega
  have hps : psOf m [] = [] ++ [[]] := by rw [psOf_nil]; unfold ps0; rw [if_neg (by omega)]; rfl
  have hU : Und m [] [] [] p qs := by
   refine ⟨⟨.nil, hps, h0, ?_⟩, (h5 0 p rfl).tp.ne, h5 0 p rfl, fun k r hr => ?_, ?_, ?_⟩
   ·unfold cmpC cmpB
    rw [hps, finB_nil, decide_eq_false (by omega)]
    simp
   ·have := h5 (k + 1) r hr
    rwa [show 0 + (k + 1) = ([] : List (List Int)).length + 1 + k by simp; omega] at this
   ·simp at hl ⊢; omega
   ·simpa using h6
  exact hU.goal g _ rfl (fun k hk => by simp at hk)
end Go.Proofs.Ytgpjfpcjiebjiaa

namespace Go.Proofs.Ytgpjfpcjiebjiaa
open Go.RowKit
set_option linter.unusedVariables false
set_option linter.unusedSimpArgs false

/-- How many paths without detours go on from y, with q before it. -/
def ind (m : MZ) : Nat → List Int → Int → Nat
 | 0, _, _ => 1
 | f + 1, q, y => 1 + (((nextL m y).filter fun n => !decide (n ∈ q ++ [y]) && !(q.any fun z => decide (n ∈ nextL m z))).map fun n => ind m f (q ++ [y]) n).sum
def grid (w h : Int) : MZ := ⟨w, h, 1, [], [], []⟩
set_option maxRecDepth 100000 in
theorem ind_all : ∀ w : Nat, w < 5 → ∀ h : Nat, h < 5 → 2 ≤ w ∧ 1 ≤ h ∧ w * h ≤ 9 → ∀ f : Nat, f < 10 → ∀ n : Nat, n < w * h → ind (grid w h) f [] n ≤ 25 := by decide +kernel
theorem sum_le {l : List Int} {f g : Int → Nat} (h : ∀ x ∈ l, f x ≤ g x) : (l.map f).sum ≤ (l.map g).sum := by
 induction l with
 | nil => simp
 | cons a l ih =>
  have h1 := h a (List.mem_cons_self ..)
  have h2 := ih fun x hx => h x (List.mem_cons_of_mem _ hx)
  simp only [List.map_cons, List.sum_cons]
  omega
theorem sum_sub {f : Int → Nat} {p q : Int → Bool} : ∀ {l : List Int}, (∀ x ∈ l, p x = true → q x = true) → ((l.filter p).map f).sum ≤ ((l.filter q).map f).sum
 | [], _ => by simp
 | a :: l, h => by
  have ih := sum_sub (f := f) (p := p) (q := q) (l := l) fun x hx => h x (List.mem_cons_of_mem _ hx)
  cases hp : p a
  ·rw [List.filter_cons_of_neg (by rw [hp]; simp)]
   cases hq : q a
   ·rw [List.filter_cons_of_neg (by rw [hq]; simp)]; exact ih
   ·rw [List.filter_cons_of_pos (by rw [hq])]
    simp only [List.map_cons, List.sum_cons]; omega
  ·rw [List.filter_cons_of_pos (by rw [hp]), List.filter_cons_of_pos (h a (List.mem_cons_self ..) hp)]
   simp only [List.map_cons, List.sum_cons]; omega
theorem sum_mul {f : Int → Nat} {B : Nat} : ∀ {l : List Int}, (l.map fun x => f x * B).sum = (l.map f).sum * B
 | [] => by simp
 | a :: l => by
  simp only [List.map_cons, List.sum_cons, sum_mul (l := l), Nat.add_mul]
theorem sum_const {f : Int → Nat} {K : Nat} : ∀ {l : List Int}, (∀ x ∈ l, f x ≤ K) → (l.map f).sum ≤ l.length * K
 | [], _ => by simp
 | a :: l, h => by
  have h1 := h a (List.mem_cons_self ..)
  have h2 := sum_const (f := f) (K := K) (l := l) fun x hx => h x (List.mem_cons_of_mem _ hx)
  simp only [List.map_cons, List.sum_cons, List.length_cons, Nat.add_mul, Nat.one_mul]
  omega
theorem ind_pos (m : MZ) : ∀ (f : Nat) (q : List Int) (y : Int), 1 ≤ ind m f q y
 | 0, _, _ => Nat.le_refl _
 | f + 1, q, y => by show 1 ≤ 1 + _; omega
/-- How many choices for k tasks. -/
def bnd : Nat → Nat
 | 0 => 1
 | k + 1 => 1 + 50 * bnd k
theorem bnd_pos : ∀ k, 1 ≤ bnd k
 | 0 => Nat.le_refl _
 | k + 1 => by show 1 ≤ 1 + _; omega
theorem cnt_cmp {m : MZ} {ch : List Int} (h : cmpC m ch = true) : ∀ f, cnt m f ch ≤ 1
 | 0 => Nat.le_refl _
 | f + 1 => by
  show 1 + _ ≤ 1
  rw [cand_cmp h]
  simp
theorem cand_from {m : MZ} {ch : List Int} {qs : List (List Int)} (h : Mid m ch qs []) : (cand m ch).length ≤ (frm m qs.length).length := by
 unfold cand candL
 split
 ·simp
 ·rw [h.ps, List.length_append, List.length_singleton, Nat.add_sub_cancel]
  have : (qs ++ [[]]).getD qs.length [] = ([] : List Int) := by
   rw [List.getD_eq_getElem?_getD, List.getElem?_append_right (Nat.le_refl _), Nat.sub_self]; rfl
  rw [this]
  show List.length (List.filter _ _) ≤ _
  refine Nat.le_trans (List.length_filter_le _ _) (Nat.le_trans (compact_len _) ?_)
  unfold sortL
  rw [List.length_mergeSort]
  exact Nat.le_refl _
section
variable {m : MZ} (g : Good m) (hf : ∀ t ∈ m.tasks, t.1.length ≤ 2) (hi : ∀ f : Nat, f < 10 → ∀ n : Int, 0 ≤ n → n < m.n → ind m f [] n ≤ 25)
include g hf hi
theorem cnt_bound : ∀ (f : Nat), f < 10 → (∀ {ch : List Int} {qs : List (List Int)}, Mid m ch qs [] → cnt m f ch ≤ bnd (m.tasks.length - qs.length)) ∧
  (∀ {ch : List Int} {qs : List (List Int)} {a : List Int} {y : Int}, Mid m ch qs (a ++ [y]) → cnt m f ch ≤ ind m f a y * bnd (m.tasks.length - qs.length - 1))
 | 0, _ => ⟨fun _ => bnd_pos _, fun _ => by
  show 1 ≤ 1 * _
  rw [Nat.one_mul]
  exact bnd_pos _⟩
 | f + 1, hf9 => by
  obtain ⟨ih1, ih2⟩ := cnt_bound f (by omega)
  have step : ∀ {ch : List Int} {qs : List (List Int)} {a : List Int} {n : Int}, Mid m ch qs a → n ∈ cand m ch → cnt m f (ch ++ [n]) ≤ ind m f a n * bnd (m.tasks.length - qs.length - 1) := by
   intro ch qs a n h hn
   by_cases ht : n ∈ tos m qs.length
   ·have hp := ind_pos m f a n
    rcases Nat.lt_or_ge (qs.length + 1) m.tasks.length with hl | hl
    ·have h1 := ih1 (h.next hn ht hl)
     rw [List.length_append, List.length_singleton] at h1
     rw [show m.tasks.length - (qs.length + 1) = m.tasks.length - qs.length - 1 by omega] at h1
     exact Nat.le_trans h1 (Nat.le_mul_of_pos_left _ hp)
    ·have hl' := h.lt
     have h1 := cnt_cmp (h.last hn ht (by omega)) f
     exact Nat.le_trans h1 (Nat.le_trans (bnd_pos _) (Nat.le_mul_of_pos_left _ hp))
   ·exact ih2 (h.same hn ht)
  refine ⟨fun {ch qs} h => ?_, fun {ch qs a y} h => ?_⟩
  ·have hlt := h.lt
   obtain ⟨k, hk⟩ : ∃ k, m.tasks.length - qs.length = k + 1 := ⟨m.tasks.length - qs.length - 1, by omega⟩
   have h1 : ((cand m ch).map fun n => cnt m f (ch ++ [n])).sum ≤ (cand m ch).length * (25 * bnd k) := by
    refine sum_const fun n hn => ?_
    have h2 := step h hn
    have h3 := (IsCh.snoc h.ic hn).range g |>.1 n (List.mem_append_right _ (List.mem_singleton.2 rfl))
    have h4 := hi f (by omega) n h3.1 h3.2
    rw [hk, Nat.add_sub_cancel] at h2
    exact Nat.le_trans h2 (Nat.mul_le_mul_right _ h4)
   have h5 : (cand m ch).length ≤ 2 := by
    refine Nat.le_trans (cand_from h) ?_
    unfold frm
    rw [List.getD_eq_getElem?_getD, List.getElem?_eq_getElem hlt]
    exact hf _ (List.getElem_mem hlt)
   have h6 := Nat.mul_le_mul_right (25 * bnd k) h5
   rw [hk]
   show 1 + _ ≤ 1 + 50 * bnd k
   omega
  ·have h1 : ((cand m ch).map fun n => cnt m f (ch ++ [n])).sum ≤ ((cand m ch).map fun n => ind m f (a ++ [y]) n * bnd (m.tasks.length - qs.length - 1)).sum := sum_le fun n hn => step h hn
   rw [sum_mul (f := fun n => ind m f (a ++ [y]) n)] at h1
   have h2 : ((cand m ch).map fun n => ind m f (a ++ [y]) n).sum ≤ (((nextL m y).filter fun n => !decide (n ∈ a ++ [y]) && !(a.any fun z => decide (n ∈ nextL m z))).map fun n => ind m f (a ++ [y]) n).sum := by
    rw [cand_on h.ps h.nc]
    refine sum_sub fun n hn hp => ?_
    unfold followsB at hp
    simp only [Bool.and_eq_true, Bool.not_eq_true', decide_eq_false_iff_not] at hp ⊢
    refine ⟨fun hc => hp.1.1.2 ?_, hp.1.2⟩
    rw [← h.ic.psOk.fl, h.ps]
    simp only [List.flatten_append, List.flatten_cons, List.flatten_nil, List.append_nil]
    exact List.mem_append_right _ hc
   have h3 := Nat.mul_le_mul_right (bnd (m.tasks.length - qs.length - 1)) h2
   have h4 := bnd_pos (m.tasks.length - qs.length - 1)
   show 1 + _ ≤ (1 + _) * _
   rw [Nat.add_mul, Nat.one_mul]
   omega
end
theorem nextL_grid {m : MZ} (d : Dim m) (hl : m.l = 1) {y : Int} (h0 : 0 ≤ y) (h1 : y < m.n) : nextL m y = nextL (grid m.w m.h) y := by
 unfold MZ.n at h1
 rw [hl, Int.mul_one] at h1
 unfold nextL grid
 simp only [hl, Int.mul_one]
 rw [decide_eq_false (show ¬ y + m.w * m.h < m.w * m.h by omega), decide_eq_false (show ¬ m.w * m.h ≤ y by omega)]
 rfl
theorem ind_grid {m : MZ} (d : Dim m) (hl : m.l = 1) : ∀ (f : Nat) (q : List Int) (y : Int), (∀ z ∈ q ++ [y], 0 ≤ z ∧ z < m.n) → ind m f q y = ind (grid m.w m.h) f q y
 | 0, _, _, _ => rfl
 | f + 1, q, y, h => by
  have hy := h y (List.mem_append_right _ (List.mem_singleton.2 rfl))
  show 1 + _ = 1 + _
  rw [← nextL_grid d hl hy.1 hy.2]
  have e : (nextL m y).filter (fun n => !decide (n ∈ q ++ [y]) && !(q.any fun z => decide (n ∈ nextL m z))) = (nextL m y).filter (fun n => !decide (n ∈ q ++ [y]) && !(q.any fun z => decide (n ∈ nextL (grid m.w m.h) z))) := by
   apply List.filter_congr
   intro n _
   congr 2
   rw [Bool.eq_iff_iff, List.any_eq_true, List.any_eq_true]
   constructor
   ·rintro ⟨z, hz, hn⟩
    have h2 := h z (List.mem_append_left _ hz)
    rw [nextL_grid d hl h2.1 h2.2] at hn
    exact ⟨z, hz, hn⟩
   ·rintro ⟨z, hz, hn⟩
    have h2 := h z (List.mem_append_left _ hz)
    rw [← nextL_grid d hl h2.1 h2.2] at hn
    exact ⟨z, hz, hn⟩
  rw [← e]
  congr 2
  apply List.map_congr_left
  intro n hn
  have h3 := nextL_range d hy.1 hy.2 (List.mem_filter.1 hn).1
  refine ind_grid d hl f (q ++ [y]) n fun z hz => ?_
  rcases List.mem_append.1 hz with hz | hz
  ·exact h z hz
  ·rw [List.mem_singleton] at hz; subst hz; exact h3
/-- What is known of a small maze. -/
structure SmallM (m : MZ) : Prop where
 ok : chk m = 0
 w : 2 ≤ m.w ∧ m.w ≤ 4
 h : 1 ≤ m.h ∧ m.h ≤ 4
 l : m.l = 1
 n : m.w * m.h ≤ 9
 tk : m.tasks.length ≤ 2
 te : ∀ t ∈ m.tasks, t.1.length ≤ 2 ∧ t.2.length ≤ 2
 lens : Lens m
theorem SmallM.ends {m : MZ} (h : SmallM m) : (RS.run m 20000 ⟨[], cmpC m [], 0⟩).done = true := by
 have g := Good.of h.ok
 have hw := h.w
 have hh := h.h
 obtain ⟨W, hW⟩ : ∃ W : Nat, m.w = W := ⟨m.w.toNat, by omega⟩
 obtain ⟨H, hH⟩ : ∃ H : Nat, m.h = H := ⟨m.h.toNat, by omega⟩
 have hn : m.n = ((W * H : Nat) : Int) := by unfold MZ.n; rw [h.l, hW, hH, Int.mul_one]; rfl
 have h9 : W * H ≤ 9 := by have := h.n; rw [hW, hH] at this; exact_mod_cast this
 refine run_ends g 20000 .nil ?_
 show cntR m [] < 20000
 have h1 := cntC_E g (IsCh.nil (m := m))
 have h2 : cntR m [] + 1 = cntC m [] := by rw [h1]; unfold cntR; simp; omega
 have hi : ∀ f : Nat, f < 10 → ∀ n : Int, 0 ≤ n → n < m.n → ind m f [] n ≤ 25 := fun f hf n h0 h3 => by
  rw [ind_grid g.dim h.l f [] n (fun z hz => by simp at hz; subst hz; exact ⟨h0, h3⟩), hW, hH]
  have := ind_all W (by omega) H (by omega) ⟨by omega, by omega, h9⟩ f hf n.toNat (by omega)
  rwa [Int.toNat_of_nonneg h0] at this
 have h4 : cntC m [] ≤ 2551 := by
  unfold cntC
  rcases Nat.eq_zero_or_pos m.tasks.length with h0 | h0
  ·exact Nat.le_trans (cnt_cmp (by unfold cmpC cmpB; rw [decide_eq_true h0]; rfl) _) (by omega)
  ·have hps : psOf m [] = [] ++ [[]] := by rw [psOf_nil]; unfold ps0; rw [if_neg (by omega)]; rfl
   have hM : Mid m [] [] [] := by
    refine ⟨.nil, hps, h0, ?_⟩
    unfold cmpC cmpB
    rw [hps, finB_nil, decide_eq_false (by omega)]
    simp
   have h5 := (cnt_bound g (fun t ht => (h.te t ht).1) hi (m.n.toNat - ([] : List Int).length) (by rw [hn]; simp; omega)).1 hM
   refine Nat.le_trans h5 ?_
   have h6 := h.tk
   rcases (show m.tasks.length = 1 ∨ m.tasks.length = 2 by omega) with e | e <;> rw [e] <;> decide
 omega
/-- In a small maze the search ends with complete choices exactly if all tasks can be done. -/
theorem SmallM.found {m : MZ} (h : SmallM m) : cmpC m (RS.run m 20000 ⟨[], cmpC m [], 0⟩).ch = true ↔ Way m 0 none [] := by
 have g := Good.of h.ok
 constructor
 ·intro hc
  exact (run_isCh 20000 (s := ⟨[], cmpC m [], 0⟩) .nil).way g hc
 ·intro hw
  obtain ⟨c, hG⟩ := hw.goal g
  have h1 := run_goal g hG 20000 (s := ⟨[], cmpC m [], 0⟩) .nil (.inl ⟨c, rfl⟩) rfl
  rw [← h1]
  exact h.ends
end Go.Proofs.Ytgpjfpcjiebjiaa
