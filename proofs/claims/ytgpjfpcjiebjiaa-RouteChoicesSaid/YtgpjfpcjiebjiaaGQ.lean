/- Plain: the reference's paths and candidates are the program's: splitL is how it splits choices; candidates as it lists them. -/
import Derived.Test.YtgpjfpcjiebjiaaGl
namespace Go.Proofs.Ytgpjfpcjiebjiaa
open Go.RowKit
set_option linter.unusedVariables false
set_option linter.unusedSimpArgs false

/-- The paths of choices as the reference splits them. -/
def splitL (m : MZ) (ch : List Int) : List (List Int) := psOf m ch ++ (if cmpC m ch = true then [[]] else [])
theorem splitL_ncmp {m : MZ} {ch : List Int} (h : cmpC m ch = false) : splitL m ch = psOf m ch := by unfold splitL; rw [h]; simp
theorem splitL_cmp {m : MZ} {ch : List Int} (h : cmpC m ch = true) : splitL m ch = psOf m ch ++ [[]] := by unfold splitL; rw [h]; simp
theorem finB_snoc {m : MZ} {qs : List (List Int)} {p : List Int} {x : Int} : finB m (qs ++ [p ++ [x]]) = decide (x ∈ (m.tasks.getD qs.length ([], [])).2) := by
 unfold finB
 rw [List.length_append, List.length_singleton, Nat.add_sub_cancel]
 have : (qs ++ [p ++ [x]]).getD qs.length [] = p ++ [x] := by simp [List.getD_eq_getElem?_getD]
 rw [this]
 simp
theorem finB_nil {m : MZ} {qs : List (List Int)} : finB m (qs ++ [[]]) = false := by
 unfold finB
 rw [List.length_append, List.length_singleton, Nat.add_sub_cancel]
 have : (qs ++ [([] : List Int)]).getD qs.length [] = [] := by simp [List.getD_eq_getElem?_getD]
 rw [this]
 rfl
theorem addN_snoc {qs : List (List Int)} {p : List Int} {x : Int} : addN (qs ++ [p]) x = qs ++ [p ++ [x]] := by
 unfold addN
 rw [List.length_append, List.length_singleton, Nat.add_sub_cancel, List.set_append_right _ _ (Nat.le_refl _)]
 simp
theorem split_step {m : MZ} {ch : List Int} {qs : List (List Int)} {p : List Int} (x : Int) (hps : psOf m ch = qs ++ [p]) (hlen : qs.length < m.tasks.length) :
  splitL m (ch ++ [x]) = qs ++ [p ++ [x]] ++ (if x ∈ (m.tasks.getD qs.length ([], [])).2 then [[]] else []) := by
 have hT : decide (m.tasks.length = 0) = false := decide_eq_false (by omega)
 unfold splitL cmpC
 rw [psOf_snoc, hps]
 unfold withPs
 rw [addN_snoc, finB_snoc, List.length_append, List.length_singleton]
 by_cases hx : x ∈ (m.tasks.getD qs.length ([], [])).2
 ·rw [decide_eq_true hx, if_pos hx]
  by_cases hl : qs.length + 1 < m.tasks.length
  ·rw [if_pos ⟨rfl, hl⟩]
   unfold cmpB
   rw [finB_nil, hT]
   simp
  ·rw [if_neg (fun h => hl h.2)]
   unfold cmpB
   rw [finB_snoc, hT, decide_eq_true hx, decide_eq_true (show (qs ++ [p ++ [x]]).length = m.tasks.length by simp; omega)]
   simp
 ·rw [decide_eq_false hx, if_neg hx, if_neg (fun h => by cases h.1)]
  unfold cmpB
  rw [finB_snoc, hT, decide_eq_false hx]
  simp
theorem splitL_nil (m : MZ) : splitL m [] = [[]] := by
 unfold splitL cmpC
 rw [psOf_nil]
 unfold ps0
 by_cases h : m.tasks.length = 0
 ·rw [if_pos h]
  unfold cmpB
  rw [decide_eq_true h]
  simp
 ·rw [if_neg h]
  unfold cmpB
  rw [decide_eq_false h]
  have : finB m [[]] = false := finB_nil (qs := [])
  rw [this]
  simp
/-- Choices that are not complete: the last path is the unfinished one. -/
theorem ps_form {m : MZ} {ch : List Int} (h : IsCh m ch) (hc : cmpC m ch = false) : ∃ qs p, psOf m ch = qs ++ [p] ∧ qs.length < m.tasks.length ∧ splitL m ch = qs ++ [p] := by
 have h1 := h.psOk
 have h2 := h1.pn (ncmp_tasks hc)
 rcases List.eq_nil_or_concat (psOf m ch) with h3 | ⟨qs, p, h3⟩
 ·rw [h3] at h2; simp at h2
 ·rw [List.concat_eq_append] at h3
  have h4 := h1.pl
  rw [h3] at h4
  simp only [List.length_append, List.length_singleton] at h4
  exact ⟨qs, p, h3, by omega, by rw [splitL_ncmp hc, h3]⟩
theorem splitL_len {m : MZ} {ch : List Int} (h : IsCh m ch) : (cmpC m ch = true → (splitL m ch).length = m.tasks.length + 1) ∧ (cmpC m ch = false → (splitL m ch).length ≤ m.tasks.length ∧ 0 < (splitL m ch).length) := by
 refine ⟨fun hc => ?_, fun hc => ?_⟩
 ·rw [splitL_cmp hc, List.length_append, List.length_singleton]
  unfold cmpC cmpB at hc
  rw [Bool.or_eq_true, Bool.and_eq_true, decide_eq_true_eq, decide_eq_true_eq] at hc
  rcases hc with hc | hc
  ·have := h.psOk.pl; omega
  ·omega
 ·obtain ⟨qs, p, h1, h2, h3⟩ := ps_form h hc
  rw [h3, List.length_append, List.length_singleton]
  omega

section
open Go.Lib
theorem compactUpTo_sorted (d : Array Int) (hs : ∀ i j, i ≤ j → j < d.size → d[i]! ≤ d[j]!) : ∀ m, m ≤ d.size → (compactUpTo d m).Pairwise (· < ·) ∧ ∀ x, x ∈ compactUpTo d m ↔ ∃ j, j < m ∧ d[j]! = x
 | 0, _ => ⟨by simp [compactUpTo], fun x => by simp [compactUpTo]⟩
 | m + 1, hm => by
  obtain ⟨h1, h2⟩ := compactUpTo_sorted d hs m (by omega)
  rw [compactUpTo_succ]
  by_cases hk : keeps d m = true
  ·rw [if_pos hk]
   refine ⟨?_, fun x => ?_⟩
   ·rw [List.pairwise_append]
    refine ⟨h1, by simp, fun a ha b hb => ?_⟩
    rw [List.mem_singleton] at hb
    subst hb
    obtain ⟨j, hj, rfl⟩ := (h2 a).1 ha
    unfold keeps at hk
    rw [decide_eq_true_eq] at hk
    rcases hk with hk | hk
    ·omega
    ·have h3 := hs j (m - 1) (by omega) (by omega)
     have h4 := hs (m - 1) m (by omega) (by omega)
     omega
   ·rw [List.mem_append, h2, List.mem_singleton]
    constructor
    ·rintro (⟨j, hj, e⟩ | e)
     ·exact ⟨j, by omega, e⟩
     ·exact ⟨m, by omega, e.symm⟩
    ·rintro ⟨j, hj, e⟩
     by_cases hjm : j = m
     ·subst hjm; exact .inr e.symm
     ·exact .inl ⟨j, by omega, e⟩
  ·rw [if_neg hk, List.append_nil]
   refine ⟨h1, fun x => ?_⟩
   rw [h2]
   unfold keeps at hk
   rw [decide_eq_true_eq] at hk
   have hm0 : m ≠ 0 := fun h => hk (.inl h)
   have he : d[m]! = d[m - 1]! := Decidable.byContradiction fun h => hk (.inr h)
   constructor
   ·rintro ⟨j, hj, e⟩; exact ⟨j, by omega, e⟩
   ·rintro ⟨j, hj, e⟩
    by_cases hjm : j = m
    ·subst hjm; exact ⟨j - 1, by omega, by rw [← he]; exact e⟩
    ·exact ⟨j, by omega, e⟩
theorem compact_sorted (l : List Int) : (compact (sortL l)).Pairwise (· < ·) ∧ ∀ x, x ∈ compact (sortL l) ↔ x ∈ l := by
 have hp : (sortL l).Pairwise (fun x y => decide (x ≤ y) = true) := by
  unfold sortL
  exact List.pairwise_mergeSort (fun a b c h1 h2 => by simp only [decide_eq_true_eq] at *; omega) (fun a b => by simp only [Bool.or_eq_true, decide_eq_true_eq]; omega) l
 have hs : ∀ i j, i ≤ j → j < (sortL l).toArray.size → (sortL l).toArray[i]! ≤ (sortL l).toArray[j]! := by
  intro i j hij hj
  rw [List.size_toArray] at hj
  have hi : i < (sortL l).length := by omega
  rw [getElem!_pos _ i (by simpa using hi), getElem!_pos _ j (by simpa using hj)]
  simp only [List.getElem_toArray]
  rcases Nat.lt_or_ge i j with h | h
  ·have := List.pairwise_iff_getElem.1 hp i j hi hj h
   simpa using this
  ·have : i = j := by omega
   subst this
   exact Int.le_refl _
 obtain ⟨h1, h2⟩ := compactUpTo_sorted (sortL l).toArray hs (sortL l).length (by simp)
 refine ⟨h1, fun x => ?_⟩
 unfold compact
 rw [h2, ← mem_sortL (l := l)]
 constructor
 ·rintro ⟨j, hj, e⟩
  rw [getElem!_pos _ j (by simpa using hj)] at e
  simp only [List.getElem_toArray] at e
  rw [← e]
  exact List.getElem_mem hj
 ·intro hx
  obtain ⟨j, hj, e⟩ := List.getElem_of_mem hx
  exact ⟨j, hj, by rw [getElem!_pos _ j (by simpa using hj)]; simpa using e⟩
end
theorem pw_eq {l l' : List Int} (h : l.Pairwise (· < ·)) (h' : l'.Pairwise (· < ·)) (he : ∀ x, x ∈ l ↔ x ∈ l') : l = l' := by
 have n1 : l.Nodup := h.imp (fun hab => by omega)
 have n2 : l'.Nodup := h'.imp (fun hab => by omega)
 have hperm : l.Perm l' := (List.perm_ext_iff_of_nodup n1 n2).2 he
 exact List.Perm.eq_of_pairwise (le := fun a b => a < b) (fun a b _ _ h1 h2 => by omega) h h' hperm
theorem range_pw (n : Nat) : ((List.range n).map Int.ofNat).Pairwise (· < ·) := by
 rw [List.pairwise_map]
 exact (List.pairwise_lt_range (n := n)).imp (fun h => by simpa using h)
/-- The candidates that begin a path, as the reference lists them. -/
def begL (m : MZ) (t : Nat) (ch : List Int) : List Int := ((List.range m.n.toNat).map Int.ofNat).filter fun k => decide (k ∈ (m.tasks.getD t ([], [])).1) && freeAt m t k && !decide (k ∈ ch)
theorem cand_beg {m : MZ} (g : Good m) {ch : List Int} {qs : List (List Int)} (hps : psOf m ch = qs ++ [[]]) (hc : cmpC m ch = false) (hlen : qs.length < m.tasks.length) : cand m ch = begL m qs.length ch := by
 unfold cand candL
 have h1 : (qs ++ [([] : List Int)]).length - 1 = qs.length := by simp
 have h2 : (qs ++ [([] : List Int)]).getD qs.length [] = [] := by simp [List.getD_eq_getElem?_getD]
 unfold cmpC at hc
 rw [hc, hps, if_neg (by simp), h1, h2]
 show List.filter _ _ = _
 obtain ⟨s1, s2⟩ := compact_sorted (m.tasks.getD qs.length ([], [])).1
 refine pw_eq (s1.filter _) ((range_pw _).filter _) (fun x => ?_)
 show x ∈ List.filter _ _ ↔ x ∈ begL m qs.length ch
 unfold begL
 rw [List.mem_filter, List.mem_filter, s2, List.mem_map]
 simp only [Bool.and_eq_true, decide_eq_true_eq, Bool.not_eq_true', decide_eq_false_iff_not, List.mem_range]
 constructor
 ·rintro ⟨hx, hf, hu⟩
  rw [List.getD_eq_getElem?_getD, List.getElem?_eq_getElem hlen, Option.getD_some] at hx
  have hr := g.tn _ (List.getElem_mem hlen) x (.inl hx)
  refine ⟨⟨x.toNat, by omega, by show (x.toNat : Int) = x; omega⟩, ⟨?_, hf⟩, hu⟩
  rw [List.getD_eq_getElem?_getD, List.getElem?_eq_getElem hlen, Option.getD_some]
  exact hx
 ·rintro ⟨_, ⟨hx, hf⟩, hu⟩
  exact ⟨hx, hf, hu⟩
theorem cand_on {m : MZ} {ch : List Int} {qs : List (List Int)} {p : List Int} {y : Int} (hps : psOf m ch = qs ++ [p ++ [y]]) (hc : cmpC m ch = false) : cand m ch = (nextL m y).filter (followsB m ch qs.length p (m.tasks.getD qs.length ([], [])).1) := by
 unfold cand candL
 have h1 : (qs ++ [p ++ [y]]).length - 1 = qs.length := by simp
 have h2 : (qs ++ [p ++ [y]]).getD qs.length [] = p ++ [y] := by simp [List.getD_eq_getElem?_getD]
 unfold cmpC at hc
 rw [hc, hps, if_neg (by simp), h1, h2]
 simp
theorem cand_cmp {m : MZ} {ch : List Int} (hc : cmpC m ch = true) : cand m ch = [] := by
 unfold cand candL
 unfold cmpC at hc
 rw [if_pos hc]

/-! ### Open -/
theorem openC_true {m : MZ} {ch : List Int} (h : IsCh m ch) (hall : ∀ t, (splitL m ch).length - 1 ≤ t → t < m.tasks.length → openT m (psOf m ch) ch t = true) : openC m ch = true := by
 unfold openC openB
 rw [List.all_eq_true]
 intro k hk
 rw [List.mem_range] at hk
 unfold tasksN at hk
 split at hk
 ·omega
 ·rename_i hc
  have hc : cmpC m ch = false := by unfold cmpC; simpa using hc
  rw [splitL_ncmp hc] at hall
  have := h.psOk.pn (ncmp_tasks hc)
  exact hall _ (by omega) (by omega)
theorem openC_false {m : MZ} {ch : List Int} {t : Nat} (h : IsCh m ch) (h0 : (splitL m ch).length - 1 ≤ t) (ht : t < m.tasks.length) (hf : openT m (psOf m ch) ch t = false) : openC m ch = false := by
 cases hc : cmpC m ch
 ·unfold openC openB
  rw [← Bool.not_eq_true, List.all_eq_true]
  intro hall
  rw [splitL_ncmp hc] at h0
  have hp := h.psOk.pn (ncmp_tasks hc)
  have h1 := hall (t - ((psOf m ch).length - 1)) (by
   rw [List.mem_range]
   unfold tasksN
   unfold cmpC at hc
   rw [hc, if_neg (by simp)]
   omega)
  rw [show (psOf m ch).length - 1 + (t - ((psOf m ch).length - 1)) = t from by omega, hf] at h1
  cases h1
 ·have := (splitL_len h).1 hc
  omega
theorem fromL_on {m : MZ} {ch us : List Int} {qs : List (List Int)} {p : List Int} {y : Int} (hps : psOf m ch = qs ++ [p ++ [y]]) : fromL m (psOf m ch) us qs.length = [y] := by
 unfold fromL
 rw [hps, if_pos (by simp)]
 have h2 : (qs ++ [p ++ [y]]).getD qs.length [] = p ++ [y] := by simp [List.getD_eq_getElem?_getD]
 rw [h2]
 simp
theorem fromL_off {m : MZ} {ch us : List Int} {qs : List (List Int)} {p : List Int} {t : Nat} (hps : psOf m ch = qs ++ [p]) (ht : t ≠ qs.length ∨ p = []) : fromL m (psOf m ch) us t = ((m.tasks.getD t ([], [])).1).filter fun n => freeAt m t n && !decide (n ∈ us) := by
 unfold fromL
 rw [hps]
 have : (if t + 1 = (qs ++ [p]).length then ((qs ++ [p]).getD t []).getLast? else none) = none := by
  rcases ht with ht | rfl
  ·rw [if_neg (by simp; omega)]
  ·split
   ·rename_i h
    have : t = qs.length := by simp at h; omega
    subst this
    simp [List.getD_eq_getElem?_getD]
   ·rfl
 rw [this]
 simp only [Bool.not_or, Bool.not_not]
theorem any_comm (a b : List Int) : (a.any fun x => decide (x ∈ b)) = (b.any fun x => decide (x ∈ a)) := by
 rw [Bool.eq_iff_iff, List.any_eq_true, List.any_eq_true]
 simp only [decide_eq_true_eq]
 exact ⟨fun ⟨x, h1, h2⟩ => ⟨x, h2, h1⟩, fun ⟨x, h1, h2⟩ => ⟨x, h2, h1⟩⟩
end Go.Proofs.Ytgpjfpcjiebjiaa
