/- Plain: the states of choices, the router, as functions of the choices alone. -/
import Derived.Test.YtgpjfpcjiebjiaaRtO
namespace Go.Proofs.Ytgpjfpcjiebjiaa
open Go.RowKit
set_option linter.unusedVariables false
set_option linter.unusedSimpArgs false

/-- The paths of choices. -/
def psOf (m : MZ) (ch : List Int) : List (List Int) := ch.foldl (withPs m) (ps0 m)
/-- The nodes that may follow choices. -/
def cand (m : MZ) (ch : List Int) : List Int := candL m (psOf m ch) ch
/-- Are choices complete? -/
def cmpC (m : MZ) (ch : List Int) : Bool := cmpB m (psOf m ch)
/-- Are choices open? -/
noncomputable def openC (m : MZ) (ch : List Int) : Bool := openB m (psOf m ch) ch
theorem psOf_nil (m : MZ) : psOf m [] = ps0 m := rfl
theorem psOf_snoc (m : MZ) (ch : List Int) (n : Int) : psOf m (ch ++ [n]) = withPs m (psOf m ch) n := by simp [psOf, List.foldl_append]

section
variable {m : MZ} {ps : List (List Int)} {us us' : List Int}
theorem dec_congr (h : ∀ x, x ∈ us ↔ x ∈ us') (n : Int) : decide (n ∈ us) = decide (n ∈ us') := by rw [decide_eq_decide]; exact h n
theorem candL_congr (h : ∀ x, x ∈ us ↔ x ∈ us') : candL m ps us = candL m ps us' := by
  unfold candL
  simp only [followsB, dec_congr h]
  have : (fun n => followsB m us (ps.length - 1) (ps.getD (ps.length - 1) []).dropLast (m.tasks.getD (ps.length - 1) ([], [])).1 n) = (fun n => followsB m us' (ps.length - 1) (ps.getD (ps.length - 1) []).dropLast (m.tasks.getD (ps.length - 1) ([], [])).1 n) := by
    funext n; simp only [followsB, dec_congr h]
  have h2 : followsB m us (ps.length - 1) (ps.getD (ps.length - 1) []).dropLast (m.tasks.getD (ps.length - 1) ([], [])).1 = followsB m us' (ps.length - 1) (ps.getD (ps.length - 1) []).dropLast (m.tasks.getD (ps.length - 1) ([], [])).1 := this
  rw [h2]
theorem fromL_congr (h : ∀ x, x ∈ us ↔ x ∈ us') (t : Nat) : fromL m ps us t = fromL m ps us' t := by
  unfold fromL
  simp only [dec_congr h]
theorem reachL_congr (h : ∀ x, x ∈ us ↔ x ∈ us') (t : Nat) (f : List Int) : reachL m t f us = reachL m t f us' := by
  unfold reachL
  apply List.filter_congr
  intro x _
  rw [decide_eq_decide]
  exact ⟨fun hr => hr.congr (fun _ => Iff.rfl) h, fun hr => hr.congr (fun _ => Iff.rfl) (fun x => (h x).symm)⟩
theorem openB_congr (h : ∀ x, x ∈ us ↔ x ∈ us') : openB m ps us = openB m ps us' := by
  unfold openB openT
  simp only [fromL_congr h, reachL_congr h]
end

/-- Choices of a maze. -/
inductive IsCh (m : MZ) : List Int → Prop
  | nil : IsCh m []
  | snoc {ch : List Int} {n : Int} : IsCh m ch → n ∈ cand m ch → IsCh m (ch ++ [n])

theorem cand_ncmp {m : MZ} {ch : List Int} {n : Int} (h : n ∈ cand m ch) : cmpC m ch = false := by
  unfold cand candL at h
  unfold cmpC
  cases hc : cmpB m (psOf m ch)
  · rfl
  · rw [if_pos hc] at h; cases h
theorem ncmp_tasks {m : MZ} {ps : List (List Int)} (h : cmpB m ps = false) : 0 < m.tasks.length := by
  rcases Nat.eq_zero_or_pos m.tasks.length with h0 | h0
  · unfold cmpB at h; rw [decide_eq_true h0] at h; cases h
  · exact h0

/-- What is known of the paths of choices. -/
structure PsOk (m : MZ) (ch : List Int) (ps : List (List Int)) : Prop where
  pl : ps.length ≤ m.tasks.length
  pn : 0 < m.tasks.length → 0 < ps.length
  fl : ps.flatten = ch
theorem getD_mem {α : Type} {l : List (List α)} {k : Nat} (h : k < l.length) : l.getD k [] ∈ l := by
  rw [List.getD_eq_getElem?_getD, List.getElem?_eq_getElem h]
  exact List.getElem_mem h
theorem set_last {ps : List (List Int)} (hp : 0 < ps.length) (q : List Int) : ∃ qs p, ps = qs ++ [p] ∧ ps.set (ps.length - 1) q = qs ++ [q] := by
  rcases List.eq_nil_or_concat ps with rfl | ⟨qs, p, rfl⟩
  · simp at hp
  · refine ⟨qs, p, by simp, ?_⟩
    rw [List.concat_eq_append, List.length_append, List.length_singleton, Nat.add_sub_cancel, List.set_append_right _ _ (Nat.le_refl _)]
    simp
theorem addN_eq {ps : List (List Int)} (hp : 0 < ps.length) (n : Int) : ∃ qs p, ps = qs ++ [p] ∧ addN ps n = qs ++ [p ++ [n]] := by
  rcases List.eq_nil_or_concat ps with rfl | ⟨qs, p, rfl⟩
  · simp at hp
  · refine ⟨qs, p, by simp, ?_⟩
    unfold addN
    rw [List.concat_eq_append, List.length_append, List.length_singleton, Nat.add_sub_cancel, List.set_append_right _ _ (Nat.le_refl _)]
    simp
theorem addN_len {ps : List (List Int)} {n : Int} : (addN ps n).length = ps.length := by unfold addN; simp
theorem addN_flat {ps : List (List Int)} (hp : 0 < ps.length) (n : Int) : (addN ps n).flatten = ps.flatten ++ [n] := by
  obtain ⟨qs, p, rfl, h⟩ := addN_eq hp n
  rw [h]; simp
theorem withPs_flat {m : MZ} {ps : List (List Int)} (hp : 0 < ps.length) (n : Int) : (withPs m ps n).flatten = ps.flatten ++ [n] := by
  unfold withPs
  split
  · rw [List.flatten_append, addN_flat hp]; simp
  · exact addN_flat hp n
theorem PsOk.step {m : MZ} {ch : List Int} {ps : List (List Int)} (h : PsOk m ch ps) (ht : 0 < m.tasks.length) (n : Int) : PsOk m (ch ++ [n]) (withPs m ps n) := by
  have hp := h.pn ht
  refine ⟨?_, fun _ => ?_, ?_⟩
  · unfold withPs
    split
    · rename_i h1
      simp only [List.length_append, addN_len, List.length_singleton]
      omega
    · rw [addN_len]; exact h.pl
  · unfold withPs
    split <;> simp [addN_len] <;> omega
  · rw [withPs_flat hp, h.fl]
theorem psOk_nil (m : MZ) : PsOk m [] (psOf m []) := by
  rw [psOf_nil]
  unfold ps0
  split
  · rename_i h; exact ⟨by simp, fun h' => by omega, rfl⟩
  · rename_i h; exact ⟨by simp; omega, fun _ => by simp, rfl⟩
theorem IsCh.psOk {m : MZ} {ch : List Int} (h : IsCh m ch) : PsOk m ch (psOf m ch) := by
  induction h with
  | nil => exact psOk_nil m
  | snoc h hn ih => rw [psOf_snoc]; exact ih.step (ncmp_tasks (cand_ncmp hn)) _

theorem mem_flat_last {ps : List (List Int)} {k : Nat} {x : Int} (hx : (ps.getD k []).getLast? = some x) : x ∈ ps.flatten := by
  have h1 : x ∈ ps.getD k [] := List.mem_of_getLast? hx
  by_cases hk : k < ps.length
  · exact List.mem_flatten.2 ⟨_, getD_mem hk, h1⟩
  · rw [List.getD_eq_getElem?_getD, List.getElem?_eq_none (by omega)] at h1; cases h1
theorem cand_range {m : MZ} (g : Good m) {ch : List Int} (hr : ∀ x ∈ ch, 0 ≤ x ∧ x < m.n) (hf : (psOf m ch).flatten = ch) {n : Int} (h : n ∈ cand m ch) : 0 ≤ n ∧ n < m.n ∧ n ∉ ch := by
  have ht := ncmp_tasks (cand_ncmp h)
  have hpn := cand_ncmp h
  unfold cmpC at hpn
  unfold cand candL at h
  rw [if_neg (by rw [hpn]; simp)] at h
  split at h
  · obtain ⟨h1, h2⟩ := List.mem_filter.1 h
    have h3 := mem_sortL.1 (mem_compact h1)
    simp only [Bool.and_eq_true, Bool.not_eq_true', decide_eq_false_iff_not] at h2
    by_cases hk : (psOf m ch).length - 1 < m.tasks.length
    · rw [List.getD_eq_getElem?_getD, List.getElem?_eq_getElem hk] at h3
      have := g.tn _ (List.getElem_mem hk) n (.inl h3)
      exact ⟨this.1, this.2, h2.2⟩
    · rw [List.getD_eq_getElem?_getD, List.getElem?_eq_none (by omega)] at h3
      cases h3
  · rename_i x hx
    obtain ⟨h1, h2⟩ := List.mem_filter.1 h
    have hx1 : x ∈ ch := by rw [← hf]; exact mem_flat_last hx
    have hx2 := hr x hx1
    have h3 := nextL_range g.dim hx2.1 hx2.2 h1
    unfold followsB at h2
    simp only [Bool.and_eq_true, Bool.not_eq_true', decide_eq_false_iff_not] at h2
    exact ⟨h3.1, h3.2, h2.1.1.2⟩
theorem IsCh.range {m : MZ} (g : Good m) {ch : List Int} (h : IsCh m ch) : (∀ x ∈ ch, 0 ≤ x ∧ x < m.n) ∧ ch.Nodup := by
  induction h with
  | nil => exact ⟨fun x hx => absurd hx List.not_mem_nil, List.nodup_nil⟩
  | snoc h hn ih =>
    have hc := cand_range g ih.1 h.psOk.fl hn
    refine ⟨fun x hx => ?_, ?_⟩
    · rcases List.mem_append.1 hx with hx | hx
      · exact ih.1 x hx
      · rw [List.mem_singleton] at hx
        subst hx
        exact ⟨hc.1, hc.2.1⟩
    · rw [List.nodup_append]
      refine ⟨ih.2, by simp, fun a ha b hb => ?_⟩
      rw [List.mem_singleton] at hb
      subst hb
      rintro rfl
      exact hc.2.2 ha
theorem IsCh.len {m : MZ} (g : Good m) {ch : List Int} (h : IsCh m ch) : ch.length ≤ m.n.toNat := nodup_len (h.range g).2 m.n (h.range g).1
theorem flat_le {ps : List (List Int)} {p : List Int} (h : p ∈ ps) : p.length ≤ ps.flatten.length := by
  induction ps with
  | nil => cases h
  | cons q qs ih =>
    rw [List.flatten_cons, List.length_append]
    rcases List.mem_cons.1 h with rfl | h
    · omega
    · have := ih h; omega
theorem sok_of {m : MZ} (g : Good m) (hl : Lens m) {ch : List Int} {ps : List (List Int)} (h : PsOk m ch ps) (hr : ∀ x ∈ ch, 0 ≤ x ∧ x < m.n) (hc : ch.length ≤ 1000) : SOk m ch ps :=
  ⟨g, hl, h.pl, h.pn, fun p hp => by have := flat_le hp; rw [h.fl] at this; omega, fun p hp x hx => hr x (by rw [← h.fl]; exact List.mem_flatten.2 ⟨p, hp, hx⟩), hc⟩
theorem IsCh.len300 {m : MZ} (g : Good m) {ch : List Int} (h : IsCh m ch) : ch.length ≤ 300 := by
  have h1 := h.len g
  have h2 := g.dim.n1
  have h3 : m.n = m.w * m.h * m.l := rfl
  omega
theorem IsCh.sok {m : MZ} (g : Good m) (hl : Lens m) {ch : List Int} (h : IsCh m ch) : SOk m ch (psOf m ch) :=
  sok_of g hl h.psOk (h.range g).1 (by have := h.len300 g; omega)
theorem IsCh.sok1 {m : MZ} (g : Good m) (hl : Lens m) {ch : List Int} (h : IsCh m ch) {n : Int} (hn : n ∈ cand m ch) : SOk m (ch ++ [n]) (addN (psOf m ch) n) := by
  have h1 := h.psOk
  have ht := ncmp_tasks (cand_ncmp hn)
  have h2 := IsCh.snoc h hn
  refine sok_of g hl ⟨by rw [addN_len]; exact h1.pl, fun h => by rw [addN_len]; exact h1.pn h, by rw [addN_flat (h1.pn ht), h1.fl]⟩ (h2.range g).1 (by have := h2.len300 g; omega)

theorem cand_len {m : MZ} (hl : Lens m) (ch : List Int) : (cand m ch).length ≤ 400000000000 := by
  unfold cand candL
  split
  · simp
  · split
    · refine Nat.le_trans (List.length_filter_le _ _) (Nat.le_trans (compact_len _) ?_)
      unfold sortL
      rw [List.length_mergeSort]
      by_cases hk : (psOf m ch).length - 1 < m.tasks.length
      · rw [List.getD_eq_getElem?_getD, List.getElem?_eq_getElem hk]
        exact (hl.tl _ (List.getElem_mem hk)).1
      · rw [List.getD_eq_getElem?_getD, List.getElem?_eq_none (by omega)]
        simp
    · refine Nat.le_trans (List.length_filter_le _ _) ?_
      have := nextL_len m
      exact Nat.le_trans (this _) (by omega)

/-- The first open choices behind some choices, with a candidate beyond a number. -/
noncomputable def aft (m : MZ) (ch : List Int) (last : Int) : Option Int := (cand m ch).find? fun n => decide (last < n) && openC m (ch ++ [n])
/-- The search back along the choices. -/
noncomputable def backN (m : MZ) (ch : List Int) : Nat → Option (List Int)
  | 0 => none
  | k + 1 => match aft m (ch.take k) (ch.getD k 0) with
    | some n => some (ch.take k ++ [n])
    | none => backN m ch k
/-- A step of the search. -/
noncomputable def stepC (m : MZ) (ch : List Int) : Option (List Int) :=
  match aft m ch (-1) with
  | some n => some (ch ++ [n])
  | none => backN m ch ch.length

/-- A router's state. -/
structure RS where
  ch : List Int
  done : Bool
  steps : Int
noncomputable def RS.one (m : MZ) (s : RS) : RS := match stepC m s.ch with
  | some c => ⟨c, cmpC m c, s.steps + 1⟩
  | none => ⟨[], true, s.steps + 1⟩
noncomputable def RS.run (m : MZ) : Nat → RS → RS
  | 0, s => s
  | n + 1, s => if s.done = true then s else RS.run m n (s.one m)
theorem RS.run_done {m : MZ} {s : RS} (h : s.done = true) : ∀ n, RS.run m n s = s
  | 0 => rfl
  | n + 1 => by simp [RS.run, h]

theorem IsCh.take {m : MZ} {ch : List Int} (h : IsCh m ch) (k : Nat) : IsCh m (ch.take k) := by
  induction h with
  | nil => simpa using IsCh.nil
  | @snoc ch n h hn ih =>
    rcases Nat.lt_or_ge ch.length k with hk | hk
    · rw [List.take_of_length_le (by simp; omega)]; exact .snoc h hn
    · rw [List.take_append_of_le_length hk]; exact ih
theorem IsCh.at {m : MZ} {ch : List Int} (h : IsCh m ch) {k : Nat} (hk : k < ch.length) : ch[k] ∈ cand m (ch.take k) := by
  induction h with
  | nil => simp at hk
  | @snoc ch n h hn ih =>
    rcases Nat.lt_or_ge k ch.length with h1 | h1
    · rw [List.getElem_append_left h1, List.take_append_of_le_length (by omega)]; exact ih h1
    · have h2 : k = ch.length := by simp at hk; omega
      subst h2
      rw [List.getElem_append_right (Nat.le_refl _), List.take_append_of_le_length (Nat.le_refl _), List.take_length]
      simpa using hn
theorem aft_some {m : MZ} {ch : List Int} {last n : Int} (h : aft m ch last = some n) : n ∈ cand m ch ∧ last < n ∧ openC m (ch ++ [n]) = true := by
  unfold aft at h
  have h1 := List.find?_some h
  simp only [Bool.and_eq_true, decide_eq_true_eq] at h1
  exact ⟨List.mem_of_find?_eq_some h, h1.1, h1.2⟩
theorem backN_some {m : MZ} {ch : List Int} (h : IsCh m ch) : ∀ {k : Nat} {c : List Int}, backN m ch k = some c → IsCh m c ∧ 0 < c.length ∧ openC m c = true
  | 0, c, hc => by cases hc
  | k + 1, c, hc => by
    unfold backN at hc
    split at hc
    · rename_i n hn
      injection hc with hc
      subst hc
      obtain ⟨h1, _, h2⟩ := aft_some hn
      exact ⟨.snoc (h.take k) h1, by simp, h2⟩
    · exact backN_some h hc
theorem stepC_some {m : MZ} {ch c : List Int} (h : IsCh m ch) (hc : stepC m ch = some c) : IsCh m c ∧ 0 < c.length ∧ openC m c = true := by
  unfold stepC at hc
  split at hc
  · rename_i n hn
    injection hc with hc
    subst hc
    obtain ⟨h1, _, h2⟩ := aft_some hn
    exact ⟨.snoc h h1, by simp, h2⟩
  · exact backN_some h hc
end Go.Proofs.Ytgpjfpcjiebjiaa
