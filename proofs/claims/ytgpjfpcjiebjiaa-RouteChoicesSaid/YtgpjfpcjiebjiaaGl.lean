/- Plain: the states of choices, the router, as functions of the choices alone. Words for the memory of states and routers; walks: the state functions in terms of choices. Walks: the router's small functions. The router's memory when it is changed: a state pushed, a state taken away, its cells stored. -/
import Derived.Test.YtgpjfpcjiebjiaaGk
import Derived.Maps.AppendAt
namespace Go.Proofs.Ytgpjfpcjiebjiaa
open Go.RowKit
set_option linter.unusedVariables false
set_option linter.unusedSimpArgs false

/-- The paths of choices. -/
def psOf (m : MZ) (ch : List Int) : List (List Int) := ch.foldl (withPs m) (ps0 m)
/-- The nodes that may follow choices. -/
def cand (m : MZ) (ch : List Int) : List Int := candL m (psOf m ch) ch
/-- Are choices complete? -/
def cmpC (m : MZ) (ch : List Int) : Bool := cmpB m (psOf m ch)
/-- Are choices open? -/
noncomputable def openC (m : MZ) (ch : List Int) : Bool := openB m (psOf m ch) ch
theorem psOf_nil (m : MZ) : psOf m [] = ps0 m := rfl
theorem psOf_snoc (m : MZ) (ch : List Int) (n : Int) : psOf m (ch ++ [n]) = withPs m (psOf m ch) n := by simp [psOf, List.foldl_append]

section
variable {m : MZ} {ps : List (List Int)} {us us' : List Int}
theorem dec_congr (h : ∀ x, x ∈ us ↔ x ∈ us') (n : Int) : decide (n ∈ us) = decide (n ∈ us') := by rw [decide_eq_decide]; exact h n
theorem candL_congr (h : ∀ x, x ∈ us ↔ x ∈ us') : candL m ps us = candL m ps us' := by
 unfold candL
 simp only [followsB, dec_congr h]
 have : (fun n => followsB m us (ps.length - 1) (ps.getD (ps.length - 1) []).dropLast (m.tasks.getD (ps.length - 1) ([], [])).1 n) = (fun n => followsB m us' (ps.length - 1) (ps.getD (ps.length - 1) []).dropLast (m.tasks.getD (ps.length - 1) ([], [])).1 n) := by
  funext n; simp only [followsB, dec_congr h]
 have h2 : followsB m us (ps.length - 1) (ps.getD (ps.length - 1) []).dropLast (m.tasks.getD (ps.length - 1) ([], [])).1 = followsB m us' (ps.length - 1) (ps.getD (ps.length - 1) []).dropLast (m.tasks.getD (ps.length - 1) ([], [])).1 := this
 rw [h2]
theorem fromL_congr (h : ∀ x, x ∈ us ↔ x ∈ us') (t : Nat) : fromL m ps us t = fromL m ps us' t := by
 unfold fromL
 simp only [dec_congr h]
theorem reachL_congr (h : ∀ x, x ∈ us ↔ x ∈ us') (t : Nat) (f : List Int) : reachL m t f us = reachL m t f us' := by
 unfold reachL
 apply List.filter_congr
 intro x _
 rw [decide_eq_decide]
 exact ⟨fun hr => hr.congr (fun _ => Iff.rfl) h, fun hr => hr.congr (fun _ => Iff.rfl) (fun x => (h x).symm)⟩
theorem openB_congr (h : ∀ x, x ∈ us ↔ x ∈ us') : openB m ps us = openB m ps us' := by
 unfold openB openT
 simp only [fromL_congr h, reachL_congr h]
end

/-- Choices of a maze. -/
inductive IsCh (m : MZ) : List Int → Prop
 | nil : IsCh m []
 | snoc {ch : List Int} {n : Int} : IsCh m ch → n ∈ cand m ch → IsCh m (ch ++ [n])

theorem cand_ncmp {m : MZ} {ch : List Int} {n : Int} (h : n ∈ cand m ch) : cmpC m ch = false := by
 unfold cand candL at h
 unfold cmpC
 cases hc : cmpB m (psOf m ch)
 ·rfl
 ·rw [if_pos hc] at h; cases h
theorem ncmp_tasks {m : MZ} {ps : List (List Int)} (h : cmpB m ps = false) : 0 < m.tasks.length := by
 rcases Nat.eq_zero_or_pos m.tasks.length with h0 | h0
 ·unfold cmpB at h; rw [decide_eq_true h0] at h; cases h
 ·exact h0

/-- What is known of the paths of choices. -/
structure PsOk (m : MZ) (ch : List Int) (ps : List (List Int)) : Prop where
 pl : ps.length ≤ m.tasks.length
 pn : 0 < m.tasks.length → 0 < ps.length
 fl : ps.flatten = ch
theorem getD_mem {α : Type} {l : List (List α)} {k : Nat} (h : k < l.length) : l.getD k [] ∈ l := by
 rw [List.getD_eq_getElem?_getD, List.getElem?_eq_getElem h]
 exact List.getElem_mem h
theorem set_last {ps : List (List Int)} (hp : 0 < ps.length) (q : List Int) : ∃ qs p, ps = qs ++ [p] ∧ ps.set (ps.length - 1) q = qs ++ [q] := by
 rcases List.eq_nil_or_concat ps with rfl | ⟨qs, p, rfl⟩
 ·simp at hp
 ·refine ⟨qs, p, by simp, ?_⟩
  rw [List.concat_eq_append, List.length_append, List.length_singleton, Nat.add_sub_cancel, List.set_append_right _ _ (Nat.le_refl _)]
  simp
theorem addN_eq {ps : List (List Int)} (hp : 0 < ps.length) (n : Int) : ∃ qs p, ps = qs ++ [p] ∧ addN ps n = qs ++ [p ++ [n]] := by
 rcases List.eq_nil_or_concat ps with rfl | ⟨qs, p, rfl⟩
 ·simp at hp
 ·refine ⟨qs, p, by simp, ?_⟩
  unfold addN
  rw [List.concat_eq_append, List.length_append, List.length_singleton, Nat.add_sub_cancel, List.set_append_right _ _ (Nat.le_refl _)]
  simp
theorem addN_len {ps : List (List Int)} {n : Int} : (addN ps n).length = ps.length := by unfold addN; simp
theorem addN_flat {ps : List (List Int)} (hp : 0 < ps.length) (n : Int) : (addN ps n).flatten = ps.flatten ++ [n] := by
 obtain ⟨qs, p, rfl, h⟩ := addN_eq hp n
 rw [h]; simp
theorem withPs_flat {m : MZ} {ps : List (List Int)} (hp : 0 < ps.length) (n : Int) : (withPs m ps n).flatten = ps.flatten ++ [n] := by
 unfold withPs
 split
 ·rw [List.flatten_append, addN_flat hp]; simp
 ·exact addN_flat hp n
theorem PsOk.step {m : MZ} {ch : List Int} {ps : List (List Int)} (h : PsOk m ch ps) (ht : 0 < m.tasks.length) (n : Int) : PsOk m (ch ++ [n]) (withPs m ps n) := by
 have hp := h.pn ht
 refine ⟨?_, fun _ => ?_, ?_⟩
 ·unfold withPs
  split
  ·rename_i h1
   simp only [List.length_append, addN_len, List.length_singleton]
   omega
  ·rw [addN_len]; exact h.pl
 ·unfold withPs
  split <;> simp [addN_len] <;> omega
 ·rw [withPs_flat hp, h.fl]
theorem psOk_nil (m : MZ) : PsOk m [] (psOf m []) := by
 rw [psOf_nil]
 unfold ps0
 split
 ·rename_i h; exact ⟨by simp, fun h' => by omega, rfl⟩
 ·rename_i h; exact ⟨by simp; omega, fun _ => by simp, rfl⟩
theorem IsCh.psOk {m : MZ} {ch : List Int} (h : IsCh m ch) : PsOk m ch (psOf m ch) := by
 induction h with
 | nil => exact psOk_nil m
 | snoc h hn ih => rw [psOf_snoc]; exact ih.step (ncmp_tasks (cand_ncmp hn)) _

theorem mem_flat_last {ps : List (List Int)} {k : Nat} {x : Int} (hx : (ps.getD k []).getLast? = some x) : x ∈ ps.flatten := by
 have h1 : x ∈ ps.getD k [] := List.mem_of_getLast? hx
 by_cases hk : k < ps.length
 ·exact List.mem_flatten.2 ⟨_, getD_mem hk, h1⟩
 ·rw [List.getD_eq_getElem?_getD, List.getElem?_eq_none (by omega)] at h1; cases h1
theorem cand_range {m : MZ} (g : Good m) {ch : List Int} (hr : ∀ x ∈ ch, 0 ≤ x ∧ x < m.n) (hf : (psOf m ch).flatten = ch) {n : Int} (h : n ∈ cand m ch) : 0 ≤ n ∧ n < m.n ∧ n ∉ ch := by
 have ht := ncmp_tasks (cand_ncmp h)
 have hpn := cand_ncmp h
 unfold cmpC at hpn
 unfold cand candL at h
 rw [if_neg (by rw [hpn]; simp)] at h
 split at h
 ·obtain ⟨h1, h2⟩ := List.mem_filter.1 h
  have h3 := mem_sortL.1 (mem_compact h1)
  simp only [Bool.and_eq_true, Bool.not_eq_true', decide_eq_false_iff_not] at h2
  by_cases hk : (psOf m ch).length - 1 < m.tasks.length
  ·rw [List.getD_eq_getElem?_getD, List.getElem?_eq_getElem hk] at h3
   have := g.tn _ (List.getElem_mem hk) n (.inl h3)
   exact ⟨this.1, this.2, h2.2⟩
  ·rw [List.getD_eq_getElem?_getD, List.getElem?_eq_none (by omega)] at h3
   cases h3
 ·rename_i x hx
  obtain ⟨h1, h2⟩ := List.mem_filter.1 h
  have hx1 : x ∈ ch := by rw [← hf]; exact mem_flat_last hx
  have hx2 := hr x hx1
  have h3 := nextL_range g.dim hx2.1 hx2.2 h1
  unfold followsB at h2
  simp only [Bool.and_eq_true, Bool.not_eq_true', decide_eq_false_iff_not] at h2
  exact ⟨h3.1, h3.2, h2.1.1.2⟩
theorem IsCh.range {m : MZ} (g : Good m) {ch : List Int} (h : IsCh m ch) : (∀ x ∈ ch, 0 ≤ x ∧ x < m.n) ∧ ch.Nodup := by
 induction h with
 | nil => exact ⟨fun x hx => absurd hx List.not_mem_nil, List.nodup_nil⟩
 | snoc h hn ih =>
  have hc := cand_range g ih.1 h.psOk.fl hn
  refine ⟨fun x hx => ?_, ?_⟩
  ·rcases List.mem_append.1 hx with hx | hx
   ·exact ih.1 x hx
   ·rw [List.mem_singleton] at hx
    subst hx
    exact ⟨hc.1, hc.2.1⟩
  ·rw [List.nodup_append]
   refine ⟨ih.2, by simp, fun a ha b hb => ?_⟩
   rw [List.mem_singleton] at hb
   subst hb
   rintro rfl
   exact hc.2.2 ha
theorem IsCh.len {m : MZ} (g : Good m) {ch : List Int} (h : IsCh m ch) : ch.length ≤ m.n.toNat := nodup_len (h.range g).2 m.n (h.range g).1
theorem flat_le {ps : List (List Int)} {p : List Int} (h : p ∈ ps) : p.length ≤ ps.flatten.length := by
 induction ps with
 | nil => cases h
 | cons q qs ih =>
  rw [List.flatten_cons, List.length_append]
  rcases List.mem_cons.1 h with rfl | h
  ·omega
  ·have := ih h; omega
theorem sok_of {m : MZ} (g : Good m) (hl : Lens m) {ch : List Int} {ps : List (List Int)} (h : PsOk m ch ps) (hr : ∀ x ∈ ch, 0 ≤ x ∧ x < m.n) (hc : ch.length ≤ 1000) : SOk m ch ps :=
 ⟨g, hl, h.pl, h.pn, fun p hp => by have := flat_le hp; rw [h.fl] at this; omega, fun p hp x hx => hr x (by rw [← h.fl]; exact List.mem_flatten.2 ⟨p, hp, hx⟩), hc⟩
theorem IsCh.len300 {m : MZ} (g : Good m) {ch : List Int} (h : IsCh m ch) : ch.length ≤ 300 := by
 have h1 := h.len g
 have h2 := g.dim.n1
 have h3 : m.n = m.w * m.h * m.l := rfl
 omega
theorem IsCh.sok {m : MZ} (g : Good m) (hl : Lens m) {ch : List Int} (h : IsCh m ch) : SOk m ch (psOf m ch) :=
 sok_of g hl h.psOk (h.range g).1 (by have := h.len300 g; omega)
theorem IsCh.sok1 {m : MZ} (g : Good m) (hl : Lens m) {ch : List Int} (h : IsCh m ch) {n : Int} (hn : n ∈ cand m ch) : SOk m (ch ++ [n]) (addN (psOf m ch) n) := by
 have h1 := h.psOk
 have ht := ncmp_tasks (cand_ncmp hn)
 have h2 := IsCh.snoc h hn
 refine sok_of g hl ⟨by rw [addN_len]; exact h1.pl, fun h => by rw [addN_len]; exact h1.pn h, by rw [addN_flat (h1.pn ht), h1.fl]⟩ (h2.range g).1 (by have := h2.len300 g; omega)

theorem cand_len {m : MZ} (hl : Lens m) (ch : List Int) : (cand m ch).length ≤ 400000000000 := by
 unfold cand candL
 split
 ·simp
 ·split
  ·refine Nat.le_trans (List.length_filter_le _ _) (Nat.le_trans (compact_len _) ?_)
   unfold sortL
   rw [List.length_mergeSort]
   by_cases hk : (psOf m ch).length - 1 < m.tasks.length
   ·rw [List.getD_eq_getElem?_getD, List.getElem?_eq_getElem hk]
    exact (hl.tl _ (List.getElem_mem hk)).1
   ·rw [List.getD_eq_getElem?_getD, List.getElem?_eq_none (by omega)]
    simp
  ·refine Nat.le_trans (List.length_filter_le _ _) ?_
   have := nextL_len m
   exact Nat.le_trans (this _) (by omega)

/-- The first open choices behind some choices, with a candidate beyond a number. -/
noncomputable def aft (m : MZ) (ch : List Int) (last : Int) : Option Int := (cand m ch).find? fun n => decide (last < n) && openC m (ch ++ [n])
/-- The search back along the choices. -/
noncomputable def backN (m : MZ) (ch : List Int) : Nat → Option (List Int)
 | 0 => none
 | k + 1 => match aft m (ch.take k) (ch.getD k 0) with
  | some n => some (ch.take k ++ [n])
  | none => backN m ch k
/-- A step of the search. -/
noncomputable def stepC (m : MZ) (ch : List Int) : Option (List Int) :=
 match aft m ch (-1) with
 | some n => some (ch ++ [n])
 | none => backN m ch ch.length

/-- A router's state. -/
structure RS where
 ch : List Int
 done : Bool
 steps : Int
noncomputable def RS.one (m : MZ) (s : RS) : RS := match stepC m s.ch with
 | some c => ⟨c, cmpC m c, s.steps + 1⟩
 | none => ⟨[], true, s.steps + 1⟩
noncomputable def RS.run (m : MZ) : Nat → RS → RS
 | 0, s => s
 | n + 1, s => if s.done = true then s else RS.run m n (s.one m)
theorem RS.run_done {m : MZ} {s : RS} (h : s.done = true) : ∀ n, RS.run m n s = s
 | 0 => rfl
 | n + 1 => by simp [RS.run, h]

theorem IsCh.take {m : MZ} {ch : List Int} (h : IsCh m ch) (k : Nat) : IsCh m (ch.take k) := by
 induction h with
 | nil => simpa using IsCh.nil
 | @snoc ch n h hn ih =>
  rcases Nat.lt_or_ge ch.length k with hk | hk
  ·rw [List.take_of_length_le (by simp; omega)]; exact .snoc h hn
  ·rw [List.take_append_of_le_length hk]; exact ih
theorem IsCh.at {m : MZ} {ch : List Int} (h : IsCh m ch) {k : Nat} (hk : k < ch.length) : ch[k] ∈ cand m (ch.take k) := by
 induction h with
 | nil => simp at hk
 | @snoc ch n h hn ih =>
  rcases Nat.lt_or_ge k ch.length with h1 | h1
  ·rw [List.getElem_append_left h1, List.take_append_of_le_length (by omega)]; exact ih h1
  ·have h2 : k = ch.length := by simp at hk; omega
   subst h2
   rw [List.getElem_append_right (Nat.le_refl _), List.take_append_of_le_length (Nat.le_refl _), List.take_length]
   simpa using hn
theorem aft_some {m : MZ} {ch : List Int} {last n : Int} (h : aft m ch last = some n) : n ∈ cand m ch ∧ last < n ∧ openC m (ch ++ [n]) = true := by
 unfold aft at h
 have h1 := List.find?_some h
 simp only [Bool.and_eq_true, decide_eq_true_eq] at h1
 exact ⟨List.mem_of_find?_eq_some h, h1.1, h1.2⟩
theorem backN_some {m : MZ} {ch : List Int} (h : IsCh m ch) : ∀ {k : Nat} {c : List Int}, backN m ch k = some c → IsCh m c ∧ 0 < c.length ∧ openC m c = true
 | 0, c, hc => by cases hc
 | k + 1, c, hc => by
  unfold backN at hc
  split at hc
  ·rename_i n hn
   injection hc with hc
   subst hc
   obtain ⟨h1, _, h2⟩ := aft_some hn
   exact ⟨.snoc (h.take k) h1, by simp, h2⟩
  ·exact backN_some h hc
theorem stepC_some {m : MZ} {ch c : List Int} (h : IsCh m ch) (hc : stepC m ch = some c) : IsCh m c ∧ 0 < c.length ∧ openC m c = true := by
 unfold stepC at hc
 split at hc
 ·rename_i n hn
  injection hc with hc
  subst hc
  obtain ⟨h1, _, h2⟩ := aft_some hn
  exact ⟨.snoc h h1, by simp, h2⟩
 ·exact backN_some h hc
end Go.Proofs.Ytgpjfpcjiebjiaa

namespace Go.Proofs.Ytgpjfpcjiebjiaa
open Go.RowKit
set_option linter.unusedVariables false
set_option linter.unusedSimpArgs false
attribute [local go_sem ↓] Go.wp_at_zero Go.wp_at_succ

/-- The state of choices at p. -/
def StC (w : World) (ok : Nat → Prop) (p : Nat) (m : MZ) (ch : List Int) : Prop :=
 ∃ us f u t vc vp gu, (∀ x, x ∈ us ↔ x ∈ ch) ∧ StAt w ok p m ch (psOf m ch) us f u t vc vp gu
section
variable {w w' : World} {ok ok' : Nat → Prop} {p : Nat} {m : MZ} {ch : List Int}
theorem StC.keep (h : StC w ok p m ch) (hk : Same ok w w') : StC w' ok p m ch := by
 obtain ⟨us, f, u, t, vc, vp, gu, h1, h2⟩ := h
 exact ⟨us, f, u, t, vc, vp, gu, h1, h2.keep hk⟩
theorem StC.weaken (h : StC w ok p m ch) (hk : ∀ b, ok b → ok' b) : StC w ok' p m ch := by
 obtain ⟨us, f, u, t, vc, vp, gu, h1, h2⟩ := h
 exact ⟨us, f, u, t, vc, vp, gu, h1, h2.weaken hk⟩
theorem StC.bound (h : StC w ok p m ch) : StC w (fun b => ok b ∧ b < w.heap.size) p m ch := by
 obtain ⟨us, f, u, t, vc, vp, gu, h1, h2⟩ := h
 exact ⟨us, f, u, t, vc, vp, gu, h1, h2.bound⟩
theorem StC.ext (h : StC w ok p m ch) (hE : Ext w w') : StC w' ok p m ch := h.keep (Same.of_below hE)
end

theorem begin_c {ok : Nat → Prop} {v : Value} {m : MZ} (w : World) (hm : MazeV w ok v m) (htk : m.tasks.length ≤ 100000) :
  Calls Try.prog 66 #[v] w fun e w' => ∃ p, e = .returned (.pointer (some ⟨p, 0, none⟩)) ∧ Ext w w' ∧ StC w' (fun b => ok b ∨ w.heap.size ≤ b) p m [] := by
 refine (begin_calls w hm htk).mono ?_
 rintro e w' ⟨v', rfl, hE, g, f, u, t, vc, vp, gu, rfl, h⟩
 exact ⟨g, rfl, hE, [], f, u, t, vc, vp, gu, fun _ => Iff.rfl, h⟩
theorem complete_c {ok : Nat → Prop} {m : MZ} {ch : List Int} {p : Nat} (w : World) (h : StC w ok p m ch) (g : Good m) (hl : Lens m) (hc : IsCh m ch) :
  Calls Try.prog 63 #[.pointer (some ⟨p, 0, none⟩)] w fun e w' => e = .returned (.bool (cmpC m ch)) ∧ Drew w w' := by
 obtain ⟨us, f, u, t, vc, vp, gu, h1, h2⟩ := h
 exact complete_calls w h2 (hc.sok g hl)
theorem candidates_c {ok : Nat → Prop} {m : MZ} {ch : List Int} {p : Nat} (w : World) (h : StC w ok p m ch) (g : Good m) (hl : Lens m) (hc : IsCh m ch) :
  Calls Try.prog 68 #[.pointer (some ⟨p, 0, none⟩)] w fun e w' => ∃ v', e = .returned v' ∧ Mk w w' v' (cand m ch) := by
 obtain ⟨us, f, u, t, vc, vp, gu, h1, h2⟩ := h
 unfold cand
 rw [← candL_congr h1]
 exact candidates_calls w h2 (hc.sok g hl)
theorem open_c {ok : Nat → Prop} {m : MZ} {ch : List Int} {p : Nat} (w : World) (h : StC w ok p m ch) (g : Good m) (hl : Lens m) (hc : IsCh m ch) :
  Calls Try.prog 70 #[.pointer (some ⟨p, 0, none⟩)] w fun e w' => e = .returned (.bool (openC m ch)) ∧ Ext w w' := by
 obtain ⟨us, f, u, t, vc, vp, gu, h1, h2⟩ := h
 unfold openC
 rw [← openB_congr h1]
 exact open_calls w h2 (hc.sok g hl)
theorem with_c {ok : Nat → Prop} {m : MZ} {ch : List Int} {p : Nat} {n : Int} (w : World) (h : StC w ok p m ch) (g : Good m) (hl : Lens m) (hc : IsCh m ch) (hn : n ∈ cand m ch) :
  Calls Try.prog 69 #[.pointer (some ⟨p, 0, none⟩), .int .i64 n] w fun e w' => ∃ q, e = .returned (.pointer (some ⟨q, 0, none⟩)) ∧ Ext w w' ∧ StC w' (fun b => (ok b ∧ b < w.heap.size) ∨ w.heap.size ≤ b) q m (ch ++ [n]) := by
 obtain ⟨us, f, u, t, vc, vp, gu, h1, h2⟩ := h
 have hp := hc.psOk.pn (ncmp_tasks (cand_ncmp hn))
 refine (with_calls n w h2.bound (hc.sok g hl) (hc.sok1 g hl hn) hp).mono ?_
 rintro e w' ⟨v', rfl, hE, us', h3, q, f', u', t', vc', vp', gu', rfl, h4⟩
 refine ⟨q, rfl, hE, us', f', u', t', vc', vp', gu', fun x => ?_, ?_⟩
 ·rw [h3, h1, List.mem_append, List.mem_singleton]; exact Or.comm
 ·rw [psOf_snoc]; exact h4

/-! ### Routers -/
/-- What a router's states lie in. -/
def okR (X Y : Nat → Prop) (g gr : Nat) (b : Nat) : Prop := (X b ∧ b ≠ g ∧ b ≠ gr) ∨ Y b
def ptrV (p : Nat) : Value := .pointer (some ⟨p, 0, none⟩)
/-- The row of a router's states. -/
def RtRow (w : World) (X Y : Nat → Prop) (g gr cap : Nat) (m : MZ) (ch : List Int) (ptrs : List Nat) : Prop :=
 w.ownsRow 0 88 1 (.slice (some ⟨gr, 0, none⟩) ptrs.length cap) ptrs.length (ptrs.map ptrV) ∧ ptrs.length = ch.length + 1 ∧ ∀ (k p : Nat), ptrs[k]? = some p → StC w (okR X Y g gr) p m (ch.take k)
/-- The router at g: X holds what it made, Y the maze. -/
structure RtAt (w : World) (X Y : Nat → Prop) (g gr cap : Nat) (m : MZ) (s : RS) (ptrs : List Nat) : Prop where
 blk : Blk w g 87 #[.slice (some ⟨gr, 0, none⟩) ptrs.length cap, .bool s.done, .int .i64 s.steps]
 xg : X g
 xr : X gr
 ne : g ≠ gr
 yg : ¬ Y g
 yr : ¬ Y gr
 row : RtRow w X Y g gr cap m s.ch ptrs
/-- What a router may change. -/
structure Chg (X : Nat → Prop) (w w' : World) : Prop where
 os : w'.os = w.os
 tape : w'.tape = w.tape
 output : w'.output = w.output
 size : w.heap.size ≤ w'.heap.size
 block : ∀ b, b < w.heap.size → ¬ X b → w'.heap[b]? = w.heap[b]?
theorem Chg.refl (X : Nat → Prop) (w : World) : Chg X w w := ⟨rfl, rfl, rfl, Nat.le_refl _, fun _ _ _ => rfl⟩
theorem Chg.of_ext {X : Nat → Prop} {w w' : World} (h : Ext w w') : Chg X w w' := ⟨h.os, h.tape, h.output, h.size, fun b hb _ => h.block b hb⟩
theorem Chg.trans {X X' : Nat → Prop} {a b c : World} (h : Chg X a b) (h' : Chg X' b c) (hX : ∀ k, k < a.heap.size → X' k → X k) : Chg X a c :=
 ⟨h'.os.trans h.os, h'.tape.trans h.tape, h'.output.trans h.output, Nat.le_trans h.size h'.size, fun k hk hx => (h'.block k (Nat.lt_of_lt_of_le hk h.size) (fun hx' => hx (hX k hk hx'))).trans (h.block k hk hx)⟩
theorem Chg.same {X ok : Nat → Prop} {w w' : World} (h : Chg X w w') (hd : ∀ b, ok b → ¬ X b) : Same ok w w' := fun b hb hlt => h.block b hlt (hd b hb)
theorem Chg.below {X : Nat → Prop} {w w' : World} {B : Nat} (h : Chg X w w') (hB : B ≤ w.heap.size) (hX : ∀ b, X b → B ≤ b) : Below B w w' :=
 ⟨h.os, h.tape, h.output, h.size, fun b hb => h.block b (by omega) (fun hx => by have := hX b hx; omega)⟩
section
variable {w w' : World} {X Y X' Y' : Nat → Prop} {g gr cap : Nat} {m : MZ} {s : RS} {ptrs : List Nat} {ch : List Int}
theorem row_keep {B n c : Nat} {e : TypeId} {size : Nat} {xs : List Value} (h : w.ownsRow B e size (.slice (some ⟨gr, 0, none⟩) n c) n xs) (hb : w'.heap[gr]? = w.heap[gr]?) : w'.ownsRow B e size (.slice (some ⟨gr, 0, none⟩) n c) n xs := by
 obtain ⟨hl, ⟨h0, _⟩ | ⟨g', cap', cur, hv, h1, h2, h3⟩⟩ := h
 ·cases h0
 ·have hg : g' = gr := by injection hv with hv; injection hv with hv; injection hv with hv; exact hv.symm
  subst hg
  exact ⟨hl, .inr ⟨g', cap', cur, hv, h1, hb.trans h2, h3⟩⟩
theorem row_shrink {B n k c : Nat} {e : TypeId} {xs : List Value} (h : w.ownsRow B e 1 (.slice (some ⟨gr, 0, none⟩) n c) n xs) (hk : k ≤ n) : w.ownsRow B e 1 (.slice (some ⟨gr, 0, none⟩) k c) k (xs.take k) := by
 obtain ⟨hl, ⟨h0, _⟩ | ⟨g', cap', cur, hv, h1, h2, h3, h4, h5, h6⟩⟩ := h
 ·cases h0
 ·injection hv with hv hn hc
  injection hv with hv
  injection hv with hv
  subst hv hc
  refine ⟨by rw [List.length_take, hl]; omega, .inr ⟨gr, c, cur, rfl, h1, h2, by omega, h4, h5, ?_⟩⟩
  rw [← h6, List.take_take]
  congr 1
  omega
theorem RtRow.keep (h : RtRow w X Y g gr cap m ch ptrs) (hk : ∀ b, b < w.heap.size → (X b ∧ b ≠ g) ∨ Y b → w'.heap[b]? = w.heap[b]?) (hgr : X gr) (hne : g ≠ gr) : RtRow w' X Y g gr cap m ch ptrs := by
 obtain ⟨h1, h2, h3⟩ := h
 have hgl : gr < w.heap.size := (h1.lt gr rfl).2
 refine ⟨row_keep h1 (hk gr hgl (.inl ⟨hgr, Ne.symm hne⟩)), h2, fun k p hp => (h3 k p hp).keep fun b hb hlt => hk b hlt ?_⟩
 rcases hb with hb | hb
 ·exact .inl ⟨hb.1, hb.2.1⟩
 ·exact .inr hb
theorem RtRow.last (h : RtRow w X Y g gr cap m ch ptrs) : ∃ p, ptrs[ch.length]? = some p ∧ StC w (okR X Y g gr) p m ch ∧ w.cell? ⟨gr, ch.length, none⟩ = some (ptrV p) := by
 obtain ⟨h1, h2, h3⟩ := h
 have hlt : ch.length < ptrs.length := by omega
 refine ⟨ptrs[ch.length], List.getElem?_eq_getElem hlt, by have := h3 _ _ (List.getElem?_eq_getElem hlt); rwa [List.take_length] at this, ?_⟩
 rw [World.ownsRow.cellAt h1 _ (by omega), List.getElem?_map, List.getElem?_eq_getElem hlt]
 rfl
theorem RtAt.same (h : RtAt w X Y g gr cap m s ptrs) (hk : ∀ b, b < w.heap.size → X b ∨ Y b → w'.heap[b]? = w.heap[b]?) : RtAt w' X Y g gr cap m s ptrs :=
 ⟨(hk g (lt_of_some h.blk) (.inl h.xg)).trans h.blk, h.xg, h.xr, h.ne, h.yg, h.yr, h.row.keep (fun b hb hx => hk b hb (by rcases hx with hx | hx; exact .inl hx.1; exact .inr hx)) h.xr h.ne⟩
theorem RtAt.ext (h : RtAt w X Y g gr cap m s ptrs) (hE : Ext w w') : RtAt w' X Y g gr cap m s ptrs := h.same fun b hb _ => hE.block b hb
end
end Go.Proofs.Ytgpjfpcjiebjiaa

namespace Go.Proofs.Ytgpjfpcjiebjiaa
open Go.RowKit
set_option linter.unusedVariables false
set_option linter.unusedSimpArgs false
attribute [local go_sem ↓] Go.wp_at_zero Go.wp_at_succ

set_option maxHeartbeats 1000000 in
set_option maxRecDepth 100000 in
theorem last_calls {g gr P cap n p : Nat} (w : World) (hc0 : w.cell? ⟨g, 0, none⟩ = some (.slice (some ⟨gr, 0, none⟩) P cap)) (hcl : w.cell? ⟨gr, n, none⟩ = some (ptrV p)) (hP : P = n + 1) (hcap : P ≤ cap) (hn : n ≤ 1000) :
  Calls Try.prog 62 #[.pointer (some ⟨g, 0, none⟩)] w fun e w' => e = .returned (ptrV p) ∧ Drew w w' := by
 have r0 := Ext.rule hc0
 have r1 := Ext.rule hcl
 have hq0 : (0 : Int) ≤ (n : Int) := by omega
 have hq1 : (n : Int) < (P : Int) := by omega
 have hqw : IntKind.i64.wrap ((P : Int) - 1) = (n : Int) := by rw [IntKind.wrap_i64]; omega
 clear hc0 hcl hP
 have hx := Ext.refl w
 go_enter Try.func62, Try.ntmps62
 go_wp2_with fail
 go_quiet (fail)
 go_wp2
 go_ret
 exact ⟨rfl, (Drew.refl w).more _⟩
theorem last_c {w w' : World} {X Y : Nat → Prop} {g gr cap p : Nat} {m : MZ} {s : RS} {ptrs : List Nat} (h : RtAt w X Y g gr cap m s ptrs) (hp : ptrs[s.ch.length]? = some p) (hn : s.ch.length ≤ 1000) :
  Calls Try.prog 62 #[.pointer (some ⟨g, 0, none⟩)] w fun e w' => e = .returned (.pointer (some ⟨p, 0, none⟩)) ∧ Drew w w' := by
 obtain ⟨p', hp', _, hc⟩ := h.row.last
 rw [hp] at hp'
 injection hp' with hp'
 subst hp'
 exact last_calls w (h.blk.cell (k := 0) rfl) hc h.row.2.1 (own_cap h.row.1) hn

set_option maxRecDepth 100000 in
theorem steps_c {X Y : Nat → Prop} {g gr cap : Nat} {m : MZ} {s : RS} {ptrs : List Nat} (w : World) (h : RtAt w X Y g gr cap m s ptrs) :
  Calls Try.prog 28 #[.pointer (some ⟨g, 0, none⟩)] w fun e w' => e = .returned (.int .i64 s.steps) ∧ w = w' := by
 have hc : w.cell? ⟨g, 2, none⟩ = some (.int .i64 s.steps) := h.blk.cell (k := 2) rfl
 clear h
 go_enter Try.func28, Try.ntmps28
 go_wp2
 go_ret
 exact ⟨rfl, rfl⟩

set_option maxHeartbeats 1000000 in
set_option maxRecDepth 100000 in
theorem choices_c {X Y : Nat → Prop} {g gr cap : Nat} {m : MZ} {s : RS} {ptrs : List Nat} (w : World) (h : RtAt w X Y g gr cap m s ptrs) (hn : s.ch.length ≤ 1000) :
  Calls Try.prog 29 #[.pointer (some ⟨g, 0, none⟩)] w fun e w' => ∃ v', e = .returned v' ∧ Mk w w' v' s.ch := by
 obtain ⟨p, hp, hst, hc1⟩ := h.row.last
 have HL := Lib.hid (last_c (w' := w) h hp hn)
 have hc0 : w.cell? ⟨g, 0, none⟩ = some (.slice (some ⟨gr, 0, none⟩) ptrs.length cap) := h.blk.cell (k := 0) rfl
 have hcap := own_cap h.row.1
 have hlen := h.row.2.1
 clear h hp hc1
 obtain ⟨us, f, u, t, vc, vp, gu, h1, h2⟩ := hst
 obtain ⟨r0, r1, r2, r3, r4, r5, r6, r7, r8⟩ := h2.rules
 have HS := Lib.hid h2.ch
 clear h1 h2
 generalize ptrs.length = P at *
 have hP0 : decide ((P : Int) = 0) = false := decide_eq_false (by omega)
 have hP1 : ((P : Int) == 0) = false := by rw [beq_eq_false_iff_ne]; omega
 have HN := Lib.hid hn
 clear hlen
 go_enter Try.func29, Try.ntmps29
 go_wp2_with fail
 refine HL.out.mono ?_
 rintro e w1 ⟨rfl, hd⟩
 have hx : Ext w w1 := hd.below _
 clear hd
 go_wp2_with fail
 refine (cloneJ_calls _ (HS.out.below hx) (by have := HN.out; omega)).mono ?_
 rintro e w2 ⟨v', rfl, hM⟩
 have HM := Lib.hid (hx.mono_mk hM)
 clear hM
 go_wp2_with fail
 go_ret
 exact ⟨_, rfl, HM.out⟩
end Go.Proofs.Ytgpjfpcjiebjiaa

namespace Go.Proofs.Ytgpjfpcjiebjiaa
open Go.RowKit
set_option linter.unusedVariables false
set_option linter.unusedSimpArgs false

section
variable {w w' W : World} {X Y : Nat → Prop} {g gr cap : Nat} {m : MZ} {s : RS} {ptrs : List Nat} {ch : List Int}
theorem RtAt.okR_ne (h : RtAt w X Y g gr cap m s ptrs) {b : Nat} (hb : okR X Y g gr b) : b ≠ g ∧ b ≠ gr := by
 rcases hb with ⟨_, h1, h2⟩ | hy
 ·exact ⟨h1, h2⟩
 ·exact ⟨fun e => h.yg (e ▸ hy), fun e => h.yr (e ▸ hy)⟩
/-- The block of the router itself stored into. -/
theorem RtAt.setg (h : RtAt w X Y g gr cap m s ptrs) (j : Nat) (v : Value) {s' : RS} (hch : s'.ch = s.ch) (hb : (#[.slice (some ⟨gr, 0, none⟩) ptrs.length cap, .bool s.done, .int .i64 s.steps] : Array Value).setIfInBounds j v = #[.slice (some ⟨gr, 0, none⟩) ptrs.length cap, .bool s'.done, .int .i64 s'.steps]) :
  RtAt (w.setCell ⟨g, j, none⟩ v) X Y g gr cap m s' ptrs :=
 ⟨by have := h.blk.set (k := j) v; rwa [hb] at this, h.xg, h.xr, h.ne, h.yg, h.yr, by
  rw [hch]
  exact h.row.keep (fun b hb hx => Below.heap_setCell w ⟨g, j, none⟩ v b (by
   show b ≠ g
   rcases hx with hx | hx
   ·exact hx.2
   ·exact fun e => h.yg (e ▸ hx))) h.xr h.ne⟩
theorem RtAt.done (h : RtAt w X Y g gr cap m s ptrs) (d : Bool) : RtAt (w.setCell ⟨g, 1, none⟩ (.bool d)) X Y g gr cap m ⟨s.ch, d, s.steps⟩ ptrs := h.setg 1 _ rfl rfl
theorem RtAt.stepsTo (h : RtAt w X Y g gr cap m s ptrs) (n : Int) : RtAt (w.setCell ⟨g, 2, none⟩ (.int .i64 n)) X Y g gr cap m ⟨s.ch, s.done, n⟩ ptrs := h.setg 2 _ rfl rfl
theorem RtAt.widen {X' : Nat → Prop} (h : RtAt w X Y g gr cap m s ptrs) (hX : ∀ b, X b → X' b) : RtAt w X' Y g gr cap m s ptrs :=
 ⟨h.blk, hX _ h.xg, hX _ h.xr, h.ne, h.yg, h.yr, h.row.1, h.row.2.1, fun k p hp => (h.row.2.2 k p hp).weaken fun b hb => by
  rcases hb with hb | hb
  ·exact .inl ⟨hX _ hb.1, hb.2⟩
  ·exact .inr hb⟩
theorem chg_setg {X : Nat → Prop} (w : World) (hx : X g) (j : Nat) (v : Value) : Chg X w (w.setCell ⟨g, j, none⟩ v) :=
 ⟨rfl, rfl, rfl, by simp [World.setCell], fun b _ hb => Below.heap_setCell w ⟨g, j, none⟩ v b (by rintro rfl; exact hb hx)⟩
theorem Chg.tr {X : Nat → Prop} {a b c : World} (h : Chg X a b) (h' : Chg X b c) : Chg X a c := h.trans h' (fun _ _ h => h)
theorem Chg.ext_r {X : Nat → Prop} {a b c : World} (h : Chg X a b) (h' : Ext b c) : Chg X a c := h.tr (Chg.of_ext h')
/-- The last states taken away. -/
theorem RtAt.pop (h : RtAt w X Y g gr cap m s ptrs) {k : Nat} (hk : k ≤ s.ch.length) : RtAt (w.setCell ⟨g, 0, none⟩ (.slice (some ⟨gr, 0, none⟩) (k + 1) cap)) X Y g gr cap m ⟨s.ch.take k, s.done, s.steps⟩ (ptrs.take (k + 1)) := by
 have hlen := h.row.2.1
 have hl : (ptrs.take (k + 1)).length = k + 1 := by rw [List.length_take]; omega
 have hkeep : ∀ b, (X b ∧ b ≠ g) ∨ Y b → (w.setCell ⟨g, 0, none⟩ (.slice (some ⟨gr, 0, none⟩) (k + 1) cap)).heap[b]? = w.heap[b]? := fun b hx => Below.heap_setCell w ⟨g, 0, none⟩ _ b (by
  show b ≠ g
  rcases hx with hx | hx
  ·exact hx.2
  ·exact fun e => h.yg (e ▸ hx))
 have hr : w.ownsRow 0 88 1 (.slice (some ⟨gr, 0, none⟩) (k + 1) cap) (k + 1) ((ptrs.take (k + 1)).map ptrV) := by
  rw [List.map_take]
  exact row_shrink h.row.1 (by omega)
 refine ⟨?_, h.xg, h.xr, h.ne, h.yg, h.yr, ?_, ?_, ?_⟩
 ·have := h.blk.set (k := 0) (.slice (some ⟨gr, 0, none⟩) (k + 1) cap)
  rw [hl]
  exact this
 ·rw [hl]
  exact row_keep hr (hkeep gr (.inl ⟨h.xr, Ne.symm h.ne⟩))
 ·simp only [List.length_take]; omega
 ·intro j p hp
  have hj : j < k + 1 := by
   rcases Nat.lt_or_ge j (k + 1) with h1 | h1
   ·exact h1
   ·rw [List.getElem?_eq_none (by omega)] at hp; cases hp
  rw [List.getElem?_take_of_lt hj] at hp
  have := h.row.2.2 j p hp
  rw [List.take_take, Nat.min_eq_left (by omega)]
  exact this.keep fun b hb _ => hkeep b (by
   rcases hb with hb | hb
   ·exact .inl ⟨hb.1, hb.2.1⟩
   ·exact .inr hb)
/-- A state pushed. -/
theorem RtAt.push (h : RtAt w X Y g gr cap m s ptrs) {n : Int} {q : Nat} {o : Obj} {v' : Value} {w5 : World} (hst : StC w (okR X Y g gr) q m (s.ch ++ [n])) (hXn : ∀ b, w.heap.size ≤ b → X b) (hYb : ∀ b, Y b → b < w.heap.size)
  (hown : w5.ownsRow 0 88 1 v' (ptrs.length + 1) (ptrs.map ptrV ++ [ptrV q])) (hg : (w.alloc o).grownBy w5 (some gr)) (hv : v'.ownBlock = some gr ∨ v'.ownBlock = some (w.heap.size + 1)) :
  ∃ gr' cap', v' = .slice (some ⟨gr', 0, none⟩) (ptrs.length + 1) cap' ∧ RtAt (w5.setCell ⟨g, 0, none⟩ v') X Y g gr' cap' m ⟨s.ch ++ [n], s.done, s.steps⟩ (ptrs ++ [q]) ∧ Chg X w (w5.setCell ⟨g, 0, none⟩ v') := by
 obtain ⟨gr', cap', rfl, _, hlt⟩ := World.ownsRow.form hown (by omega)
 have hg0 : gr' = gr ∨ gr' = w.heap.size + 1 := by
  rcases hv with hv | hv
  ·left; simpa [Value.ownBlock] using hv
  ·right; simpa [Value.ownBlock] using hv
 have hgl : g < w.heap.size := lt_of_some h.blk
 have hrl : gr < w.heap.size := (h.row.1.lt gr rfl).2
 have hsz : w.heap.size ≤ w5.heap.size := Nat.le_trans (by simp) hg.size
 have hne' : g ≠ gr' := by
  rcases hg0 with rfl | rfl
  ·exact h.ne
  ·omega
 have hblk : ∀ b, b < w.heap.size → b ≠ gr → w5.heap[b]? = w.heap[b]? := fun b hb hbr => (hg.block b (by simp; omega) (fun e => hbr (by injection e))).trans (Below.heap_alloc _ _ _ hb)
 have hblk2 : ∀ b, b < w.heap.size → b ≠ gr → b ≠ g → (w5.setCell ⟨g, 0, none⟩ (.slice (some ⟨gr', 0, none⟩) (ptrs.length + 1) cap')).heap[b]? = w.heap[b]? := fun b hb hbr hbg => (Below.heap_setCell w5 ⟨g, 0, none⟩ _ b hbg).trans (hblk b hb hbr)
 have hok : ∀ b, okR X Y g gr b ∧ b < w.heap.size → okR X Y g gr' b := by
  rintro b ⟨hb, hbl⟩
  rcases hb with ⟨h1, h2, h3⟩ | hy
  ·exact .inl ⟨h1, h2, by rcases hg0 with rfl | rfl; exact h3; omega⟩
  ·exact .inr hy
 have hkst : ∀ (p : Nat) (c : List Int), StC w (okR X Y g gr) p m c → StC (w5.setCell ⟨g, 0, none⟩ (.slice (some ⟨gr', 0, none⟩) (ptrs.length + 1) cap')) (okR X Y g gr') p m c := fun p c hs =>
  (hs.bound.keep fun b hb _ => hblk2 b hb.2 (h.okR_ne hb.1).2 (h.okR_ne hb.1).1).weaken hok
 have hlen := h.row.2.1
 refine ⟨gr', cap', rfl, ⟨?_, h.xg, ?_, hne', h.yg, ?_, ?_, ?_, ?_⟩, ?_⟩
 ·have hb5 : Blk w5 g 87 #[.slice (some ⟨gr, 0, none⟩) ptrs.length cap, .bool s.done, .int .i64 s.steps] := (hblk g hgl h.ne).trans h.blk
  have := hb5.set (k := 0) (.slice (some ⟨gr', 0, none⟩) (ptrs.length + 1) cap')
  rw [List.length_append, List.length_singleton]
  exact this
 ·rcases hg0 with rfl | rfl
  ·exact h.xr
  ·exact hXn _ (by omega)
 ·rcases hg0 with rfl | rfl
  ·exact h.yr
  ·intro hy
   have := hYb _ hy
   omega
 ·rw [List.length_append, List.length_singleton, List.map_append]
  exact row_keep hown (Below.heap_setCell w5 ⟨g, 0, none⟩ _ gr' (Ne.symm hne'))
 ·simp [hlen]
 ·intro k p hp
  rcases Nat.lt_or_ge k ptrs.length with hk | hk
  ·rw [List.getElem?_append_left hk] at hp
   rw [List.take_append_of_le_length (by omega)]
   exact hkst _ _ (h.row.2.2 k p hp)
  ·have hk2 : k = ptrs.length := by
    rcases Nat.lt_or_ge k (ptrs ++ [q]).length with h1 | h1
    ·simp at h1; omega
    ·rw [List.getElem?_eq_none h1] at hp; cases hp
   subst hk2
   rw [List.getElem?_append_right (Nat.le_refl _)] at hp
   have hq : q = p := by simpa using hp
   subst hq
   rw [List.take_of_length_le (by simp; omega)]
   exact hkst _ _ hst
 ·exact ⟨hg.os, hg.tape, hg.output, by simpa [World.setCell] using hsz, fun b hb hx => hblk2 b hb (fun e => hx (e ▸ h.xr)) (fun e => hx (e ▸ h.xg))⟩
end

/-- What is left of the search, at the beginning of the choices with k nodes. -/
noncomputable def srch (m : MZ) (ch : List Int) (k : Nat) (b : Int) : Option (List Int) :=
 match aft m (ch.take k) b with
 | some n => some (ch.take k ++ [n])
 | none => backN m ch k
theorem srch_top (m : MZ) (ch : List Int) : srch m ch ch.length (-1) = stepC m ch := by
 unfold srch stepC
 rw [List.take_length]
 all_goals (cases aft m ch (-1) <;> rfl)
theorem srch_back {m : MZ} {ch : List Int} {k : Nat} {b : Int} (h : aft m (ch.take (k + 1)) b = none) : srch m ch (k + 1) b = srch m ch k (ch.getD k 0) := by
 unfold srch
 rw [h]
 rfl
theorem srch_zero {m : MZ} {ch : List Int} {b : Int} (h : aft m (ch.take 0) b = none) : srch m ch 0 b = none := by
 unfold srch
 rw [h]
 rfl
theorem aft_none {m : MZ} {ch : List Int} {b : Int} {l : List Int} (hl : l = cand m ch) (h : ∀ n ∈ l, ¬ (b < n ∧ openC m (ch ++ [n]) = true)) : aft m ch b = none := by
 unfold aft
 rw [List.find?_eq_none]
 intro n hn
 have := h n (by rw [hl]; exact hn)
 simp only [Bool.and_eq_true, decide_eq_true_eq]
 exact this
theorem aft_at {m : MZ} {ch : List Int} {b : Int} {i : Nat} (hi : i < (cand m ch).length) (h : ∀ n ∈ (cand m ch).take i, ¬ (b < n ∧ openC m (ch ++ [n]) = true)) (h1 : b < (cand m ch)[i]) (h2 : openC m (ch ++ [(cand m ch)[i]]) = true) : aft m ch b = some (cand m ch)[i] := by
 unfold aft
 generalize cand m ch = l at *
 obtain ⟨x, hx⟩ : ∃ x, x = l[i] := ⟨_, rfl⟩
 rw [← hx] at h1 h2 ⊢
 have hs : l = l.take i ++ x :: l.drop (i + 1) := by
  rw [hx, List.getElem_cons_drop hi, List.take_append_drop]
 rw [hs, List.find?_append, List.find?_eq_none.2 (fun n hn => by
  have := h n hn
  simp only [Bool.and_eq_true, decide_eq_true_eq]
  exact this)]
 simp [h1, h2]
end Go.Proofs.Ytgpjfpcjiebjiaa
