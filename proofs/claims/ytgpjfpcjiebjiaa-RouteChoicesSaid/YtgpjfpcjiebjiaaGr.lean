/- Plain: what can be reached, and the router, computed. Plain: the examples of the chapter, computed. Walks: the examples of the chapter hold. Plain: what a router has can be loaded again. Words for laws: one router, two routers that lie apart, over the memory of a maze; their calls. Plain: neighbours are neighbours of each other, in increasing order; what is reached is led to. Opening: a law's arguments as plain data. -/
import Derived.Test.YtgpjfpcjiebjiaaGl
import Derived.KernelRfl
import Derived.Test.YtgpjfpcjiebjiaaGq
import Derived.Test.YtgpjfpcjiebjiaaGa
import Derived.ProofKit
import Derived.OpenShut
namespace Go.Proofs.Ytgpjfpcjiebjiaa
open Go.RowKit
set_option linter.unusedVariables false
set_option linter.unusedSimpArgs false

/-- One node more, if it is new. -/
def addIf (m : MZ) (t : Nat) (us acc : List Int) (z : Int) : List Int := if (freeAt m t z && !decide (z ∈ us) && !decide (z ∈ acc)) = true then acc ++ [z] else acc
/-- One layer more. -/
def grow (m : MZ) (t : Nat) (us S : List Int) : List Int := (S.flatMap (nextL m)).foldl (addIf m t us) S
def growN (m : MZ) (t : Nat) (us : List Int) : Nat → List Int → List Int
 | 0, S => S
 | k + 1, S => growN m t us k (grow m t us S)
/-- Where the search begins. -/
def start (m : MZ) (f : List Int) : List Int := f.foldl (fun acc x => if (decide (0 ≤ x) && decide (x < m.n) && !decide (x ∈ acc)) = true then acc ++ [x] else acc) []
def reachX (m : MZ) (t : Nat) (f us : List Int) : List Int := growN m t us (m.n.toNat + 1) (start m f)

section
variable {m : MZ} {t : Nat} {us f : List Int}
/-- What the search's list keeps. -/
structure GK (m : MZ) (t : Nat) (f us S : List Int) : Prop where
 nd : S.Nodup
 rg : ∀ x ∈ S, 0 ≤ x ∧ x < m.n
 rp : ∀ x ∈ S, RP m t f us x
theorem addIf_sub (acc : List Int) (z : Int) : ∀ x ∈ acc, x ∈ addIf m t us acc z := by
 intro x hx
 unfold addIf
 split
 ·exact List.mem_append_left _ hx
 ·exact hx
theorem addIf_len (acc : List Int) (z : Int) : acc.length ≤ (addIf m t us acc z).length := by
 unfold addIf
 split <;> simp
theorem addIf_gk {acc : List Int} {z : Int} (h : GK m t f us acc) (h0 : 0 ≤ z ∧ z < m.n) (h1 : freeAt m t z = true → z ∉ us → RP m t f us z) : GK m t f us (addIf m t us acc z) := by
 unfold addIf
 split
 ·rename_i hc
  simp only [Bool.and_eq_true, Bool.not_eq_true', decide_eq_false_iff_not] at hc
  refine ⟨?_, fun x hx => ?_, fun x hx => ?_⟩
  ·rw [List.nodup_append]
   refine ⟨h.nd, by simp, fun a ha b hb => ?_⟩
   rw [List.mem_singleton] at hb
   rintro rfl
   subst hb
   exact hc.2 ha
  ·rcases List.mem_append.1 hx with hx | hx
   ·exact h.rg x hx
   ·rw [List.mem_singleton] at hx; subst hx; exact h0
  ·rcases List.mem_append.1 hx with hx | hx
   ·exact h.rp x hx
   ·rw [List.mem_singleton] at hx; subst hx; exact h1 hc.1.1 hc.1.2
 ·exact h
theorem fold_sub : ∀ (l acc : List Int), ∀ x ∈ acc, x ∈ l.foldl (addIf m t us) acc
 | [], acc, x, hx => hx
 | z :: l, acc, x, hx => fold_sub l (addIf m t us acc z) x (addIf_sub acc z x hx)
theorem fold_len : ∀ (l acc : List Int), acc.length ≤ (l.foldl (addIf m t us) acc).length
 | [], acc => Nat.le_refl _
 | z :: l, acc => Nat.le_trans (addIf_len acc z) (fold_len l _)
theorem fold_gk : ∀ (l acc : List Int), GK m t f us acc → (∀ z ∈ l, (0 ≤ z ∧ z < m.n) ∧ (freeAt m t z = true → z ∉ us → RP m t f us z)) → GK m t f us (l.foldl (addIf m t us) acc)
 | [], acc, h, _ => h
 | z :: l, acc, h, hl => fold_gk l _ (addIf_gk h (hl z (List.mem_cons_self ..)).1 (hl z (List.mem_cons_self ..)).2) (fun x hx => hl x (List.mem_cons_of_mem _ hx))
theorem fold_mem : ∀ (l acc : List Int) (z : Int), z ∈ l → freeAt m t z = true → z ∉ us → z ∈ l.foldl (addIf m t us) acc
 | y :: l, acc, z, hz, h1, h2 => by
  rcases List.mem_cons.1 hz with rfl | hz
  ·refine fold_sub l _ z ?_
   unfold addIf
   by_cases hm : z ∈ acc
   ·split
    ·exact List.mem_append_left _ hm
    ·exact hm
   ·rw [if_pos (by simp [h1, h2, hm])]
    simp
  ·exact fold_mem l _ z hz h1 h2
theorem grow_gk (d : Dim m) {S : List Int} (h : GK m t f us S) : GK m t f us (grow m t us S) := by
 refine fold_gk _ _ h fun z hz => ?_
 obtain ⟨y, hy, hzy⟩ := List.mem_flatMap.1 hz
 have hyr := h.rg y hy
 exact ⟨nextL_range d hyr.1 hyr.2 hzy, fun h1 h2 => (h.rp y hy).step hzy h1 h2⟩
/-- Nothing is missing. -/
def Closed (m : MZ) (t : Nat) (us S : List Int) : Prop := ∀ y ∈ S, ∀ z ∈ nextL m y, freeAt m t z = true → z ∉ us → z ∈ S
theorem addIf_eq {acc : List Int} {z : Int} (h : freeAt m t z = true → z ∉ us → z ∈ acc) : addIf m t us acc z = acc := by
 unfold addIf
 rw [if_neg]
 intro hc
 simp only [Bool.and_eq_true, Bool.not_eq_true', decide_eq_false_iff_not] at hc
 exact hc.2 (h hc.1.1 hc.1.2)
theorem fold_eq : ∀ (l acc : List Int), (∀ z ∈ l, freeAt m t z = true → z ∉ us → z ∈ acc) → l.foldl (addIf m t us) acc = acc
 | [], acc, _ => rfl
 | z :: l, acc, h => by
  rw [List.foldl_cons, addIf_eq (h z (List.mem_cons_self ..))]
  exact fold_eq l acc (fun x hx => h x (List.mem_cons_of_mem _ hx))
theorem grow_closed {S : List Int} (h : Closed m t us S) : grow m t us S = S :=
 fold_eq _ _ fun z hz => by
  obtain ⟨y, hy, hzy⟩ := List.mem_flatMap.1 hz
  exact h y hy z hzy
theorem fold_more : ∀ (l acc : List Int), (∃ z ∈ l, freeAt m t z = true ∧ z ∉ us ∧ z ∉ acc) → acc.length < (l.foldl (addIf m t us) acc).length
 | z :: l, acc, ⟨x, hx, h1, h2, h3⟩ => by
  rw [List.foldl_cons]
  rcases List.mem_cons.1 hx with rfl | hx
  ·have : (addIf m t us acc x).length = acc.length + 1 := by
    unfold addIf
    rw [if_pos (by simp [h1, h2, h3])]
    simp
   have := fold_len (m := m) (t := t) (us := us) l (addIf m t us acc x)
   omega
  ·by_cases hxz : x ∈ addIf m t us acc z
   ·have h4 : acc.length < (addIf m t us acc z).length := by
     unfold addIf at hxz ⊢
     split
     ·simp
     ·rename_i hc; rw [if_neg hc] at hxz; exact absurd hxz h3
    exact Nat.lt_of_lt_of_le h4 (fold_len l _)
   ·exact Nat.lt_of_le_of_lt (addIf_len acc z) (fold_more l _ ⟨x, hx, h1, h2, hxz⟩)
theorem growN_gk (d : Dim m) : ∀ (k : Nat) {S : List Int}, GK m t f us S → GK m t f us (growN m t us k S)
 | 0, S, h => h
 | k + 1, S, h => growN_gk d k (grow_gk d h)
theorem growN_sub : ∀ (k : Nat) (S : List Int), ∀ x ∈ S, x ∈ growN m t us k S
 | 0, S, x, hx => hx
 | k + 1, S, x, hx => growN_sub k _ x (fold_sub _ _ x hx)
theorem growN_closed {S : List Int} (h : Closed m t us S) : ∀ k, growN m t us k S = S
 | 0 => rfl
 | k + 1 => by unfold growN; rw [grow_closed h]; exact growN_closed h k
theorem growN_or : ∀ (k : Nat) (S : List Int), Closed m t us (growN m t us k S) ∨ S.length + k ≤ (growN m t us k S).length
 | 0, S => .inr (Nat.le_refl _)
 | k + 1, S => by
  by_cases h : Closed m t us S
  ·left
   rw [growN_closed h]; exact h
  ·have h1 : S.length < (grow m t us S).length := by
    refine fold_more _ _ ?_
    unfold Closed at h
    simp only [Classical.not_forall] at h
    obtain ⟨y, hy, z, hz, h1, h2, h3⟩ := h
    exact ⟨z, List.mem_flatMap.2 ⟨y, hy, hz⟩, h1, h2, h3⟩
   rcases growN_or k (grow m t us S) with h2 | h2
   ·exact .inl h2
   ·right
    unfold growN
    omega
theorem start_gk (m : MZ) (t : Nat) (us f : List Int) : GK m t f us (start m f) ∧ ∀ x ∈ f, 0 ≤ x → x < m.n → x ∈ start m f := by
 have key : ∀ (l acc : List Int), (∀ x ∈ l, x ∈ f) → GK m t f us acc → GK m t f us (l.foldl (fun acc x => if (decide (0 ≤ x) && decide (x < m.n) && !decide (x ∈ acc)) = true then acc ++ [x] else acc) acc) ∧
   (∀ x ∈ acc, x ∈ l.foldl (fun acc x => if (decide (0 ≤ x) && decide (x < m.n) && !decide (x ∈ acc)) = true then acc ++ [x] else acc) acc) ∧ ∀ x ∈ l, 0 ≤ x → x < m.n → x ∈ l.foldl (fun acc x => if (decide (0 ≤ x) && decide (x < m.n) && !decide (x ∈ acc)) = true then acc ++ [x] else acc) acc := by
  intro l
  induction l with
  | nil => intro acc _ h; exact ⟨h, fun x hx => hx, fun x hx => by cases hx⟩
  | cons z l ih =>
   intro acc hl h
   rw [List.foldl_cons]
   by_cases hc : (decide (0 ≤ z) && decide (z < m.n) && !decide (z ∈ acc)) = true
   ·rw [if_pos hc]
    simp only [Bool.and_eq_true, Bool.not_eq_true', decide_eq_false_iff_not, decide_eq_true_eq] at hc
    obtain ⟨h1, h2, h3⟩ := ih (acc ++ [z]) (fun x hx => hl x (List.mem_cons_of_mem _ hx)) ⟨by
     rw [List.nodup_append]
     refine ⟨h.nd, by simp, fun a ha b hb => ?_⟩
     rw [List.mem_singleton] at hb
     rintro rfl
     subst hb
     exact hc.2 ha, fun x hx => by
     rcases List.mem_append.1 hx with hx | hx
     ·exact h.rg x hx
     ·rw [List.mem_singleton] at hx; subst hx; exact hc.1, fun x hx => by
     rcases List.mem_append.1 hx with hx | hx
     ·exact h.rp x hx
     ·rw [List.mem_singleton] at hx; subst hx; exact RP.base (hl x (List.mem_cons_self ..)) hc.1.1 hc.1.2⟩
    refine ⟨h1, fun x hx => h2 x (List.mem_append_left _ hx), fun x hx a b => ?_⟩
    rcases List.mem_cons.1 hx with rfl | hx
    ·exact h2 x (by simp)
    ·exact h3 x hx a b
   ·rw [if_neg hc]
    obtain ⟨h1, h2, h3⟩ := ih acc (fun x hx => hl x (List.mem_cons_of_mem _ hx)) h
    refine ⟨h1, h2, fun x hx a b => ?_⟩
    rcases List.mem_cons.1 hx with rfl | hx
    ·refine h2 x ?_
     simp only [Bool.and_eq_true, Bool.not_eq_true', decide_eq_false_iff_not, decide_eq_true_eq] at hc
     by_cases hm : x ∈ acc
     ·exact hm
     ·exact absurd ⟨⟨a, b⟩, hm⟩ hc
    ·exact h3 x hx a b
 have h := key f [] (fun _ h => h) ⟨List.nodup_nil, fun x hx => absurd hx List.not_mem_nil, fun x hx => absurd hx List.not_mem_nil⟩
 exact ⟨h.1, h.2.2⟩
/-- The computed list is what can be reached. -/
theorem mem_reachX (d : Dim m) (x : Int) : x ∈ reachX m t f us ↔ RP m t f us x := by
 have hs := start_gk m t us f
 have hg := growN_gk (t := t) (f := f) (us := us) d (m.n.toNat + 1) hs.1
 have hc : Closed m t us (reachX m t f us) := by
  rcases growN_or (m := m) (t := t) (us := us) (m.n.toNat + 1) (start m f) with h | h
  ·exact h
  ·have := nodup_len hg.nd m.n hg.rg
   omega
 constructor
 ·exact fun h => hg.rp x h
 ·intro h
  exact h (fun x => x ∈ reachX m t f us) (fun y hy h0 h1 => growN_sub _ _ y (hs.2 y hy h0 h1)) (fun y z hy hz h1 h2 => hc y hy z hz h1 h2)
end
theorem reachL_x {m : MZ} (d : Dim m) (t : Nat) (f us : List Int) : reachL m t f us = ((List.range m.n.toNat).map Int.ofNat).filter fun x => decide (x ∈ reachX m t f us) := by
 rw [reachL_of (fun x => mem_reachX d x)]

/-! ### The router, computed -/
def openTX (m : MZ) (ps : List (List Int)) (us : List Int) (t : Nat) : Bool := ((m.tasks.getD t ([], [])).2).any fun x => decide (x ∈ reachX m t (fromL m ps us t) us)
def openX (m : MZ) (ch : List Int) : Bool := (List.range (tasksN m (psOf m ch))).all fun k => openTX m (psOf m ch) ch ((psOf m ch).length - 1 + k)
theorem openC_x {m : MZ} (d : Dim m) (ch : List Int) : openC m ch = openX m ch := by
 unfold openC openX openB
 congr 1
 funext k
 unfold openT openTX
 congr 1
 funext x
 rw [decide_eq_decide, mem_reachL d, mem_reachX d]
def aftX (m : MZ) (ch : List Int) (last : Int) : Option Int := (cand m ch).find? fun n => decide (last < n) && openX m (ch ++ [n])
theorem aft_x {m : MZ} (d : Dim m) (ch : List Int) (last : Int) : aft m ch last = aftX m ch last := by
 unfold aft aftX
 congr 1
 funext n
 rw [openC_x d]
def backX (m : MZ) (ch : List Int) : Nat → Option (List Int)
 | 0 => none
 | k + 1 => match aftX m (ch.take k) (ch.getD k 0) with
  | some n => some (ch.take k ++ [n])
  | none => backX m ch k
theorem back_x {m : MZ} (d : Dim m) (ch : List Int) : ∀ k, backN m ch k = backX m ch k
 | 0 => rfl
 | k + 1 => by
  unfold backN backX
  rw [aft_x d, back_x d ch k]
  rfl
def stepX (m : MZ) (ch : List Int) : Option (List Int) :=
 match aftX m ch (-1) with
 | some n => some (ch ++ [n])
 | none => backX m ch ch.length
theorem step_x {m : MZ} (d : Dim m) (ch : List Int) : stepC m ch = stepX m ch := by
 unfold stepC stepX
 rw [aft_x d, back_x d]
 rfl
def RS.oneX (m : MZ) (s : RS) : RS := match stepX m s.ch with
 | some c => ⟨c, cmpC m c, s.steps + 1⟩
 | none => ⟨[], true, s.steps + 1⟩
def RS.runX (m : MZ) : Nat → RS → RS
 | 0, s => s
 | n + 1, s => if s.done = true then s else RS.runX m n (s.oneX m)
theorem run_x {m : MZ} (d : Dim m) : ∀ (n : Nat) (s : RS), RS.run m n s = RS.runX m n s
 | 0, s => rfl
 | n + 1, s => by
  unfold RS.run RS.runX
  rw [run_x d n]
  unfold RS.one RS.oneX
  rw [step_x d]
  rfl
end Go.Proofs.Ytgpjfpcjiebjiaa

namespace Go.Proofs.Ytgpjfpcjiebjiaa
open Go.RowKit
set_option linter.unusedVariables false
set_option linter.unusedSimpArgs false

set_option maxRecDepth 100000
theorem ex_chk (a b : Int) (h : (a, b) ∈ [((6 : Int), (8 : Int)), (4, 8), (1, 7)]) : chk (exM a b) = 0 := by
 simp only [List.mem_cons, Prod.mk.injEq, List.not_mem_nil, or_false] at h
 rcases h with ⟨rfl, rfl⟩ | ⟨rfl, rfl⟩ | ⟨rfl, rfl⟩ <;> decide +kernel
theorem ex_next4 : nextO (exM 6 8) 4 = [1, 3, 5, 7] := by decide +kernel
theorem ex_next0 : nextO (exM 6 8) 0 = [1, 3] := by decide +kernel
theorem ex_c0 : candO (exM 6 8) [] = [0] := by decide +kernel
theorem ex_c1 : candO (exM 6 8) [0] = [1, 3] := by decide +kernel
theorem ex_c3 : candO (exM 6 8) [0, 1, 2] = [6] := by decide +kernel
theorem ex_reach : reachO (exM 6 8) 0 [0] [1] = [0, 2, 3, 5, 6, 7, 8] := by
 unfold reachO
 rw [if_pos (by decide +kernel), reachL_x (Good.of (ex_chk 6 8 (by simp))).dim]
 decide +kernel
theorem ex_run1 : RS.run (exM 6 8) 2 ⟨[], false, 0⟩ = ⟨[0, 1], false, 2⟩ := by
 rw [run_x (Good.of (ex_chk 6 8 (by simp))).dim]
 have h : (RS.runX (exM 6 8) 2 ⟨[], false, 0⟩).ch = [0, 1] ∧ (RS.runX (exM 6 8) 2 ⟨[], false, 0⟩).done = false ∧ (RS.runX (exM 6 8) 2 ⟨[], false, 0⟩).steps = 2 := by decide +kernel
 generalize RS.runX (exM 6 8) 2 ⟨[], false, 0⟩ = s at h
 obtain ⟨c, d, n⟩ := s
 obtain ⟨rfl, rfl, rfl⟩ := h
 rfl
theorem ex_run2 : RS.run (exM 6 8) 4 ⟨[0, 1], false, 2⟩ = ⟨[0, 1, 2, 6, 7, 8], true, 6⟩ := by
 rw [run_x (Good.of (ex_chk 6 8 (by simp))).dim]
 have h : (RS.runX (exM 6 8) 4 ⟨[0, 1], false, 2⟩).ch = [0, 1, 2, 6, 7, 8] ∧ (RS.runX (exM 6 8) 4 ⟨[0, 1], false, 2⟩).done = true ∧ (RS.runX (exM 6 8) 4 ⟨[0, 1], false, 2⟩).steps = 6 := by decide +kernel
 generalize RS.runX (exM 6 8) 4 ⟨[0, 1], false, 2⟩ = s at h
 obtain ⟨c, d, n⟩ := s
 obtain ⟨rfl, rfl, rfl⟩ := h
 rfl
theorem ex_run3 : RS.run (exM 4 8) 9 ⟨[], false, 0⟩ = ⟨[], true, 1⟩ := by
 rw [run_x (Good.of (ex_chk 4 8 (by simp))).dim]
 have h : (RS.runX (exM 4 8) 9 ⟨[], false, 0⟩).ch = [] ∧ (RS.runX (exM 4 8) 9 ⟨[], false, 0⟩).done = true ∧ (RS.runX (exM 4 8) 9 ⟨[], false, 0⟩).steps = 1 := by decide +kernel
 generalize RS.runX (exM 4 8) 9 ⟨[], false, 0⟩ = s at h
 obtain ⟨c, d, n⟩ := s
 obtain ⟨rfl, rfl, rfl⟩ := h
 rfl
theorem ex_run4 : RS.run (exM 1 7) 9 ⟨[], false, 0⟩ = ⟨[], true, 4⟩ := by
 rw [run_x (Good.of (ex_chk 1 7 (by simp))).dim]
 have h : (RS.runX (exM 1 7) 9 ⟨[], false, 0⟩).ch = [] ∧ (RS.runX (exM 1 7) 9 ⟨[], false, 0⟩).done = true ∧ (RS.runX (exM 1 7) 9 ⟨[], false, 0⟩).steps = 4 := by decide +kernel
 generalize RS.runX (exM 1 7) 9 ⟨[], false, 0⟩ = s at h
 obtain ⟨c, d, n⟩ := s
 obtain ⟨rfl, rfl, rfl⟩ := h
 rfl
theorem ex_found : foundL (exM 6 8) [0, 1, 2, 6, 7, 8] = [[0, 1, 2], [6, 7, 8]] := by decide +kernel
theorem ex_cmp : cmpC (exM 6 8) [0, 1, 2, 6, 7, 8] = true := by decide +kernel
theorem ex_ncmp (a b : Int) (h : (a, b) ∈ [((6 : Int), (8 : Int)), (4, 8), (1, 7)]) : cmpC (exM a b) [] = false := by
 simp only [List.mem_cons, Prod.mk.injEq, List.not_mem_nil, or_false] at h
 rcases h with ⟨rfl, rfl⟩ | ⟨rfl, rfl⟩ | ⟨rfl, rfl⟩ <;> decide +kernel
theorem ex_load (a b : Int) (h : (a, b) ∈ [((6 : Int), (8 : Int)), (4, 8), (1, 7)]) : loadE (exM a b) [] 0 = 0 ∧ loadS (exM a b) [] 0 = ⟨[], false, 0⟩ := by
 have h1 := ex_chk a b h
 have h2 := ex_ncmp a b h
 constructor
 ·unfold loadE
  rw [h1, if_neg (by simp), if_neg (by decide)]
  rfl
 ·unfold loadS
  rw [h2]
  rfl
theorem ex_lens (a b : Int) : Lens (exM a b) := ⟨by simp [exM], by simp [exM], by simp [exM], fun t ht => by
 simp only [exM, List.mem_cons, List.not_mem_nil, or_false] at ht
 rcases ht with rfl | rfl <;> simp⟩
end Go.Proofs.Ytgpjfpcjiebjiaa

namespace Go.Proofs.Ytgpjfpcjiebjiaa
open Go.RowKit
set_option linter.unusedVariables false
set_option linter.unusedSimpArgs false
attribute [local go_sem ↓] Go.wp_at_zero Go.wp_at_succ

theorem lit_ints {W : World} {g : Nat} {cs : Array Value} {l : List Int} (h : Blk W g 3 cs) (hl : cs.toList = l.map (Value.int .i64)) : Ints W (fun _ => True) (.slice (some ⟨g, 0, none⟩) l.length l.length) l :=
 ⟨_, _, rfl, Nat.le_refl _, by rw [← hl]; exact RowA.block h trivial (by rw [← Array.length_toList, hl, List.length_map])⟩
theorem is_t {ok ok' : Nat → Prop} {v v' : Value} {a b : List Int} (w : World) (hab : a = b) (h : Ints w ok v a) (h' : Ints w ok' v' b) (hl : a.length ≤ 1000) :
  Calls Try.prog 17 #[v, v'] w fun e w' => e = .returned (.bool true) ∧ Drew w w' := by
 refine (is_calls w h h' (by omega) (by rw [← hab]; omega)).mono ?_
 rintro e w' ⟨rfl, hd⟩
 exact ⟨by rw [decide_eq_true hab], hd⟩
theorem samePaths_t {ok ok' : Nat → Prop} {v v' : Value} {a b : List (List Int)} (w : World) (hab : a = b) (h : Intss w ok v a) (h' : Intss w ok' v' b) (hl : a.length ≤ 1000) (hx : ∀ x ∈ a, x.length ≤ 1000) :
  Calls Try.prog 30 #[v, v'] w fun e w' => e = .returned (.bool true) ∧ Drew w w' := by
 refine (samePaths_calls w h h' (by omega) (by rw [← hab]; omega) (fun x h => by have := hx x h; omega) (fun x h => by have := hx x (by rw [hab]; exact h); omega)).mono ?_
 rintro e w' ⟨rfl, hd⟩
 exact ⟨by rw [decide_eq_true hab], hd⟩
theorem RtAt.bound {w : World} {X Y : Nat → Prop} {g gr cap : Nat} {m : MZ} {s : RS} {pt : List Nat} (h : RtAt w X Y g gr cap m s pt) : RtAt w (fun k => X k ∧ k < w.heap.size) Y g gr cap m s pt :=
 ⟨h.blk, ⟨h.xg, lt_of_some h.blk⟩, ⟨h.xr, (h.row.1.lt gr rfl).2⟩, h.ne, h.yg, h.yr, h.row.1, h.row.2.1, fun k p hp => (h.row.2.2 k p hp).bound.weaken fun b hb => by
  rcases hb with ⟨hb | hb, hl⟩
  ·exact .inl ⟨⟨hb.1, hl⟩, hb.2⟩
  ·exact .inr hb⟩
theorem RtAt.chg {w w' : World} {X Y X' : Nat → Prop} {g gr cap : Nat} {m : MZ} {s : RS} {pt : List Nat} (h : RtAt w X Y g gr cap m s pt) (hc : Chg X' w w') (hd : ∀ k, X k ∨ Y k → ¬ X' k) : RtAt w' X Y g gr cap m s pt :=
 h.same fun b hb hx => hc.block b hb (hd b hx)
/-- A router with bounds: what it made lies in X, from L on and below the heap's end; the maze lies in Y. -/
structure RtB (w : World) (X Y : Nat → Prop) (g : Nat) (m : MZ) (s : RS) : Prop where
 rt : ∃ gr cap pt, RtAt w X Y g gr cap m s pt
 xb : ∀ k, X k → k < w.heap.size
 yb : ∀ k, Y k → k < w.heap.size
 good : Good m
 lens : Lens m
 ch : IsCh m s.ch
 st : 0 ≤ s.steps
section
variable {w w' : World} {X Y X' : Nat → Prop} {g : Nat} {m : MZ} {s : RS}
theorem RtB.chg (h : RtB w X Y g m s) (hc : Chg X' w w') (hd : ∀ k, X k ∨ Y k → ¬ X' k) : RtB w' X Y g m s := by
 obtain ⟨⟨gr, cap, pt, hr⟩, h1, h2, h3, h4, h5, h6⟩ := h
 exact ⟨⟨gr, cap, pt, hr.chg hc hd⟩, fun k hk => Nat.lt_of_lt_of_le (h1 k hk) hc.size, fun k hk => Nat.lt_of_lt_of_le (h2 k hk) hc.size, h3, h4, h5, h6⟩
theorem RtB.ext (h : RtB w X Y g m s) (hE : Ext w w') : RtB w' X Y g m s := h.chg (Chg.of_ext (X := fun _ => False) hE) (fun _ _ h => h)
/-- Some steps. -/
theorem RtB.step (h : RtB w X Y g m s) (n : Nat) (s' : RS) (d : Bool) (hd : s'.done = d) (hs : RS.run m n s = s') (hn : n ≤ 1000000) (hs1 : s.steps ≤ 3000000000000000000) :
  Calls Try.prog 24 #[.pointer (some ⟨g, 0, none⟩), .int .i64 n] w fun e w' => e = .returned (.bool d) ∧ RtB w' (fun k => X k ∨ (w.heap.size ≤ k ∧ k < w'.heap.size)) Y g m s' ∧ Chg X w w' := by
 obtain ⟨⟨gr, cap, pt, hr⟩, h1, h2, h3, h4, h5, h6⟩ := h
 refine (stepN_calls (X := fun k => X k ∨ w.heap.size ≤ k) n w (hr.widen fun _ h => .inl h) h3 h4 h5 hn h6 hs1 (fun _ h => .inr h) h2).mono ?_
 rintro e w' ⟨rfl, gr', cap', pt', hr', hc⟩
 rw [hs] at hr' ⊢
 refine ⟨by rw [hd], ⟨⟨gr', cap', pt', hr'.bound.widen ?_⟩, ?_, ?_, h3, h4, ?_, ?_⟩, ?_⟩
 ·rintro k ⟨hk | hk, hk2⟩
  ·exact .inl hk
  ·exact .inr ⟨hk, hk2⟩
 ·rintro k (hk | hk)
  ·exact Nat.lt_of_lt_of_le (h1 k hk) hc.size
  ·exact hk.2
 ·exact fun k hk => Nat.lt_of_lt_of_le (h2 k hk) hc.size
 ·rw [← hs]; exact run_isCh n h5
 ·have := run_steps (m := m) n h5
  rw [hs] at this
  omega
 ·exact ⟨hc.os, hc.tape, hc.output, hc.size, fun b hb hx => hc.block b hb (by
   rintro (h | h)
   ·exact hx h
   ·omega)⟩
theorem RtB.fb (h : RtB w X Y g m s) : ∀ k, X k ∨ Y k → k < w.heap.size := fun k hk => hk.elim (h.xb k) (h.yb k)
theorem RtB.choices (h : RtB w X Y g m s) : Calls Try.prog 29 #[.pointer (some ⟨g, 0, none⟩)] w fun e w' => ∃ v', e = .returned v' ∧ Mk w w' v' s.ch := by
 obtain ⟨⟨gr, cap, pt, hr⟩, h1, h2, h3, h4, h5, h6⟩ := h
 exact choices_c w hr (by have := h5.len300 h3; omega)
theorem RtB.stepsC (h : RtB w X Y g m s) : Calls Try.prog 28 #[.pointer (some ⟨g, 0, none⟩)] w fun e w' => e = .returned (.int .i64 s.steps) ∧ w = w' := by
 obtain ⟨⟨gr, cap, pt, hr⟩, h1, h2, h3, h4, h5, h6⟩ := h
 exact steps_c w hr
theorem RtB.found (h : RtB w X Y g m s) : Calls Try.prog 26 #[.pointer (some ⟨g, 0, none⟩)] w (FoundPost w m s.ch) := by
 obtain ⟨⟨gr, cap, pt, hr⟩, h1, h2, h3, h4, h5, h6⟩ := h
 exact found_c w hr h3 h4 h5
end
theorem lit2 (w : World) : Ext w (((w.alloc (.cells #[.int .i64 0, .int .i64 1, .int .i64 2] 3)).alloc (.cells #[.int .i64 6, .int .i64 7, .int .i64 8] 3)).alloc (.cells #[.slice (some ⟨w.heap.size, 0, none⟩) 3 3, .slice (some ⟨w.heap.size + 1, 0, none⟩) 3 3] 24)) ∧
  Intss (((w.alloc (.cells #[.int .i64 0, .int .i64 1, .int .i64 2] 3)).alloc (.cells #[.int .i64 6, .int .i64 7, .int .i64 8] 3)).alloc (.cells #[.slice (some ⟨w.heap.size, 0, none⟩) 3 3, .slice (some ⟨w.heap.size + 1, 0, none⟩) 3 3] 24)) (fun _ => True) (.slice (some ⟨w.heap.size + 1 + 1, 0, none⟩) 2 2) [[0, 1, 2], [6, 7, 8]] := by
 refine fin_allocs (P := fun W => Ext w W ∧ Intss W (fun _ => True) (.slice (some ⟨w.heap.size + 1 + 1, 0, none⟩) 2 2) [[0, 1, 2], [6, 7, 8]]) w [_, _, _] fun W hE hB => ⟨hE, ?_⟩
 have b0 := hB 0 _ rfl
 have b1 := hB 1 _ rfl
 have b2 := hB 2 _ rfl
 refine ⟨_, ⟨_, _, rfl, Nat.le_refl _, RowA.block (cs := #[.slice (some ⟨w.heap.size, 0, none⟩) 3 3, .slice (some ⟨w.heap.size + 1, 0, none⟩) 3 3]) b2 trivial rfl⟩, fun i x hx => ?_⟩
 match i, hx with
 | 0, hx =>
  have : ([0, 1, 2] : List Int) = x := by simpa using hx
  subst this
  exact ⟨_, rfl, lit_ints (l := [0, 1, 2]) (cs := #[.int .i64 0, .int .i64 1, .int .i64 2]) b0 rfl⟩
 | 1, hx =>
  have : ([6, 7, 8] : List Int) = x := by simpa using hx
  subst this
  exact ⟨_, rfl, lit_ints (l := [6, 7, 8]) (cs := #[.int .i64 6, .int .i64 7, .int .i64 8]) b1 rfl⟩
/-- A router made anew. -/
theorem newB_calls {Y : Nat → Prop} {v : Value} {m : MZ} (w : World) (hm : MazeV w Y v m) (hl : Lens m) (hYb : ∀ b, Y b → b < w.heap.size) (hc : chk m = 0) :
  Calls Try.prog 22 #[v] w fun e w' => ∃ g, e = .returned (.tuple #[.pointer (some ⟨g, 0, none⟩), .int .i64 0]) ∧ Ext w w' ∧ RtB w' (fun k => w.heap.size ≤ k ∧ k < w'.heap.size) Y g m (loadS m [] 0) := by
 refine (new_calls w hm hl hYb).mono ?_
 have hle : loadE m [] 0 = 0 := by
  unfold loadE
  rw [hc, if_neg (by simp), if_neg (by decide)]
  rfl
 rintro e w' ⟨v', rfl, hE, h | ⟨h1, h2, h3, g, gr, cap, pt, rfl, hr⟩⟩
 ·exact absurd hle h.1
 ·exact ⟨g, by rw [hle]; rfl, hE, ⟨gr, cap, pt, hr.bound⟩, fun k hk => hk.2, fun k hk => Nat.lt_of_lt_of_le (hYb k hk) hE.size, h2, hl, h3, Int.le_refl _⟩

set_option maxHeartbeats 8000000 in
set_option maxRecDepth 100000 in
theorem sanity_calls (w : World) : Calls Try.prog 11 #[] w fun e w' => e = .returned (.bool true) ∧ Ext w w' := by
 obtain ⟨M, hMM⟩ : ∃ M, M = exM 6 8 := ⟨_, rfl⟩
 have HMM := Lib.hid hMM
 have hlens : Lens M := by rw [hMM]; exact ex_lens 6 8
 have HLE := Lib.hid hlens
 have hck : chk M = 0 := by rw [hMM]; exact ex_chk 6 8 (by simp)
 have HCK := Lib.hid hck
 clear hlens hck
 go_enter Try.func11, Try.ntmps11
 go_wp2_with fail
 refine (example_calls 6 8 _).mono ?_
 rintro e w1 ⟨v1, rfl, hE1, hm1⟩
 rw [← hMM] at hm1
 clear hMM
 have hm1b := hm1.bound
 obtain ⟨vfr, vup, vts, rfl, ⟨_, ⟨Af, cf, rfl, -⟩, -⟩, ⟨Au, cu, rfl, -⟩, ⟨_, ⟨At, ct, rfl, -⟩, -⟩⟩ := hm1
 have HM1 := Lib.hid hm1b
 clear hm1b
 go_wp2_with fail
 generalize hw2 : w1.alloc (.cells #[.int .i64 M.w, .int .i64 M.h, .int .i64 M.l, .slice Af M.free.length cf, .slice Au M.up.length cu, .slice At M.tasks.length ct] 31) = w2
 have hgm : Blk w2 w1.heap.size 31 #[.int .i64 M.w, .int .i64 M.h, .int .i64 M.l, .slice Af M.free.length cf, .slice Au M.up.length cu, .slice At M.tasks.length ct] := by rw [← hw2]; exact heap_alloc_new _ _
 have hE2 : Ext w1 w2 := by rw [← hw2]; exact (Ext.refl _).alloc _
 clear hw2
 obtain ⟨m0, m1, m2, m3, m4, m5⟩ := cells6 hgm
 have c0 := Ext.rule m0
 have c1 := Ext.rule m1
 have c2 := Ext.rule m2
 have c3 := Ext.rule m3
 have c4 := Ext.rule m4
 have c5 := Ext.rule m5
 clear m0 m1 m2 m3 m4 m5 hgm
 have HM2 := Lib.hid (HM1.out.below hE2)
 have hx2 := Ext.refl w2
 have hEw2 : Ext w w2 := hE1.trans hE2
 have HEW := Lib.hid hEw2
 have HYS := Lib.hid hE2.size
 clear hE1 hE2 hEw2
 refine (rNext_calls 4 w2 HM2.out HLE.out).mono ?_
 rintro e w3 ⟨v3, rfl, hM3⟩
 rw [HMM.out, ex_next4] at hM3
 obtain ⟨A3, cp3, rfl, -⟩ := hM3.slice
 have HM3 := Lib.hid hM3.ints
 have he3 := hM3.ext
 clear hM3
 have hx3 : Ext w2 w3 := hx2.trans he3
 clear he3
 go_wp2_with fail
 generalize hw4 : w3.alloc (.cells #[.int .i64 1, .int .i64 3, .int .i64 5, .int .i64 7] 3) = w4 at *
 have hl4 : Blk w4 w3.heap.size 3 #[.int .i64 1, .int .i64 3, .int .i64 5, .int .i64 7] := by rw [← hw4]; exact Blk.new _ _ _ rfl
 have he4 : Ext w3 w4 := by rw [← hw4]; exact (Ext.refl _).alloc _
 have HI4 := Lib.hid (lit_ints (l := [1, 3, 5, 7]) hl4 rfl)
 clear hw4 hl4
 generalize w3.heap.size = g4 at *
 have hx4 : Ext w2 w4 := hx3.trans he4
 refine (is_t (a := [1, 3, 5, 7]) (b := [1, 3, 5, 7]) w4 rfl (HM3.out.below he4) HI4.out (by simp)).mono ?_
 rintro e w5 ⟨rfl, hd5⟩
 have he5 : Ext w4 w5 := hd5.below _
 have hx5 : Ext w2 w5 := hx4.trans he5
 clear hd5 he5 HM3 HI4
 go_wp2_with fail
 refine (rNext_calls 0 w5 (HM2.out.below hx5) HLE.out).mono ?_
 rintro e w6 ⟨v6, rfl, hM6⟩
 rw [HMM.out, ex_next0] at hM6
 obtain ⟨A6, cp6, rfl, -⟩ := hM6.slice
 have HM6 := Lib.hid hM6.ints
 have he6 := hM6.ext
 clear hM6
 have hx6 : Ext w2 w6 := hx5.trans he6
 clear he6
 go_wp2_with fail
 generalize hw7 : w6.alloc (.cells #[.int .i64 1, .int .i64 3] 3) = w7 at *
 have hl7 : Blk w7 w6.heap.size 3 #[.int .i64 1, .int .i64 3] := by rw [← hw7]; exact Blk.new _ _ _ rfl
 have he7 : Ext w6 w7 := by rw [← hw7]; exact (Ext.refl _).alloc _
 have HI7 := Lib.hid (lit_ints (l := [1, 3]) hl7 rfl)
 clear hw7 hl7
 generalize w6.heap.size = g7 at *
 have hx7 : Ext w2 w7 := hx6.trans he7
 refine (is_t (a := [1, 3]) (b := [1, 3]) w7 rfl (HM6.out.below he7) HI7.out (by simp)).mono ?_
 rintro e w8 ⟨rfl, hd8⟩
 have he8 : Ext w7 w8 := hd8.below _
 have hx8 : Ext w2 w8 := hx7.trans he8
 clear hd8 he8 HM6 HI7
 go_wp2_with fail
 refine (rCandidates_calls (okc := fun _ => True) w8 (HM2.out.below hx8) HLE.out (Ints.nil _ _) (by simp)).mono ?_
 rintro e w9 ⟨v9, rfl, hM9⟩
 rw [HMM.out, ex_c0] at hM9
 obtain ⟨A9, cp9, rfl, -⟩ := hM9.slice
 have HM9 := Lib.hid hM9.ints
 have he9 := hM9.ext
 clear hM9
 have hx9 : Ext w2 w9 := hx8.trans he9
 clear he9
 go_wp2_with fail
 generalize hw10 : w9.alloc (.cells #[.int .i64 0] 3) = w10 at *
 have hl10 : Blk w10 w9.heap.size 3 #[.int .i64 0] := by rw [← hw10]; exact Blk.new _ _ _ rfl
 have he10 : Ext w9 w10 := by rw [← hw10]; exact (Ext.refl _).alloc _
 have HI10 := Lib.hid (lit_ints (l := [0]) hl10 rfl)
 clear hw10 hl10
 generalize w9.heap.size = g10 at *
 have hx10 : Ext w2 w10 := hx9.trans he10
 refine (is_t (a := [0]) (b := [0]) w10 rfl (HM9.out.below he10) HI10.out (by simp)).mono ?_
 rintro e w11 ⟨rfl, hd11⟩
 have he11 : Ext w10 w11 := hd11.below _
 have hx11 : Ext w2 w11 := hx10.trans he11
 clear hd11 he11 HM9 HI10
 go_wp2_with fail
 generalize hw12 : w11.alloc (.cells #[.int .i64 0] 3) = w12 at *
 have hl12 : Blk w12 w11.heap.size 3 #[.int .i64 0] := by rw [← hw12]; exact Blk.new _ _ _ rfl
 have he12 : Ext w11 w12 := by rw [← hw12]; exact (Ext.refl _).alloc _
 have HI12 := Lib.hid (lit_ints (l := [0]) hl12 rfl)
 clear hw12 hl12
 generalize w11.heap.size = g12 at *
 have hx12 : Ext w2 w12 := hx11.trans he12
 refine (rCandidates_calls w12 (HM2.out.below hx12) HLE.out HI12.out (by simp)).mono ?_
 rintro e w13 ⟨v13, rfl, hM13⟩
 rw [HMM.out, ex_c1] at hM13
 obtain ⟨A13, cp13, rfl, -⟩ := hM13.slice
 have HM13 := Lib.hid hM13.ints
 have he13 := hM13.ext
 clear hM13
 have hx13 : Ext w2 w13 := hx12.trans he13
 clear he13
 go_wp2_with fail
 generalize hw14 : w13.alloc (.cells #[.int .i64 1, .int .i64 3] 3) = w14 at *
 have hl14 : Blk w14 w13.heap.size 3 #[.int .i64 1, .int .i64 3] := by rw [← hw14]; exact Blk.new _ _ _ rfl
 have he14 : Ext w13 w14 := by rw [← hw14]; exact (Ext.refl _).alloc _
 have HI14 := Lib.hid (lit_ints (l := [1, 3]) hl14 rfl)
 clear hw14 hl14
 generalize w13.heap.size = g14 at *
 have hx14 : Ext w2 w14 := hx13.trans he14
 refine (is_t (a := [1, 3]) (b := [1, 3]) w14 rfl (HM13.out.below he14) HI14.out (by simp)).mono ?_
 rintro e w15 ⟨rfl, hd15⟩
 have he15 : Ext w14 w15 := hd15.below _
 have hx15 : Ext w2 w15 := hx14.trans he15
 clear hd15 he15 HM13 HI14
 go_wp2_with fail
 generalize hw16 : w15.alloc (.cells #[.int .i64 0, .int .i64 1, .int .i64 2] 3) = w16 at *
 have hl16 : Blk w16 w15.heap.size 3 #[.int .i64 0, .int .i64 1, .int .i64 2] := by rw [← hw16]; exact Blk.new _ _ _ rfl
 have he16 : Ext w15 w16 := by rw [← hw16]; exact (Ext.refl _).alloc _
 have HI16 := Lib.hid (lit_ints (l := [0, 1, 2]) hl16 rfl)
 clear hw16 hl16
 generalize w15.heap.size = g16 at *
 have hx16 : Ext w2 w16 := hx15.trans he16
 refine (rCandidates_calls w16 (HM2.out.below hx16) HLE.out HI16.out (by simp)).mono ?_
 rintro e w17 ⟨v17, rfl, hM17⟩
 rw [HMM.out, ex_c3] at hM17
 obtain ⟨A17, cp17, rfl, -⟩ := hM17.slice
 have HM17 := Lib.hid hM17.ints
 have he17 := hM17.ext
 clear hM17
 have hx17 : Ext w2 w17 := hx16.trans he17
 clear he17
 go_wp2_with fail
 generalize hw18 : w17.alloc (.cells #[.int .i64 6] 3) = w18 at *
 have hl18 : Blk w18 w17.heap.size 3 #[.int .i64 6] := by rw [← hw18]; exact Blk.new _ _ _ rfl
 have he18 : Ext w17 w18 := by rw [← hw18]; exact (Ext.refl _).alloc _
 have HI18 := Lib.hid (lit_ints (l := [6]) hl18 rfl)
 clear hw18 hl18
 generalize w17.heap.size = g18 at *
 have hx18 : Ext w2 w18 := hx17.trans he18
 refine (is_t (a := [6]) (b := [6]) w18 rfl (HM17.out.below he18) HI18.out (by simp)).mono ?_
 rintro e w19 ⟨rfl, hd19⟩
 have he19 : Ext w18 w19 := hd19.below _
 have hx19 : Ext w2 w19 := hx18.trans he19
 clear hd19 he19 HM17 HI18
 go_wp2_with fail
 have hz20 : (w19.alloc (.cells #[.int .i64 0] 3)).heap.size = w19.heap.size + 1 := by simp
 generalize hw20 : w19.alloc (.cells #[.int .i64 0] 3) = w20 at *
 have hl20 : Blk w20 w19.heap.size 3 #[.int .i64 0] := by rw [← hw20]; exact Blk.new _ _ _ rfl
 have he20 : Ext w19 w20 := by rw [← hw20]; exact (Ext.refl _).alloc _
 have HI20 := Lib.hid (lit_ints (l := [0]) hl20 rfl)
 clear hw20 hl20
 generalize w19.heap.size = g20 at *
 have hx20 : Ext w2 w20 := hx19.trans he20
 generalize hw21 : w20.alloc (.cells #[.int .i64 1] 3) = w21
 have hl21 : Blk w21 (g20 + 1) 3 #[.int .i64 1] := by rw [← hw21]; exact Blk.new _ _ _ hz20.symm
 have he21 : Ext w20 w21 := by rw [← hw21]; exact (Ext.refl _).alloc _
 have HI21 := Lib.hid (lit_ints (l := [1]) hl21 rfl)
 clear hw21 hl21 hz20
 have hx21 : Ext w2 w21 := hx20.trans he21
 refine (rReach_calls 0 w21 (HM2.out.below hx21) HLE.out (HI20.out.below he21) (by simp) HI21.out (by simp)).mono ?_
 rintro e w22 ⟨v22, rfl, hM22⟩
 rw [HMM.out, ex_reach] at hM22
 obtain ⟨A22, cp22, rfl, -⟩ := hM22.slice
 have HM22 := Lib.hid hM22.ints
 have he22 := hM22.ext
 clear hM22
 have hx22 : Ext w2 w22 := hx21.trans he22
 clear he22
 go_wp2_with fail
 generalize hw23 : w22.alloc (.cells #[.int .i64 0, .int .i64 2, .int .i64 3, .int .i64 5, .int .i64 6, .int .i64 7, .int .i64 8] 3) = w23 at *
 have hl23 : Blk w23 w22.heap.size 3 #[.int .i64 0, .int .i64 2, .int .i64 3, .int .i64 5, .int .i64 6, .int .i64 7, .int .i64 8] := by rw [← hw23]; exact Blk.new _ _ _ rfl
 have he23 : Ext w22 w23 := by rw [← hw23]; exact (Ext.refl _).alloc _
 have HI23 := Lib.hid (lit_ints (l := [0, 2, 3, 5, 6, 7, 8]) hl23 rfl)
 clear hw23 hl23
 generalize w22.heap.size = g23 at *
 have hx23 : Ext w2 w23 := hx22.trans he23
 refine (is_t (a := [0, 2, 3, 5, 6, 7, 8]) (b := [0, 2, 3, 5, 6, 7, 8]) w23 rfl (HM22.out.below he23) HI23.out (by simp)).mono ?_
 rintro e w24 ⟨rfl, hd24⟩
 have he24 : Ext w23 w24 := hd24.below _
 have hx24 : Ext w2 w24 := hx23.trans he24
 clear hd24 he24 HM22 HI23
 go_wp2_with fail
 have HXR := Lib.hid hx24
 refine (newB_calls w24 (HM2.out.below hx24) HLE.out (fun b hb => Nat.lt_of_lt_of_le hb.2 (Nat.le_trans HYS.out hx24.size)) HCK.out).mono ?_
 rintro e wr ⟨g, rfl, hEr, hR⟩
 rw [show loadS M [] 0 = ⟨[], false, 0⟩ from by rw [HMM.out]; exact (ex_load 6 8 (by simp)).2] at hR
 have HR := Lib.hid hR
 have hEWr : Hid (Ext w wr) := (HEW.out.trans hx24).trans hEr
 clear hR hEr c0 c1 c2 c3 c4 c5
 go_wp2_with fail
 have hEW := hEWr
 clear hEWr
 have LOR : Hid (∀ b, (fun k => w24.heap.size ≤ k ∧ k < wr.heap.size) b → w.heap.size ≤ b) := fun b hb => Nat.le_trans (Below.size (HEW.out.trans HXR.out)) hb.1
 have hszr := Lib.hid hEW.out.size
 refine (HR.out.step 2 ⟨[0, 1], false, 2⟩ false rfl (by rw [HMM.out]; exact ex_run1) (by omega) (by decide)).mono ?_
 rintro e w25 ⟨rfl, hR25, hc25⟩
 have hlo25 : Hid (Below w.heap.size wr w25) := hc25.below hEW.out.size (fun b hb => LOR.out b hb)
 have hEW := Lib.hid (show Ext w w25 from Below.trans hEW.out hlo25.out)
 have HR := Lib.hid hR25
 clear hR25 hc25 hlo25
 go_wp2_with fail
 have LOR2 : Hid (∀ b, (fun k => (fun k => w24.heap.size ≤ k ∧ k < wr.heap.size) k ∨ wr.heap.size ≤ k ∧ k < w25.heap.size) b → w.heap.size ≤ b) := fun b hb => by rcases hb with hb | hb; exact LOR.out b hb; exact Nat.le_trans hszr.out hb.1
 refine HR.out.choices.mono ?_
 rintro e w26 ⟨v26, rfl, hM26⟩
 dsimp only at hM26
 obtain ⟨A26, cp26, rfl, -⟩ := hM26.slice
 have HM26 := Lib.hid hM26.ints
 have he26 : Ext w25 w26 := hM26.ext
 clear hM26
 have HR := Lib.hid (HR.out.ext he26)
 have hEW := Lib.hid (hEW.out.trans he26)
 go_wp2_with fail
 generalize hw27 : w26.alloc (.cells #[.int .i64 0, .int .i64 1] 3) = w27
 have hl27 : Blk w27 w26.heap.size 3 #[.int .i64 0, .int .i64 1] := by rw [← hw27]; exact Blk.new _ _ _ rfl
 have he27 : Ext w26 w27 := by rw [← hw27]; exact (Ext.refl _).alloc _
 have HI27 := Lib.hid (lit_ints (l := [0, 1]) hl27 rfl)
 clear hw27 hl27
 have HR := Lib.hid (HR.out.ext he27)
 have hEW := Lib.hid (hEW.out.trans he27)
 refine (is_t (a := [0, 1]) (b := [0, 1]) w27 rfl (HM26.out.below he27) HI27.out (by simp)).mono ?_
 rintro e w28 ⟨rfl, hd28⟩
 have he28 : Ext w27 w28 := hd28.below _
 clear hd28 HM26 HI27 he26 he27
 have HR := Lib.hid (HR.out.ext he28)
 have hEW := Lib.hid (hEW.out.trans he28)
 clear he28
 go_wp2_with fail
 refine (HR.out.step 4 ⟨[0, 1, 2, 6, 7, 8], true, 6⟩ true rfl (by rw [HMM.out]; exact ex_run2) (by omega) (by decide)).mono ?_
 rintro e w29 ⟨rfl, hR29, hc29⟩
 have hlo29 : Hid (Below w.heap.size w28 w29) := hc29.below hEW.out.size (fun b hb => LOR2.out b hb)
 have hEW := Lib.hid (show Ext w w29 from Below.trans hEW.out hlo29.out)
 have HR := Lib.hid hR29
 clear hR29 hc29 hlo29
 go_wp2_with fail
 refine HR.out.found.mono ?_
 rintro e w30 ⟨vp, rfl, he30, hP⟩
 dsimp only at hP ⊢
 rw [HMM.out, ex_found] at hP
 rw [HMM.out, ex_cmp]
 obtain ⟨_, ⟨Ap, cpp, rfl, -⟩, -⟩ := id hP
 have HP := Lib.hid hP
 clear hP
 have HR := Lib.hid (HR.out.ext he30)
 have hEW := Lib.hid (hEW.out.trans he30)
 clear he30
 go_wp2_with fail
 refine (example_calls 4 8 _).mono ?_
 rintro e w31 ⟨vm31, rfl, he31, hm31⟩
 have hslT := Lib.hid he31.size
 have HM31 := Lib.hid hm31.bound
 clear hm31
 have HW31 := Lib.hid hEW.out.size
 have HR := Lib.hid (HR.out.ext he31)
 have HP := Lib.hid (HP.out.below he31)
 have hEW := Lib.hid (hEW.out.trans he31)
 clear he31
 go_wp2_with fail
 have HRb := Lib.hid HR.out.fb
 have HP := Lib.hid HP.out.bound
 have HWS := Lib.hid hEW.out.size
 refine (newB_calls w31 HM31.out (ex_lens 4 8) (fun b hb => hb.2) (ex_chk 4 8 (by simp))).mono ?_
 rintro e w32 ⟨gs, rfl, he32, hR32⟩
 rw [(ex_load 4 8 (by simp)).2] at hR32
 have HS := Lib.hid hR32
 clear hR32
 have HR := Lib.hid (HR.out.ext he32)
 have HP := Lib.hid (HP.out.below he32)
 have hEW := Lib.hid (hEW.out.trans he32)
 have HSZ32 := Lib.hid he32.size
 have HSS := Lib.hid he32.size
 clear he32
 go_wp2_with fail
 refine (example_calls 1 7 _).mono ?_
 rintro e w33 ⟨vm33, rfl, he33, hm33⟩
 have hslT := Lib.hid he33.size
 have HM33 := Lib.hid hm33.bound
 clear hm33
 have HW33 := Lib.hid hEW.out.size
 have HR := Lib.hid (HR.out.ext he33)
 have HP := Lib.hid (HP.out.below he33)
 have HS := Lib.hid (HS.out.ext he33)
 have hEW := Lib.hid (hEW.out.trans he33)
 clear he33
 go_wp2_with fail
 have HRb2 := Lib.hid HR.out.fb
 have HSb := Lib.hid HS.out.fb
 have HWT := Lib.hid hEW.out.size
 have HZT : Hid (w32.heap.size ≤ w33.heap.size) := hslT.out
 refine (newB_calls w33 HM33.out (ex_lens 1 7) (fun b hb => hb.2) (ex_chk 1 7 (by simp))).mono ?_
 rintro e w34 ⟨gt, rfl, he34, hR34⟩
 rw [(ex_load 1 7 (by simp)).2] at hR34
 have HT := Lib.hid hR34
 clear hR34
 have HR := Lib.hid (HR.out.ext he34)
 have HP := Lib.hid (HP.out.below he34)
 have HS := Lib.hid (HS.out.ext he34)
 have hEW := Lib.hid (hEW.out.trans he34)
 have HSZ34 := Lib.hid he34.size
 clear he34
 go_wp2_with fail
 refine (HS.out.step 9 ⟨[], true, 1⟩ true rfl (by exact ex_run3) (by omega) (by decide)).mono ?_
 rintro e w35 ⟨rfl, hR35, hc35⟩
 have hlo35 : Hid (Below w.heap.size w34 w35) := hc35.below hEW.out.size (fun b hb => Nat.le_trans HWS.out hb.1)
 have hEW := Lib.hid (show Ext w w35 from Below.trans hEW.out hlo35.out)
 have HR := Lib.hid (HR.out.chg hc35 (fun k hk hx => by have := HRb.out k hk; have := hx.1; omega))
 have HP := Lib.hid (HP.out.keep (hc35.same (fun b hb hx => by have := hb.2; have := hx.1; omega)))
 have HT := Lib.hid (HT.out.chg hc35 (fun k hk hx => hk.elim (fun hk => by have h0 := HZT.out; have := hk.1; have := hx.2; omega) (fun hk => by have := hk.1; have := hx.2; omega)))
 have HS := Lib.hid hR35
 clear hR35 hc35 hlo35
 go_wp2_with fail
 refine (HT.out.step 9 ⟨[], true, 4⟩ true rfl (by exact ex_run4) (by omega) (by decide)).mono ?_
 rintro e w36 ⟨rfl, hR36, hc36⟩
 have hlo36 : Hid (Below w.heap.size w35 w36) := hc36.below hEW.out.size (fun b hb => Nat.le_trans HWT.out hb.1)
 have hEW := Lib.hid (show Ext w w36 from Below.trans hEW.out hlo36.out)
 have HR := Lib.hid (HR.out.chg hc36 (fun k hk hx => by have := HRb2.out k hk; have := hx.1; omega))
 have HP := Lib.hid (HP.out.keep (hc36.same (fun b hb hx => by have := hb.2; have := hx.1; have := HZT.out; have := HSS.out; omega)))
 have HS := Lib.hid (HS.out.chg hc36 (fun k hk hx => hk.elim (fun hk => hk.elim (fun hk => by have := HSb.out k (.inl hk); have := hx.1; omega) (fun hk => by have := hk.1; have := hx.2; omega)) (fun hk => by have := HSb.out k (.inr hk); have := hx.1; omega)))
 have HT := Lib.hid hR36
 clear hR36 hc36 hlo36
 go_wp2_with fail
 refine HS.out.found.mono ?_
 rintro e w37 ⟨v37, rfl, he37, hP⟩
 dsimp only at hP ⊢
 rw [ex_ncmp 4 8 (by simp)]
 obtain ⟨_, ⟨_, _, rfl, -⟩, -⟩ := hP
 have HR := Lib.hid (HR.out.ext he37)
 have HP := Lib.hid (HP.out.below he37)
 have HS := Lib.hid (HS.out.ext he37)
 have HT := Lib.hid (HT.out.ext he37)
 have hEW := Lib.hid (hEW.out.trans he37)
 clear he37
 go_wp2_with fail
 refine HT.out.found.mono ?_
 rintro e w38 ⟨v38, rfl, he38, hP⟩
 dsimp only at hP ⊢
 rw [ex_ncmp 1 7 (by simp)]
 obtain ⟨_, ⟨_, _, rfl, -⟩, -⟩ := hP
 have HR := Lib.hid (HR.out.ext he38)
 have HP := Lib.hid (HP.out.below he38)
 have HS := Lib.hid (HS.out.ext he38)
 have HT := Lib.hid (HT.out.ext he38)
 have hEW := Lib.hid (hEW.out.trans he38)
 clear he38
 go_wp2_with fail
 obtain ⟨hqE, hqI⟩ := lit2 w38
 generalize (((w38.alloc (.cells #[.int .i64 0, .int .i64 1, .int .i64 2] 3)).alloc (.cells #[.int .i64 6, .int .i64 7, .int .i64 8] 3)).alloc (.cells #[.slice (some ⟨w38.heap.size, 0, none⟩) 3 3, .slice (some ⟨w38.heap.size + 1, 0, none⟩) 3 3] 24)) = w39 at *
 have HQI := Lib.hid hqI
 clear hqI
 have HR := Lib.hid (HR.out.ext hqE)
 have HP := Lib.hid (HP.out.below hqE)
 have HS := Lib.hid (HS.out.ext hqE)
 have HT := Lib.hid (HT.out.ext hqE)
 have hEW := Lib.hid (hEW.out.trans hqE)
 clear hqE
 refine (samePaths_t w39 rfl HP.out HQI.out (by simp) (by simp)).mono ?_
 rintro e w40 ⟨rfl, hd40⟩
 have he40 : Ext w39 w40 := hd40.below _
 clear hd40 HQI
 have HR := Lib.hid (HR.out.ext he40)
 have HP := Lib.hid (HP.out.below he40)
 have HS := Lib.hid (HS.out.ext he40)
 have HT := Lib.hid (HT.out.ext he40)
 have hEW := Lib.hid (hEW.out.trans he40)
 clear he40
 go_wp2_with fail
 refine HR.out.choices.mono ?_
 rintro e w41 ⟨v41, rfl, hM41⟩
 dsimp only at hM41
 obtain ⟨A41, cp41, rfl, -⟩ := hM41.slice
 have HM41 := Lib.hid hM41.ints
 have he41 : Ext w40 w41 := hM41.ext
 clear hM41
 have HR := Lib.hid (HR.out.ext he41)
 have HS := Lib.hid (HS.out.ext he41)
 have HT := Lib.hid (HT.out.ext he41)
 have hEW := Lib.hid (hEW.out.trans he41)
 go_wp2_with fail
 generalize hw42 : w41.alloc (.cells #[.int .i64 0, .int .i64 1, .int .i64 2, .int .i64 6, .int .i64 7, .int .i64 8] 3) = w42
 have hl42 : Blk w42 w41.heap.size 3 #[.int .i64 0, .int .i64 1, .int .i64 2, .int .i64 6, .int .i64 7, .int .i64 8] := by rw [← hw42]; exact Blk.new _ _ _ rfl
 have he42 : Ext w41 w42 := by rw [← hw42]; exact (Ext.refl _).alloc _
 have HI42 := Lib.hid (lit_ints (l := [0, 1, 2, 6, 7, 8]) hl42 rfl)
 clear hw42 hl42
 have HR := Lib.hid (HR.out.ext he42)
 have HS := Lib.hid (HS.out.ext he42)
 have HT := Lib.hid (HT.out.ext he42)
 have hEW := Lib.hid (hEW.out.trans he42)
 refine (is_t (a := [0, 1, 2, 6, 7, 8]) (b := [0, 1, 2, 6, 7, 8]) w42 rfl (HM41.out.below he42) HI42.out (by simp)).mono ?_
 rintro e w43 ⟨rfl, hd43⟩
 have he43 : Ext w42 w43 := hd43.below _
 clear hd43 HM41 HI42 he41 he42
 have HR := Lib.hid (HR.out.ext he43)
 have HS := Lib.hid (HS.out.ext he43)
 have HT := Lib.hid (HT.out.ext he43)
 have hEW := Lib.hid (hEW.out.trans he43)
 clear he43
 go_wp2_with fail
 refine HR.out.stepsC.mono ?_
 rintro e w44 ⟨rfl, rfl⟩
 dsimp only
 go_wp2_with fail
 refine HS.out.stepsC.mono ?_
 rintro e w45 ⟨rfl, rfl⟩
 dsimp only
 go_wp2_with fail
 refine HT.out.stepsC.mono ?_
 rintro e w46 ⟨rfl, rfl⟩
 dsimp only
 go_wp2_with fail
 go_ret
 exact ⟨rfl, hEW.out⟩
end Go.Proofs.Ytgpjfpcjiebjiaa

namespace Go.Proofs.Ytgpjfpcjiebjiaa
open Go.RowKit
set_option linter.unusedVariables false
set_option linter.unusedSimpArgs false

/-- What holds of a router's state at all times. -/
structure RInv (m : MZ) (s : RS) : Prop where
 ch : IsCh m s.ch
 st : 0 ≤ s.steps
 dn : s.done = (loadS m s.ch s.steps).done
 op : s.ch ≠ [] → openC m s.ch = true
theorem rinv_load {m : MZ} : RInv m (loadS m [] 0) := ⟨.nil, Int.le_refl _, rfl, fun h => absurd rfl h⟩
theorem RInv.one {m : MZ} {s : RS} (h : RInv m s) : RInv m (s.one m) := by
 unfold RS.one
 split
 ·rename_i c hc
  obtain ⟨h1, h2, h3⟩ := stepC_some h.ch hc
  refine ⟨h1, by have := h.st; show 0 ≤ s.steps + 1; omega, ?_, fun _ => h3⟩
  show cmpC m c = (cmpC m c || (decide (c = []) && decide (0 < s.steps + 1)))
  have : decide (c = []) = false := decide_eq_false (by rintro rfl; simp at h2)
  rw [this, Bool.false_and, Bool.or_false]
 ·refine ⟨.nil, by have := h.st; show 0 ≤ s.steps + 1; omega, ?_, fun h => absurd rfl h⟩
  show true = (cmpC m [] || (decide (([] : List Int) = []) && decide (0 < s.steps + 1)))
  have h1 : decide (0 < s.steps + 1) = true := decide_eq_true (by have := h.st; omega)
  rw [h1]; simp
theorem RInv.run {m : MZ} : ∀ (n : Nat) {s : RS}, RInv m s → RInv m (RS.run m n s)
 | 0, s, h => h
 | n + 1, s, h => by
  unfold RS.run
  split
  ·exact h
  ·exact RInv.run n h.one
theorem RInv.loadE {m : MZ} {s : RS} (h : RInv m s) (hc : chk m = 0) : loadE m s.ch s.steps = 0 := by
 unfold Go.Proofs.Ytgpjfpcjiebjiaa.loadE
 rw [hc, if_neg (by simp), if_neg (by have := h.st; omega), if_pos]
 rw [isChB_iff.2 h.ch, Bool.true_and, Bool.or_eq_true, decide_eq_true_eq]
 by_cases h0 : s.ch = []
 ·exact .inl h0
 ·exact .inr (h.op h0)
theorem RInv.loadS {m : MZ} {s : RS} (h : RInv m s) : loadS m s.ch s.steps = s := by
 obtain ⟨c, d, n⟩ := s
 have h1 : d = (cmpC m c || (decide (c = []) && decide (0 < n))) := h.dn
 show RS.mk c (cmpC m c || (decide (c = []) && decide (0 < n))) n = RS.mk c d n
 rw [← h1]
theorem RInv.open {m : MZ} {s : RS} (h : RInv m s) (hc : chk m = 0) (hn : s.ch ≠ []) : openO m s.ch = true := by
 unfold openO okC
 rw [isChB_iff.2 h.ch, h.op hn, decide_eq_true hc]; rfl
theorem RInv.done {m : MZ} {s : RS} (h : RInv m s) (hd : s.done = true) (hc : cmpC m s.ch = false) : s.ch = [] := by
 have h1 := h.dn
 rw [hd] at h1
 unfold Go.Proofs.Ytgpjfpcjiebjiaa.loadS at h1
 simp only [hc, Bool.false_or] at h1
 have h2 := h1.symm
 rw [Bool.and_eq_true, decide_eq_true_eq] at h2
 exact h2.1
theorem RInv.cmp {m : MZ} {s : RS} (h : RInv m s) (hc : cmpC m s.ch = true) : s.done = true := by
 rw [h.dn]
 unfold Go.Proofs.Ytgpjfpcjiebjiaa.loadS
 simp [hc]
/-- A router loaded. -/
theorem loadB_calls {Y okc : Nat → Prop} {v vc : Value} {m : MZ} {s : RS} (w : World) (hm : MazeV w Y v m) (hl : Lens m) (hch : Ints w okc vc s.ch) (hlc : s.ch.length ≤ 20000000000000) (hYb : ∀ b, Y b → b < w.heap.size) (hc : chk m = 0) (hI : RInv m s) :
  Calls Try.prog 32 #[v, vc, .int .i64 s.steps] w fun e w' => ∃ g, e = .returned (.tuple #[.pointer (some ⟨g, 0, none⟩), .int .i64 0]) ∧ Ext w w' ∧ RtB w' (fun k => w.heap.size ≤ k ∧ k < w'.heap.size) Y g m s := by
 refine (load_calls s.steps w hm hl hch hlc hYb).mono ?_
 have hle := hI.loadE hc
 rintro e w' ⟨v', rfl, hE, h | ⟨h1, h2, h3, g, gr, cap, pt, rfl, hr⟩⟩
 ·exact absurd hle h.1
 ·rw [hI.loadS] at hr
  exact ⟨g, by rw [hle]; rfl, hE, ⟨gr, cap, pt, hr.bound⟩, fun k hk => hk.2, fun k hk => Nat.lt_of_lt_of_le (hYb k hk) hE.size, h2, hl, h3, hI.st⟩

/-- A router made behind w. -/
structure OneX (w wr : World) (X : Nat → Prop) (g : Nat) (m : MZ) (s : RS) : Prop where
 ext : Ext w wr
 rt : RtB wr X (fun b => b < w.heap.size) g m s
 lo : ∀ k, X k → w.heap.size ≤ k
 inv : RInv m s
def OneR (w wr : World) (g : Nat) (m : MZ) (s : RS) : Prop := ∃ X, OneX w wr X g m s
/-- Two routers made behind w. -/
def TwoR (w wr : World) (g g' : Nat) (m : MZ) (s s' : RS) : Prop := ∃ X X', OneX w wr X g m s ∧ OneX w wr X' g' m s' ∧ ∀ k, X k → ¬ X' k
section
variable {w wr w' : World} {X X' : Nat → Prop} {g g' : Nat} {m : MZ} {s s' : RS}
theorem OneX.more (h : OneX w wr X g m s) (hE : Ext wr w') : OneX w w' X g m s := ⟨h.ext.trans hE, h.rt.ext hE, h.lo, h.inv⟩
theorem OneX.other (h : OneX w wr X g m s) (hX : ∀ k, X' k → w.heap.size ≤ k) (hd : ∀ k, X k → ¬ X' k) (hc : Chg X' wr w') : OneX w w' X g m s :=
 ⟨Below.trans h.ext (hc.below h.ext.size hX), h.rt.chg hc (fun k hk hx => hk.elim (fun hk => hd k hk hx) (fun hk => by have := hX k hx; omega)), h.lo, h.inv⟩
theorem OneX.step (h : OneX w wr X g m s) (n : Nat) (hn : n ≤ 1000000) (hs1 : s.steps ≤ 3000000000000000000) :
  Calls Try.prog 24 #[.pointer (some ⟨g, 0, none⟩), .int .i64 n] wr fun e w' => e = .returned (.bool (RS.run m n s).done) ∧ OneX w w' (fun k => X k ∨ (wr.heap.size ≤ k ∧ k < w'.heap.size)) g m (RS.run m n s) ∧ Chg X wr w' := by
 refine (h.rt.step n _ _ rfl rfl hn hs1).mono ?_
 rintro e w' ⟨rfl, hr, hc⟩
 exact ⟨rfl, ⟨Below.trans h.ext (hc.below h.ext.size h.lo), hr, fun k hk => hk.elim (h.lo k) (fun hk => Nat.le_trans h.ext.size hk.1), h.inv.run n⟩, hc⟩
theorem OneR.more (h : OneR w wr g m s) (hE : Ext wr w') : OneR w w' g m s := by
 obtain ⟨X, h⟩ := h
 exact ⟨X, h.more hE⟩
theorem OneR.ext (h : OneR w wr g m s) : Ext w wr := by
 obtain ⟨X, h⟩ := h
 exact h.ext
theorem OneR.inv (h : OneR w wr g m s) : RInv m s := by
 obtain ⟨X, h⟩ := h
 exact h.inv
theorem OneR.step (h : OneR w wr g m s) (n : Nat) (hn : n ≤ 1000000) (hs1 : s.steps ≤ 3000000000000000000) :
  Calls Try.prog 24 #[.pointer (some ⟨g, 0, none⟩), .int .i64 n] wr fun e w' => e = .returned (.bool (RS.run m n s).done) ∧ OneR w w' g m (RS.run m n s) := by
 obtain ⟨X, h⟩ := h
 refine (h.step n hn hs1).mono ?_
 rintro e w' ⟨rfl, hr, hc⟩
 exact ⟨rfl, _, hr⟩
/-- A step behind other work: what was made since lies apart. -/
theorem OneR.stepKeep {w2 : World} (h : OneR w wr g m s) (hE : Ext wr w2) (n : Nat) (hn : n ≤ 1000000) (hs1 : s.steps ≤ 3000000000000000000) :
  Calls Try.prog 24 #[.pointer (some ⟨g, 0, none⟩), .int .i64 n] w2 fun e w' => e = .returned (.bool (RS.run m n s).done) ∧ OneR w w' g m (RS.run m n s) ∧ Same (fun b => wr.heap.size ≤ b) w2 w' := by
 obtain ⟨X, h⟩ := h
 refine ((h.more hE).step n hn hs1).mono ?_
 rintro e w' ⟨rfl, hr, hc⟩
 exact ⟨rfl, ⟨_, hr⟩, hc.same fun b hb hx => by have := h.rt.xb b hx; omega⟩
theorem OneR.choices (h : OneR w wr g m s) : Calls Try.prog 29 #[.pointer (some ⟨g, 0, none⟩)] wr fun e w' => ∃ v', e = .returned v' ∧ Mk wr w' v' s.ch := by
 obtain ⟨X, h⟩ := h
 exact h.rt.choices
theorem OneR.stepsC (h : OneR w wr g m s) : Calls Try.prog 28 #[.pointer (some ⟨g, 0, none⟩)] wr fun e w' => e = .returned (.int .i64 s.steps) ∧ wr = w' := by
 obtain ⟨X, h⟩ := h
 exact h.rt.stepsC
theorem OneR.found (h : OneR w wr g m s) : Calls Try.prog 26 #[.pointer (some ⟨g, 0, none⟩)] wr (FoundPost wr m s.ch) := by
 obtain ⟨X, h⟩ := h
 exact h.rt.found
theorem OneR.len (h : OneR w wr g m s) : s.ch.length ≤ 300 := by
 obtain ⟨X, h⟩ := h
 exact h.rt.ch.len300 h.rt.good
theorem OneR.good (h : OneR w wr g m s) : Good m ∧ Lens m := by
 obtain ⟨X, h⟩ := h
 exact ⟨h.rt.good, h.rt.lens⟩

theorem TwoR.fst (h : TwoR w wr g g' m s s') : OneR w wr g m s := by
 obtain ⟨X, X', h1, h2, hd⟩ := h
 exact ⟨X, h1⟩
theorem TwoR.snd (h : TwoR w wr g g' m s s') : OneR w wr g' m s' := by
 obtain ⟨X, X', h1, h2, hd⟩ := h
 exact ⟨X', h2⟩
theorem TwoR.swap (h : TwoR w wr g g' m s s') : TwoR w wr g' g m s' s := by
 obtain ⟨X, X', h1, h2, hd⟩ := h
 exact ⟨X', X, h2, h1, fun k hk hx => hd k hx hk⟩
theorem TwoR.more (h : TwoR w wr g g' m s s') (hE : Ext wr w') : TwoR w w' g g' m s s' := by
 obtain ⟨X, X', h1, h2, hd⟩ := h
 exact ⟨X, X', h1.more hE, h2.more hE, hd⟩
theorem TwoR.step (h : TwoR w wr g g' m s s') (n : Nat) (hn : n ≤ 1000000) (hs1 : s.steps ≤ 3000000000000000000) :
  Calls Try.prog 24 #[.pointer (some ⟨g, 0, none⟩), .int .i64 n] wr fun e w' => e = .returned (.bool (RS.run m n s).done) ∧ TwoR w w' g g' m (RS.run m n s) s' := by
 obtain ⟨X, X', h1, h2, hd⟩ := h
 refine (h1.step n hn hs1).mono ?_
 rintro e w' ⟨rfl, hr, hc⟩
 refine ⟨rfl, _, X', hr, h2.other h1.lo (fun k hk hx => hd k hx hk) hc, fun k hk hx => ?_⟩
 rcases hk with hk | hk
 ·exact hd k hk hx
 ·have := h2.rt.xb k hx
  omega
/-- The first router. -/
theorem new1 {v : Value} {okm : Nat → Prop} (w wr : World) (hE : Ext w wr) (hm : MazeV w okm v m) (hl : Lens m) (hc : chk m = 0) :
  Calls Try.prog 22 #[v] wr fun e w' => ∃ g, e = .returned (.tuple #[.pointer (some ⟨g, 0, none⟩), .int .i64 0]) ∧ Ext wr w' ∧ OneR w w' g m (loadS m [] 0) := by
 refine (newB_calls (Y := fun b => b < w.heap.size) wr ((hm.bound.weaken fun b hb => hb.2).below hE) hl (fun b hb => Nat.lt_of_lt_of_le hb hE.size) hc).mono ?_
 rintro e w' ⟨g, rfl, hE', hR⟩
 exact ⟨g, rfl, hE', _, hE.trans hE', hR, fun k hk => Nat.le_trans hE.size hk.1, rinv_load⟩
/-- Another one. -/
theorem OneR.new2 {v : Value} {okm : Nat → Prop} (h : OneR w wr g m s) (hm : MazeV w okm v m) (hc : chk m = 0) :
  Calls Try.prog 22 #[v] wr fun e w' => ∃ g', e = .returned (.tuple #[.pointer (some ⟨g', 0, none⟩), .int .i64 0]) ∧ Ext wr w' ∧ TwoR w w' g g' m s (loadS m [] 0) := by
 obtain ⟨X, h⟩ := h
 refine (newB_calls (Y := fun b => b < w.heap.size) wr ((hm.bound.weaken fun b hb => hb.2).below h.ext) h.rt.lens (fun b hb => Nat.lt_of_lt_of_le hb h.ext.size) hc).mono ?_
 rintro e w' ⟨g', rfl, hE', hR⟩
 exact ⟨g', rfl, hE', X, _, h.more hE', ⟨h.ext.trans hE', hR, fun k hk => Nat.le_trans h.ext.size hk.1, rinv_load⟩, fun k hk hx => by have := h.rt.xb k hk; have := hx.1; omega⟩
/-- Another one, loaded. -/
theorem OneR.load2 {v vc : Value} {okm okc : Nat → Prop} (h : OneR w wr g m s) (hm : MazeV w okm v m) (hc : chk m = 0) (hch : Ints wr okc vc s'.ch) (hlc : s'.ch.length ≤ 20000000000000) (hI : RInv m s') :
  Calls Try.prog 32 #[v, vc, .int .i64 s'.steps] wr fun e w' => ∃ g', e = .returned (.tuple #[.pointer (some ⟨g', 0, none⟩), .int .i64 0]) ∧ Ext wr w' ∧ TwoR w w' g g' m s s' := by
 obtain ⟨X, h⟩ := h
 refine (loadB_calls (Y := fun b => b < w.heap.size) wr ((hm.bound.weaken fun b hb => hb.2).below h.ext) h.rt.lens hch hlc (fun b hb => Nat.lt_of_lt_of_le hb h.ext.size) hc hI).mono ?_
 rintro e w' ⟨g', rfl, hE', hR⟩
 exact ⟨g', rfl, hE', X, _, h.more hE', ⟨h.ext.trans hE', hR, fun k hk => Nat.le_trans h.ext.size hk.1, hI⟩, fun k hk hx => by have := h.rt.xb k hk; have := hx.1; omega⟩
end
theorem found_len {m : MZ} {ch : List Int} (g : Good m) (hl : Lens m) (hc : IsCh m ch) : (foundL m ch).length ≤ 1000 ∧ ∀ x ∈ foundL m ch, x.length ≤ 1000 := by
 have hs := hc.sok g hl
 unfold foundL
 split
 ·exact ⟨by have := hs.pl; have := g.tk; omega, hs.pp⟩
 ·exact ⟨by simp, fun x hx => by cases hx⟩
end Go.Proofs.Ytgpjfpcjiebjiaa

namespace Go.Proofs.Ytgpjfpcjiebjiaa
open Go.RowKit
set_option linter.unusedVariables false
set_option linter.unusedSimpArgs false

theorem emod_pred {a m : Int} (hm : 0 < m) (h : 0 < a % m) : (a - 1) % m = a % m - 1 := by
 have h1 := Int.emod_add_mul_ediv a m
 have h2 := Int.emod_lt_of_pos a hm
 have h3 : a - 1 = (a % m - 1) + m * (a / m) := by omega
 rw [h3, Int.add_mul_emod_self_left, Int.emod_eq_of_lt (by omega) (by omega)]
theorem emod_succ {a m : Int} (hm : 0 < m) (h : a % m + 1 < m) : (a + 1) % m = a % m + 1 := by
 have h1 := Int.emod_add_mul_ediv a m
 have h2 := Int.emod_nonneg a (show m ≠ 0 by omega)
 have h3 : a + 1 = (a % m + 1) + m * (a / m) := by omega
 rw [h3, Int.add_mul_emod_self_left, Int.emod_eq_of_lt (by omega) (by omega)]
theorem ediv_pred {a m : Int} (hm : 0 < m) : (a - m) / m = a / m - 1 := by
 have h : a - m = a + (-1) * m := by omega
 rw [h, Int.add_mul_ediv_right _ _ (by omega)]
 omega
theorem ediv_succ {a m : Int} (hm : 0 < m) : (a + m) / m = a / m + 1 := by
 have h : a + m = a + 1 * m := by omega
 rw [h, Int.add_mul_ediv_right _ _ (by omega)]

theorem nextL_symm {m : MZ} (d : Dim m) {k x : Int} (h0 : 0 ≤ k) (h1 : k < m.n) (h : x ∈ nextL m k) : k ∈ nextL m x := by
 have hw := d.w1
 have hh := d.h1
 obtain ⟨l1, l2⟩ := d.layer
 unfold MZ.n at h1
 simp only [nextL, mem_ap, Bool.and_eq_true, decide_eq_true_eq, List.not_mem_nil, false_or] at h ⊢
 rcases h with ((((( ⟨⟨a, b⟩, rfl⟩) | ⟨a, rfl⟩) | ⟨a, rfl⟩) | ⟨a, rfl⟩) | ⟨a, rfl⟩) | ⟨⟨a, b⟩, rfl⟩
 ·refine .inr ⟨⟨by omega, b⟩, by omega⟩
 ·refine .inl (.inr ⟨?_, by omega⟩)
  rw [ediv_pred (by omega), emod_pred (by omega) a]
  have := Int.emod_lt_of_pos (k / m.w) (show 0 < m.h by omega)
  omega
 ·refine .inl (.inl (.inr ⟨?_, by omega⟩))
  rw [emod_pred (by omega) a]
  have := Int.emod_lt_of_pos k (show 0 < m.w by omega)
  omega
 ·refine .inl (.inl (.inl (.inr ⟨?_, by omega⟩)))
  rw [emod_succ (by omega) a]
  have := Int.emod_nonneg k (show m.w ≠ 0 by omega)
  omega
 ·refine .inl (.inl (.inl (.inl (.inr ⟨?_, by omega⟩))))
  rw [ediv_succ (by omega), emod_succ (by omega) a]
  have := Int.emod_nonneg (k / m.w) (show m.h ≠ 0 by omega)
  omega
 ·refine .inl (.inl (.inl (.inl (.inl ⟨⟨by omega, ?_⟩, by omega⟩))))
  rw [show k + m.w * m.h - m.w * m.h = k from by omega]
  exact b
theorem ap_pw {c : Bool} {x : Int} {l : List Int} (h : l.Pairwise (· < ·)) (hx : c = true → ∀ y ∈ l, y < x) : (ap c x l).Pairwise (· < ·) := by
 unfold ap
 cases c
 ·simpa using h
 ·simp only [if_pos]
  rw [List.pairwise_append]
  refine ⟨h, by simp, fun a ha b hb => ?_⟩
  rw [List.mem_singleton] at hb
  subst hb
  exact hx rfl a ha
theorem nextL_pw {m : MZ} (d : Dim m) (k : Int) : (nextL m k).Pairwise (· < ·) := by
 have hw := d.w1
 have hh := d.h1
 have hW : m.w ≤ m.w * m.h := by
  have := Int.mul_le_mul_of_nonneg_left hh (show 0 ≤ m.w by omega)
  omega
 have h2 : ∀ {j : Int}, 0 < j % m.h → m.w < m.w * m.h := by
  intro j hj
  have h3 := Int.emod_lt_of_pos j (show 0 < m.h by omega)
  have := Int.mul_le_mul_of_nonneg_left (show 2 ≤ m.h by omega) (show 0 ≤ m.w by omega)
  omega
 have h2' : ∀ {j : Int}, j % m.h + 1 < m.h → m.w < m.w * m.h := by
  intro j hj
  have h3 := Int.emod_nonneg j (show m.h ≠ 0 by omega)
  have := Int.mul_le_mul_of_nonneg_left (show 2 ≤ m.h by omega) (show 0 ≤ m.w by omega)
  omega
 unfold nextL
 refine ap_pw (ap_pw (ap_pw (ap_pw (ap_pw (ap_pw List.Pairwise.nil ?_) ?_) ?_) ?_) ?_) ?_
 ·intro _ y hy; cases hy
 ·intro hc y hy
  simp only [mem_ap, Bool.and_eq_true, decide_eq_true_eq, List.not_mem_nil, false_or] at hc hy
  have := h2 hc
  omega
 ·intro hc y hy
  simp only [mem_ap, Bool.and_eq_true, decide_eq_true_eq, List.not_mem_nil, false_or] at hc hy
  have h4 := Int.emod_lt_of_pos k (show 0 < m.w by omega)
  rcases hy with hy | hy <;> omega
 ·intro hc y hy
  simp only [mem_ap, Bool.and_eq_true, decide_eq_true_eq, List.not_mem_nil, false_or] at hc hy
  rcases hy with (hy | hy) | hy <;> omega
 ·intro hc y hy
  simp only [mem_ap, Bool.and_eq_true, decide_eq_true_eq, List.not_mem_nil, false_or] at hc hy
  have h5 := Int.emod_nonneg k (show m.w ≠ 0 by omega)
  rcases hy with ((hy | hy) | hy) | hy <;> omega
 ·intro hc y hy
  simp only [mem_ap, Bool.and_eq_true, decide_eq_true_eq, List.not_mem_nil, false_or] at hc hy
  have h5 := Int.emod_nonneg k (show m.w ≠ 0 by omega)
  rcases hy with (((hy | hy) | hy) | hy) | hy
  ·omega
  ·omega
  ·omega
  ·omega
  ·have := h2' hy.1
   omega
theorem pw_step {l : List Int} (h : l.Pairwise (· < ·)) {i : Nat} (hi : 0 < i) (hl : i < l.length) : l[i - 1] < l[i] := by
 rw [List.pairwise_iff_getElem] at h
 exact h (i - 1) i (by omega) hl (by omega)
theorem reachL_pw (m : MZ) (t : Nat) (f us : List Int) : (reachL m t f us).Pairwise (· < ·) := by
 unfold reachL
 apply List.Pairwise.filter
 rw [List.pairwise_map]
 exact List.Pairwise.imp (fun h => by simpa using h) List.pairwise_lt_range
/-- What is reached is a beginning, or led to, and then free and not used. -/
theorem RP.led {m : MZ} (d : Dim m) {t : Nat} {f us : List Int} {x : Int} (h : RP m t f us x) : x ∈ f ∨ (freeAt m t x = true ∧ x ∉ us ∧ ∃ y ∈ nextL m x, RP m t f us y) := by
 have := h (fun x => RP m t f us x ∧ (x ∈ f ∨ (freeAt m t x = true ∧ x ∉ us ∧ ∃ y ∈ nextL m x, RP m t f us y))) (fun y hy h0 h1 => ⟨RP.base hy h0 h1, .inl hy⟩) (fun y z hy hz h1 h2 => by
  have hr := hy.1.range d
  exact ⟨hy.1.step hz h1 h2, .inr ⟨h1, h2, y, nextL_symm d hr.1 hr.2 hz, hy.1⟩⟩)
 exact this.2
theorem good_chk {m : MZ} (g : Good m) : chk m = 0 := by
 have d := g.dim
 have hs : [m.w, m.h, m.l].any side = false := by
  have h1 := d.w1; have h2 := d.w2; have h3 := d.h1; have h4 := d.h2; have h5 := d.l1; have h6 := d.l2
  simp [side]
  omega
 unfold chk
 rw [hs, if_neg (by simp), if_neg (by have := d.n1; have := g.tk; unfold MZ.n; omega), if_neg, if_neg]
 ·intro h
  obtain ⟨t, ht, h1⟩ := List.any_eq_true.1 h
  rw [Bool.or_eq_true] at h1
  rcases h1 with h1 | h1
  ·obtain ⟨x, hx, h2⟩ := List.any_eq_true.1 h1
   have := g.tn t ht x (.inl hx)
   simp [beyond] at h2
   omega
  ·obtain ⟨x, hx, h2⟩ := List.any_eq_true.1 h1
   have := g.tn t ht x (.inr hx)
   simp [beyond] at h2
   omega
 ·intro h
  rcases h with h | h | h
  ·exact h g.fl
  ·exact h d.up
  ·obtain ⟨f, hf, h2⟩ := List.any_eq_true.1 h
   have := g.fn f hf
   simp at h2
   exact h2 this
theorem mazeFree {W : World} {ok : Nat → Prop} {m : MZ} {vfr vup vts : Value} (h : MazeV W ok (.agg #[.int .i64 m.w, .int .i64 m.h, .int .i64 m.l, vfr, vup, vts]) m) (hfn : ∀ f ∈ m.free, (f.length : Int) = m.n) {t : Nat} (ht : t < m.free.length) {n : Int} (h0 : 0 ≤ n) (h1 : n < m.n) :
  ∃ b off c b' off' l c', vfr = .slice (some ⟨b, off, none⟩) m.free.length c ∧ W.cell? ⟨b, off + t, none⟩ = some (.slice (some ⟨b', off', none⟩) l c') ∧ n < (l : Int) ∧ l ≤ c' ∧ m.free.length ≤ c ∧ W.cell? ⟨b', off' + n.toNat, none⟩ = some (.bool (freeAt m t n)) := by
 obtain ⟨fr', up', ts', he, hfr, _, _⟩ := h
 injection he with he
 injection he with he
 simp only [List.cons.injEq, and_true, true_and] at he
 obtain ⟨rfl, rfl, rfl⟩ := he
 obtain ⟨vsf, ⟨Af, cf, rfl, hcf, hrf⟩, hef⟩ := hfr
 obtain ⟨bf, off3, uf, rfl, _, hcf1, hbf⟩ := eachAt hrf hef ht ht
 have hflen := hfn _ (List.getElem_mem ht)
 obtain ⟨A4, c4, rfl, hc4, hr4⟩ := hbf
 have hyl : n.toNat < (m.free[t]).length := by omega
 obtain ⟨b4, off4, rfl, _, hcf2⟩ := boolsAt hr4 hyl hyl
 have hfr : (m.free[t])[n.toNat] = freeAt m t n := by simp [freeAt, ht, hyl]
 rw [hfr] at hcf2
 exact ⟨bf, off3, cf, b4, off4, _, c4, rfl, hcf1, by omega, hc4, hcf, hcf2⟩
end Go.Proofs.Ytgpjfpcjiebjiaa

namespace Go.Proofs.Ytgpjfpcjiebjiaa
open Go.ChangeShapes Go.WideShapes Go.ChangeAt Go.RowKit
set_option linter.unusedVariables false
set_option linter.unusedSimpArgs false
set_option maxRecDepth 100000

/-- Bytes in memory. -/
def U8s (w : World) (ok : Nat → Prop) (v : Value) (l : List Int) : Prop := Row w ok 1 v l.length (l.map (Value.int .u8)) ∧ ∀ x ∈ l, 0 ≤ x ∧ x ≤ 255
theorem U8s.below {w w' : World} {ok : Nat → Prop} {v : Value} {l : List Int} (h : U8s w ok v l) (hb : Below w.heap.size w w') : U8s w' ok v l := ⟨Row.below h.1 hb, h.2⟩
theorem u8At {w : World} {ok : Nat → Prop} {l : List Int} {n c : Nat} {A : Option Addr} (h : U8s w ok (.slice A n c) l) {k : Nat} (hk : k < l.length) :
  ∃ b off, A = some ⟨b, off, none⟩ ∧ w.cell? ⟨b, off + k, none⟩ = some (.int .u8 (l[k])) ∧ 0 ≤ l[k] ∧ l[k] ≤ 255 := by
 obtain ⟨⟨A', c', e, hc, hr⟩, h2⟩ := h
 injection e with e1 e2 e3
 subst e1
 obtain ⟨b, off, u, e, hb, hu, hcl⟩ := hr.at_ hk
 rw [List.getElem?_map, List.getElem?_eq_getElem hk] at hu
 exact ⟨b, off, e, by rw [hcl, ← hu]; rfl, (h2 _ (List.getElem_mem hk)).1, (h2 _ (List.getElem_mem hk)).2⟩

theorem spot_none {w : World} {a : Addr} {v : Value} (h : w.cell? a = some v) : a.spot = none := by
 unfold World.cell? at h
 split at h
 ·split at h
  ·cases h
  ·rename_i h1
   cases hs : a.spot
   ·rfl
   ·rw [hs] at h1; simp at h1
 ·cases h
theorem addr_at {a : Addr} (h : a.spot = none) (n : Nat) : a.add n = ⟨a.block, a.off + n, none⟩ := by
 obtain ⟨b, o, s⟩ := a
 simp only at h
 subst h
 unfold Addr.add
 split
 ·rename_i h0; subst h0; rfl
 ·rfl
theorem chooseList {β : Type} {p : Nat → β → Prop} : ∀ (n : Nat), (∀ i, i < n → ∃ b, p i b) → ∃ l : List β, l.length = n ∧ ∀ i b, l[i]? = some b → p i b
 | 0, _ => ⟨[], rfl, fun i b h => by simp at h⟩
 | n + 1, h => by
  obtain ⟨l, hl, h1⟩ := chooseList n (fun i hi => h i (by omega))
  obtain ⟨b, hb⟩ := h n (by omega)
  refine ⟨l ++ [b], by simp [hl], fun i x hx => ?_⟩
  rcases Nat.lt_or_ge i l.length with hi | hi
  ·rw [List.getElem?_append_left hi] at hx; exact h1 i x hx
  ·have hi2 : i = l.length := by
    rcases Nat.lt_or_ge i (l ++ [b]).length with h2 | h2
    ·simp at h2; omega
    ·rw [List.getElem?_eq_none h2] at hx; cases hx
   subst hi2
   rw [List.getElem?_append_right (Nat.le_refl _), Nat.sub_self] at hx
   have : b = x := by simpa using hx
   subst this
   rw [hl]; exact hb

section
variable {H : Type} {enc : TypeId × Value → H} {w : World} {base : Nat} {held : Bool} {fuel : Nat} {cs : List Value} {x : DataW H × List MemPlace}

/-- A slice, element by element. -/
theorem sliceOpen {t e : TypeId} {sz : Nat} (ht : Try.prog.underlying t = some (.slice e)) (hsz : Try.prog.cellsOf e = sz) (h0 : 0 < sz) (h : DataW.trod enc Try.prog w base (fun _ => true) held fuel t cs = some x) :
  ∃ A len c, cs = [.slice A len c] ∧ len ≤ c ∧ len ≤ 9223372036854775807 ∧ (0 < len → ∃ b off, A = some ⟨b, off, none⟩ ∧ ∀ i, i < len → ∃ (cl : List Value) (n : Nat) (y : DataW H × List MemPlace), cl.length = sz ∧ (∀ j, j < sz → w.cell? ⟨b, off + (i * sz + j), none⟩ = cl[j]?) ∧ DataW.trod enc Try.prog w base (fun _ => true) held n e cl = some y) := by
 rcases DataW.trod_slice ht h with ⟨rfl, _⟩ | ⟨a, len, cap, elems, rest, n, _, rfl, _, hb, hl, hm, hlen, hel, _, _⟩
 ·exact ⟨none, 0, 0, rfl, Nat.le_refl _, by decide, fun h => by omega⟩
 ·refine ⟨some a, len, cap, rfl, hl, by unfold maxLen at hm; omega, fun hpos => ?_⟩
  have each : ∀ i, i < len → ∃ (cl : List Value) (y : DataW H × List MemPlace), w.cells? base (a.add (i * sz)) sz = some cl ∧ DataW.trod enc Try.prog w base (fun _ => true) held n e cl = some y := fun i hi => by
   have h1 := hel i hi
   rw [hsz, List.getElem?_eq_getElem (by omega)] at h1
   obtain ⟨cl, h2, h3⟩ := Option.bind_eq_some_iff.1 h1
   exact ⟨cl, _, h2, h3⟩
  have hs : a.spot = none := by
   obtain ⟨cl, y, h2, _⟩ := each 0 hpos
   obtain ⟨_, h4, h5⟩ := World.cells?_some h2
   have h6 := h5 0 h0
   rw [List.getElem?_eq_getElem (by omega)] at h6
   have h7 := spot_none h6
   rw [Nat.zero_mul] at h7
   unfold Addr.add at h7
   rwa [if_pos rfl, if_pos rfl] at h7
  refine ⟨a.block, a.off, ?_, fun i hi => ?_⟩
  ·obtain ⟨b, o, s⟩ := a
   simp only at hs
   subst hs; rfl
  ·obtain ⟨cl, y, h2, h3⟩ := each i hi
   obtain ⟨_, h4, h5⟩ := World.cells?_some h2
   refine ⟨cl, n, y, h4, fun j hj => ?_, h3⟩
   have h6 := h5 j hj
   rw [addr_at hs, addr_at rfl] at h6
   rw [← Nat.add_assoc]
   exact h6
theorem eachOpen {α : Type} {R : Value → α → Prop} {t e : TypeId} (ht : Try.prog.underlying t = some (.slice e)) (hsz : Try.prog.cellsOf e = 1)
  (hR : ∀ n cl y, DataW.trod enc Try.prog w base (fun _ => true) held n e cl = some y → ∃ v a, cl = [v] ∧ R v a) (h : DataW.trod enc Try.prog w base (fun _ => true) held fuel t cs = some x) :
  ∃ v l, cs = [v] ∧ Each R w (fun _ => True) v l ∧ l.length ≤ 9223372036854775807 ∧ ∀ a ∈ l, ∃ u, R u a := by
 obtain ⟨A, len, c, rfl, hlc, hlm, hel0⟩ := sliceOpen ht hsz (by omega) h
 rcases Nat.eq_zero_or_pos len with rfl | hpos
 ·exact ⟨_, [], rfl, ⟨[], ⟨A, c, rfl, hlc, RowA.nil _ _ _ _⟩, fun i y hy => by simp at hy⟩, by simp, fun a ha => by cases ha⟩
 ·obtain ⟨b, off, rfl, hel⟩ := hel0 hpos
  clear hel0
  obtain ⟨l, hl, hp⟩ := chooseList (β := Value × α) (p := fun i va => w.cell? ⟨b, off + i, none⟩ = some va.1 ∧ R va.1 va.2) len (fun i hi => by
   obtain ⟨cl, n, y, h1, h2, h3⟩ := hel i hi
   obtain ⟨v, a, rfl, hr⟩ := hR n cl y h3
   have := h2 0 (by omega)
   rw [Nat.mul_one, Nat.add_zero] at this
   exact ⟨(v, a), this, hr⟩)
  refine ⟨_, l.map (·.2), rfl, ⟨l.map (·.1), ⟨_, c, by rw [List.length_map, hl], by rw [List.length_map, hl]; exact hlc, by simp, fun _ => ⟨b, off, rfl, trivial, fun j u hu => ?_⟩⟩, fun i y hy => ?_⟩, by rw [List.length_map, hl]; exact hlm, fun a ha => ?_⟩
  ·rw [List.getElem?_map] at hu
   obtain ⟨va, h1, rfl⟩ := Option.map_eq_some_iff.1 hu
   exact (hp j va h1).1
  ·rw [List.getElem?_map] at hy
   obtain ⟨va, h1, rfl⟩ := Option.map_eq_some_iff.1 hy
   exact ⟨va.1, by rw [List.getElem?_map, h1]; rfl, (hp i va h1).2⟩
  ·obtain ⟨va, h1, rfl⟩ := List.mem_map.1 ha
   obtain ⟨i, hi, rfl⟩ := List.getElem_of_mem h1
   exact ⟨_, (hp i _ (List.getElem?_eq_getElem hi)).2⟩
theorem row_of_each {α : Type} {f : α → Value} {v : Value} {l : List α} (h : Each (fun u a => u = f a) w (fun _ => True) v l) : Row w (fun _ => True) 1 v l.length (l.map f) := by
 obtain ⟨vs, hr, he⟩ := h
 have : vs = l.map f := by
  have hlen := hr
  obtain ⟨A, c, _, _, hA⟩ := hlen
  have hl : vs.length = l.length := by have := hA.1; omega
  refine List.ext_getElem? fun i => ?_
  rcases Nat.lt_or_ge i l.length with hi | hi
  ·obtain ⟨u, hu, hr⟩ := he i _ (List.getElem?_eq_getElem hi)
   rw [hu, List.getElem?_map, List.getElem?_eq_getElem hi, hr]; rfl
  ·rw [List.getElem?_eq_none (by omega), List.getElem?_eq_none (by simp; omega)]
 rw [← this]; exact hr
theorem intsOpen (h : DataW.trod enc Try.prog w base (fun _ => true) held fuel 24 cs = some x) : ∃ v l, cs = [v] ∧ Ints w (fun _ => True) v l ∧ l.length ≤ 9223372036854775807 := by
 obtain ⟨v, l, rfl, he, hl, _⟩ := eachOpen (R := fun u a => u = Value.int .i64 a) Try.underlying24 (by kernel_rfl) (fun n cl y hy => by
  obtain ⟨k, rfl, _, _⟩ := DataW.trod_int Try.underlying3 hy
  exact ⟨_, k, rfl, rfl⟩) h
 exact ⟨v, l, rfl, row_of_each he, hl⟩
theorem boolsOpen (h : DataW.trod enc Try.prog w base (fun _ => true) held fuel 28 cs = some x) : ∃ v l, cs = [v] ∧ Bools w (fun _ => True) v l ∧ l.length ≤ 9223372036854775807 := by
 obtain ⟨v, l, rfl, he, hl, _⟩ := eachOpen (R := fun u a => u = Value.bool a) Try.underlying28 (by kernel_rfl) (fun n cl y hy => by
  obtain ⟨k, rfl, _⟩ := DataW.trod_bool Try.underlying4 hy
  exact ⟨_, k, rfl, rfl⟩) h
 exact ⟨v, l, rfl, row_of_each he, hl⟩
theorem u8sOpen (h : DataW.trod enc Try.prog w base (fun _ => true) held fuel 45 cs = some x) : ∃ v l, cs = [v] ∧ U8s w (fun _ => True) v l ∧ l.length ≤ 9223372036854775807 := by
 obtain ⟨v, l, rfl, he, hl, hin⟩ := eachOpen (R := fun u (a : Int) => u = Value.int .u8 a ∧ 0 ≤ a ∧ a ≤ 255) Try.underlying45 (by kernel_rfl) (fun n cl y hy => by
  obtain ⟨k, rfl, _, hw⟩ := DataW.trod_int Try.underlying5 hy
  refine ⟨_, k, rfl, rfl, ?_⟩
  have this := hw
  simp only [Lit.wf, IntKind.has, Bool.and_eq_true, decide_eq_true_eq] at this
  have e1 : IntKind.u8.min = 0 := rfl
  have e2 : IntKind.u8.max = 255 := rfl
  omega) h
 obtain ⟨vs, hr, he2⟩ := he
 exact ⟨v, l, rfl, ⟨row_of_each ⟨vs, hr, fun i y hy => by
  obtain ⟨u, h1, h2, _⟩ := he2 i y hy
  exact ⟨u, h1, h2⟩⟩, fun a ha => by obtain ⟨u, h⟩ := hin a ha; exact h.2⟩, hl⟩
theorem intssOpen (h : DataW.trod enc Try.prog w base (fun _ => true) held fuel 22 cs = some x) : ∃ v l, cs = [v] ∧ Intss w (fun _ => True) v l ∧ l.length ≤ 9223372036854775807 ∧ ∀ a ∈ l, a.length ≤ 9223372036854775807 := by
 obtain ⟨v, l, rfl, he, hl, hin⟩ := eachOpen (R := fun u a => Ints w (fun _ => True) u a ∧ a.length ≤ 9223372036854775807) Try.underlying22 (by kernel_rfl) (fun n cl y hy => by
  obtain ⟨v, l, rfl, h1, h2⟩ := intsOpen hy
  exact ⟨v, l, rfl, h1, h2⟩) h
 obtain ⟨vs, hr, he2⟩ := he
 exact ⟨v, l, rfl, ⟨vs, hr, fun i y hy => by
  obtain ⟨u, h1, h2, _⟩ := he2 i y hy
  exact ⟨u, h1, h2⟩⟩, hl, fun a ha => by obtain ⟨u, h⟩ := hin a ha; exact h.2⟩
theorem intOpen (h : DataW.trod enc Try.prog w base (fun _ => true) held fuel 3 cs = some x) : ∃ n, cs = [.int .i64 n] ∧ -9223372036854775808 ≤ n ∧ n ≤ 9223372036854775807 := by
 obtain ⟨k, rfl, _, hw⟩ := DataW.trod_int Try.underlying3 h
 refine ⟨k, rfl, ?_⟩
 have this := hw
 simp only [Lit.wf, IntKind.has, Bool.and_eq_true, decide_eq_true_eq] at this
 have e1 : IntKind.i64.min = -9223372036854775808 := rfl
 have e2 : IntKind.i64.max = 9223372036854775807 := rfl
 omega
theorem fieldOpen {t : TypeId} {fs : Array Field} (ht : Try.prog.underlying t = some (.struct fs)) (h : DataW.trod enc Try.prog w base (fun _ => true) held fuel t cs = some x) :
  cs.length = Try.prog.cellsOf t ∧ ∀ (i ty off sz : Nat), (fs[i]?).map (fun f => (f.type, f.offset)) = some (ty, off) → Try.prog.cellsOf ty = sz → ∃ n y, DataW.trod enc Try.prog w base (fun _ => true) held n ty ((cs.drop off).take sz) = some y := by
 obtain ⟨xs, n, _, _, hl, hxs, hf⟩ := DataW.trod_struct ht h
 refine ⟨hl, fun i ty off sz hi hsz => ?_⟩
 obtain ⟨f, hi, he⟩ := Option.map_eq_some_iff.1 hi
 injection he with he1 he2
 have h1 := hf i f hi
 have h2 : i < fs.size := (Array.getElem?_eq_some_iff.1 hi).1
 rw [List.getElem?_eq_getElem (by omega), he1, he2, hsz] at h1
 exact ⟨n, _, h1⟩
theorem cellsT27 : Try.prog.cellsOf 27 = 1 := by kernel_rfl
theorem cellsT24 : Try.prog.cellsOf 24 = 1 := by kernel_rfl
theorem cellsT22 : Try.prog.cellsOf 22 = 1 := by kernel_rfl
theorem cellsT23 : Try.prog.cellsOf 23 = 3 := by kernel_rfl
theorem cellsT32 : Try.prog.cellsOf 32 = 2 := by kernel_rfl
theorem cellsT3 : Try.prog.cellsOf 3 = 1 := by kernel_rfl
theorem cellsT9 : Try.prog.cellsOf 9 = 1 := by kernel_rfl
theorem cellsT28 : Try.prog.cellsOf 28 = 1 := by kernel_rfl
theorem cellsT29 : Try.prog.cellsOf 29 = 1 := by kernel_rfl
theorem cellsT26 : Try.prog.cellsOf 26 = 5 := by kernel_rfl
theorem cellsT31 : Try.prog.cellsOf 31 = 6 := by kernel_rfl
theorem cellsT75 : Try.prog.cellsOf 75 = 3 := by kernel_rfl
theorem len5 {α : Type} {l : List α} (h : l.length = 5) : ∃ a b c d e, l = [a, b, c, d, e] := by
 match l, h with
 | [a, b, c, d, e], _ => exact ⟨a, b, c, d, e, rfl⟩
theorem agg_of {v : Value} {l : List Value} (h : v.cells.toList = l) (h2 : ∃ cs, v = .agg cs) : v = .agg l.toArray := by
 obtain ⟨cs, rfl⟩ := h2
 subst h
 rfl
theorem caseAgg {W : World} {b : Nat} {v : Value} (h : Value.okWide Try.prog W .any b 26 v) : ∃ cs, v = .agg cs := by
 unfold Value.okWide at h
 rw [Try.underlying26] at h
 obtain ⟨cs, h, _⟩ := h
 exact ⟨cs, h⟩
theorem mazeAgg {W : World} {b : Nat} {v : Value} (h : Value.okWide Try.prog W .any b 31 v) : ∃ cs, v = .agg cs := by
 unfold Value.okWide at h
 rw [Try.underlying31] at h
 obtain ⟨cs, h, _⟩ := h
 exact ⟨cs, h⟩
theorem bytesOpen {v : Value} {d : DataW H} {p : List MemPlace} {W : World} {b : Nat} (hv : Value.okWide Try.prog W .any b 45 v) (h : DataW.Trod enc Try.prog w base (fun _ => true) held 45 v d p) : ∃ l, U8s w (fun _ => True) v l ∧ l.length ≤ 9223372036854775807 := by
 obtain ⟨fuel, h⟩ := h
 obtain ⟨v', l, e, hu, hl⟩ := u8sOpen h
 refine ⟨l, ?_, hl⟩
 have hv2 : ∀ cs, v ≠ .agg cs := by
  rintro cs rfl
  unfold Value.okWide at hv
  rw [Try.underlying45] at hv
  simp [Cell.okWide, Cell.ok, Try.underlying45] at hv
 have : v.cells = #[v] := by
  cases v <;> first | rfl | exact absurd rfl (hv2 _)
 rw [this] at e
 injection e with e
 subst e; exact hu
theorem caseOpen {v : Value} {d : DataW H} {p : List MemPlace} (h : DataW.Trod enc Try.prog w base (fun _ => true) held 26 v d p) (hv : ∃ cs, v = .agg cs) :
  ∃ v0 o0 o1 o2 v4 ls ns, v = .agg #[v0, .int .i64 o0, .int .i64 o1, .int .i64 o2, v4] ∧ Intss w (fun _ => True) v0 ls ∧ ls.length ≤ 9223372036854775807 ∧ (∀ l ∈ ls, l.length ≤ 9223372036854775807) ∧
   Ints w (fun _ => True) v4 ns ∧ ns.length ≤ 9223372036854775807 ∧ (-9223372036854775808 ≤ o0 ∧ o0 ≤ 9223372036854775807) ∧ (-9223372036854775808 ≤ o1 ∧ o1 ≤ 9223372036854775807) ∧ (-9223372036854775808 ≤ o2 ∧ o2 ≤ 9223372036854775807) := by
 obtain ⟨fuel, h⟩ := h
 obtain ⟨hl, hf⟩ := fieldOpen Try.underlying26 h
 rw [cellsT26] at hl
 obtain ⟨c0, c1, c2, c3, c4, hc⟩ := len5 hl
 have hva := agg_of hc hv
 rw [hc] at hf
 obtain ⟨n0, y0, h0⟩ := hf 0 _ _ _ rfl cellsT22
 obtain ⟨n1, y1, h1⟩ := hf 1 _ _ _ rfl cellsT23
 obtain ⟨n2, y2, h2⟩ := hf 2 _ _ _ rfl cellsT24
 have h0 : DataW.trod enc Try.prog w base (fun _ => true) held n0 22 [c0] = some y0 := h0
 have h1 : DataW.trod enc Try.prog w base (fun _ => true) held n1 23 [c1, c2, c3] = some y1 := h1
 have h2 : DataW.trod enc Try.prog w base (fun _ => true) held n2 24 [c4] = some y2 := h2
 obtain ⟨v0, ls, e0, i0, i1, i2⟩ := intssOpen h0
 injection e0 with e0
 subst e0
 obtain ⟨v4, ns, e4, i3, i4⟩ := intsOpen h2
 injection e4 with e4
 subst e4
 obtain ⟨xs, m, _, _, hl1, hxl, hx⟩ := DataW.trod_array Try.underlying23 h1
 rw [cellsT3] at hx
 have a0 := hx 0 (by omega)
 have a1 := hx 1 (by omega)
 have a2 := hx 2 (by omega)
 rw [List.getElem?_eq_getElem (by omega)] at a0 a1 a2
 have a0 : DataW.trod enc Try.prog w base (fun _ => true) held m 3 [c1] = _ := a0
 have a1 : DataW.trod enc Try.prog w base (fun _ => true) held m 3 [c2] = _ := a1
 have a2 : DataW.trod enc Try.prog w base (fun _ => true) held m 3 [c3] = _ := a2
 obtain ⟨o0, e0, b0⟩ := intOpen a0
 obtain ⟨o1, e1, b1⟩ := intOpen a1
 obtain ⟨o2, e2, b2⟩ := intOpen a2
 injection e0 with e0
 injection e1 with e1
 injection e2 with e2
 subst e0 e1 e2
 exact ⟨_, o0, o1, o2, _, ls, ns, hva, i0, i1, i2, i3, i4, b0, b1, b2⟩
end
end Go.Proofs.Ytgpjfpcjiebjiaa
