/- Plain: what can be reached, and the router, computed. -/
import Derived.Test.YtgpjfpcjiebjiaaRtP
import Derived.KernelRfl
namespace Go.Proofs.Ytgpjfpcjiebjiaa
open Go.RowKit
set_option linter.unusedVariables false
set_option linter.unusedSimpArgs false

/-- One node more, if it is new. -/
def addIf (m : MZ) (t : Nat) (us acc : List Int) (z : Int) : List Int := if (freeAt m t z && !decide (z ∈ us) && !decide (z ∈ acc)) = true then acc ++ [z] else acc
/-- One layer more. -/
def grow (m : MZ) (t : Nat) (us S : List Int) : List Int := (S.flatMap (nextL m)).foldl (addIf m t us) S
def growN (m : MZ) (t : Nat) (us : List Int) : Nat → List Int → List Int
  | 0, S => S
  | k + 1, S => growN m t us k (grow m t us S)
/-- Where the search begins. -/
def start (m : MZ) (f : List Int) : List Int := f.foldl (fun acc x => if (decide (0 ≤ x) && decide (x < m.n) && !decide (x ∈ acc)) = true then acc ++ [x] else acc) []
def reachX (m : MZ) (t : Nat) (f us : List Int) : List Int := growN m t us (m.n.toNat + 1) (start m f)

section
variable {m : MZ} {t : Nat} {us f : List Int}
/-- What the search's list keeps. -/
structure GK (m : MZ) (t : Nat) (f us S : List Int) : Prop where
  nd : S.Nodup
  rg : ∀ x ∈ S, 0 ≤ x ∧ x < m.n
  rp : ∀ x ∈ S, RP m t f us x
theorem addIf_sub (acc : List Int) (z : Int) : ∀ x ∈ acc, x ∈ addIf m t us acc z := by
  intro x hx
  unfold addIf
  split
  · exact List.mem_append_left _ hx
  · exact hx
theorem addIf_len (acc : List Int) (z : Int) : acc.length ≤ (addIf m t us acc z).length := by
  unfold addIf
  split <;> simp
theorem addIf_gk {acc : List Int} {z : Int} (h : GK m t f us acc) (h0 : 0 ≤ z ∧ z < m.n) (h1 : freeAt m t z = true → z ∉ us → RP m t f us z) : GK m t f us (addIf m t us acc z) := by
  unfold addIf
  split
  · rename_i hc
    simp only [Bool.and_eq_true, Bool.not_eq_true', decide_eq_false_iff_not] at hc
    refine ⟨?_, fun x hx => ?_, fun x hx => ?_⟩
    · rw [List.nodup_append]
      refine ⟨h.nd, by simp, fun a ha b hb => ?_⟩
      rw [List.mem_singleton] at hb
      rintro rfl
      subst hb
      exact hc.2 ha
    · rcases List.mem_append.1 hx with hx | hx
      · exact h.rg x hx
      · rw [List.mem_singleton] at hx; subst hx; exact h0
    · rcases List.mem_append.1 hx with hx | hx
      · exact h.rp x hx
      · rw [List.mem_singleton] at hx; subst hx; exact h1 hc.1.1 hc.1.2
  · exact h
theorem fold_sub : ∀ (l acc : List Int), ∀ x ∈ acc, x ∈ l.foldl (addIf m t us) acc
  | [], acc, x, hx => hx
  | z :: l, acc, x, hx => fold_sub l (addIf m t us acc z) x (addIf_sub acc z x hx)
theorem fold_len : ∀ (l acc : List Int), acc.length ≤ (l.foldl (addIf m t us) acc).length
  | [], acc => Nat.le_refl _
  | z :: l, acc => Nat.le_trans (addIf_len acc z) (fold_len l _)
theorem fold_gk : ∀ (l acc : List Int), GK m t f us acc → (∀ z ∈ l, (0 ≤ z ∧ z < m.n) ∧ (freeAt m t z = true → z ∉ us → RP m t f us z)) → GK m t f us (l.foldl (addIf m t us) acc)
  | [], acc, h, _ => h
  | z :: l, acc, h, hl => fold_gk l _ (addIf_gk h (hl z (List.mem_cons_self ..)).1 (hl z (List.mem_cons_self ..)).2) (fun x hx => hl x (List.mem_cons_of_mem _ hx))
theorem fold_mem : ∀ (l acc : List Int) (z : Int), z ∈ l → freeAt m t z = true → z ∉ us → z ∈ l.foldl (addIf m t us) acc
  | y :: l, acc, z, hz, h1, h2 => by
    rcases List.mem_cons.1 hz with rfl | hz
    · refine fold_sub l _ z ?_
      unfold addIf
      by_cases hm : z ∈ acc
      · split
        · exact List.mem_append_left _ hm
        · exact hm
      · rw [if_pos (by simp [h1, h2, hm])]
        simp
    · exact fold_mem l _ z hz h1 h2
theorem grow_gk (d : Dim m) {S : List Int} (h : GK m t f us S) : GK m t f us (grow m t us S) := by
  refine fold_gk _ _ h fun z hz => ?_
  obtain ⟨y, hy, hzy⟩ := List.mem_flatMap.1 hz
  have hyr := h.rg y hy
  exact ⟨nextL_range d hyr.1 hyr.2 hzy, fun h1 h2 => (h.rp y hy).step hzy h1 h2⟩
/-- Nothing is missing. -/
def Closed (m : MZ) (t : Nat) (us S : List Int) : Prop := ∀ y ∈ S, ∀ z ∈ nextL m y, freeAt m t z = true → z ∉ us → z ∈ S
theorem addIf_eq {acc : List Int} {z : Int} (h : freeAt m t z = true → z ∉ us → z ∈ acc) : addIf m t us acc z = acc := by
  unfold addIf
  rw [if_neg]
  intro hc
  simp only [Bool.and_eq_true, Bool.not_eq_true', decide_eq_false_iff_not] at hc
  exact hc.2 (h hc.1.1 hc.1.2)
theorem fold_eq : ∀ (l acc : List Int), (∀ z ∈ l, freeAt m t z = true → z ∉ us → z ∈ acc) → l.foldl (addIf m t us) acc = acc
  | [], acc, _ => rfl
  | z :: l, acc, h => by
    rw [List.foldl_cons, addIf_eq (h z (List.mem_cons_self ..))]
    exact fold_eq l acc (fun x hx => h x (List.mem_cons_of_mem _ hx))
theorem grow_closed {S : List Int} (h : Closed m t us S) : grow m t us S = S :=
  fold_eq _ _ fun z hz => by
    obtain ⟨y, hy, hzy⟩ := List.mem_flatMap.1 hz
    exact h y hy z hzy
theorem fold_more : ∀ (l acc : List Int), (∃ z ∈ l, freeAt m t z = true ∧ z ∉ us ∧ z ∉ acc) → acc.length < (l.foldl (addIf m t us) acc).length
  | z :: l, acc, ⟨x, hx, h1, h2, h3⟩ => by
    rw [List.foldl_cons]
    rcases List.mem_cons.1 hx with rfl | hx
    · have : (addIf m t us acc x).length = acc.length + 1 := by
        unfold addIf
        rw [if_pos (by simp [h1, h2, h3])]
        simp
      have := fold_len (m := m) (t := t) (us := us) l (addIf m t us acc x)
      omega
    · by_cases hxz : x ∈ addIf m t us acc z
      · have h4 : acc.length < (addIf m t us acc z).length := by
          unfold addIf at hxz ⊢
          split
          · simp
          · rename_i hc; rw [if_neg hc] at hxz; exact absurd hxz h3
        exact Nat.lt_of_lt_of_le h4 (fold_len l _)
      · exact Nat.lt_of_le_of_lt (addIf_len acc z) (fold_more l _ ⟨x, hx, h1, h2, hxz⟩)
theorem growN_gk (d : Dim m) : ∀ (k : Nat) {S : List Int}, GK m t f us S → GK m t f us (growN m t us k S)
  | 0, S, h => h
  | k + 1, S, h => growN_gk d k (grow_gk d h)
theorem growN_sub : ∀ (k : Nat) (S : List Int), ∀ x ∈ S, x ∈ growN m t us k S
  | 0, S, x, hx => hx
  | k + 1, S, x, hx => growN_sub k _ x (fold_sub _ _ x hx)
theorem growN_closed {S : List Int} (h : Closed m t us S) : ∀ k, growN m t us k S = S
  | 0 => rfl
  | k + 1 => by unfold growN; rw [grow_closed h]; exact growN_closed h k
theorem growN_or : ∀ (k : Nat) (S : List Int), Closed m t us (growN m t us k S) ∨ S.length + k ≤ (growN m t us k S).length
  | 0, S => .inr (Nat.le_refl _)
  | k + 1, S => by
    by_cases h : Closed m t us S
    · left
      rw [growN_closed h]; exact h
    · have h1 : S.length < (grow m t us S).length := by
        refine fold_more _ _ ?_
        unfold Closed at h
        simp only [Classical.not_forall] at h
        obtain ⟨y, hy, z, hz, h1, h2, h3⟩ := h
        exact ⟨z, List.mem_flatMap.2 ⟨y, hy, hz⟩, h1, h2, h3⟩
      rcases growN_or k (grow m t us S) with h2 | h2
      · exact .inl h2
      · right
        unfold growN
        omega
theorem start_gk (m : MZ) (t : Nat) (us f : List Int) : GK m t f us (start m f) ∧ ∀ x ∈ f, 0 ≤ x → x < m.n → x ∈ start m f := by
  have key : ∀ (l acc : List Int), (∀ x ∈ l, x ∈ f) → GK m t f us acc → GK m t f us (l.foldl (fun acc x => if (decide (0 ≤ x) && decide (x < m.n) && !decide (x ∈ acc)) = true then acc ++ [x] else acc) acc) ∧
      (∀ x ∈ acc, x ∈ l.foldl (fun acc x => if (decide (0 ≤ x) && decide (x < m.n) && !decide (x ∈ acc)) = true then acc ++ [x] else acc) acc) ∧ ∀ x ∈ l, 0 ≤ x → x < m.n → x ∈ l.foldl (fun acc x => if (decide (0 ≤ x) && decide (x < m.n) && !decide (x ∈ acc)) = true then acc ++ [x] else acc) acc := by
    intro l
    induction l with
    | nil => intro acc _ h; exact ⟨h, fun x hx => hx, fun x hx => by cases hx⟩
    | cons z l ih =>
      intro acc hl h
      rw [List.foldl_cons]
      by_cases hc : (decide (0 ≤ z) && decide (z < m.n) && !decide (z ∈ acc)) = true
      · rw [if_pos hc]
        simp only [Bool.and_eq_true, Bool.not_eq_true', decide_eq_false_iff_not, decide_eq_true_eq] at hc
        obtain ⟨h1, h2, h3⟩ := ih (acc ++ [z]) (fun x hx => hl x (List.mem_cons_of_mem _ hx)) ⟨by
          rw [List.nodup_append]
          refine ⟨h.nd, by simp, fun a ha b hb => ?_⟩
          rw [List.mem_singleton] at hb
          rintro rfl
          subst hb
          exact hc.2 ha, fun x hx => by
          rcases List.mem_append.1 hx with hx | hx
          · exact h.rg x hx
          · rw [List.mem_singleton] at hx; subst hx; exact hc.1, fun x hx => by
          rcases List.mem_append.1 hx with hx | hx
          · exact h.rp x hx
          · rw [List.mem_singleton] at hx; subst hx; exact RP.base (hl x (List.mem_cons_self ..)) hc.1.1 hc.1.2⟩
        refine ⟨h1, fun x hx => h2 x (List.mem_append_left _ hx), fun x hx a b => ?_⟩
        rcases List.mem_cons.1 hx with rfl | hx
        · exact h2 x (by simp)
        · exact h3 x hx a b
      · rw [if_neg hc]
        obtain ⟨h1, h2, h3⟩ := ih acc (fun x hx => hl x (List.mem_cons_of_mem _ hx)) h
        refine ⟨h1, h2, fun x hx a b => ?_⟩
        rcases List.mem_cons.1 hx with rfl | hx
        · refine h2 x ?_
          simp only [Bool.and_eq_true, Bool.not_eq_true', decide_eq_false_iff_not, decide_eq_true_eq] at hc
          by_cases hm : x ∈ acc
          · exact hm
          · exact absurd ⟨⟨a, b⟩, hm⟩ hc
        · exact h3 x hx a b
  have h := key f [] (fun _ h => h) ⟨List.nodup_nil, fun x hx => absurd hx List.not_mem_nil, fun x hx => absurd hx List.not_mem_nil⟩
  exact ⟨h.1, h.2.2⟩
/-- The computed list is what can be reached. -/
theorem mem_reachX (d : Dim m) (x : Int) : x ∈ reachX m t f us ↔ RP m t f us x := by
  have hs := start_gk m t us f
  have hg := growN_gk (t := t) (f := f) (us := us) d (m.n.toNat + 1) hs.1
  have hc : Closed m t us (reachX m t f us) := by
    rcases growN_or (m := m) (t := t) (us := us) (m.n.toNat + 1) (start m f) with h | h
    · exact h
    · have := nodup_len hg.nd m.n hg.rg
      omega
  constructor
  · exact fun h => hg.rp x h
  · intro h
    exact h (fun x => x ∈ reachX m t f us) (fun y hy h0 h1 => growN_sub _ _ y (hs.2 y hy h0 h1)) (fun y z hy hz h1 h2 => hc y hy z hz h1 h2)
end
theorem reachL_x {m : MZ} (d : Dim m) (t : Nat) (f us : List Int) : reachL m t f us = ((List.range m.n.toNat).map Int.ofNat).filter fun x => decide (x ∈ reachX m t f us) := by
  rw [reachL_of (fun x => mem_reachX d x)]

/-! ### The router, computed -/
def openTX (m : MZ) (ps : List (List Int)) (us : List Int) (t : Nat) : Bool := ((m.tasks.getD t ([], [])).2).any fun x => decide (x ∈ reachX m t (fromL m ps us t) us)
def openX (m : MZ) (ch : List Int) : Bool := (List.range (tasksN m (psOf m ch))).all fun k => openTX m (psOf m ch) ch ((psOf m ch).length - 1 + k)
theorem openC_x {m : MZ} (d : Dim m) (ch : List Int) : openC m ch = openX m ch := by
  unfold openC openX openB
  congr 1
  funext k
  unfold openT openTX
  congr 1
  funext x
  rw [decide_eq_decide, mem_reachL d, mem_reachX d]
def aftX (m : MZ) (ch : List Int) (last : Int) : Option Int := (cand m ch).find? fun n => decide (last < n) && openX m (ch ++ [n])
theorem aft_x {m : MZ} (d : Dim m) (ch : List Int) (last : Int) : aft m ch last = aftX m ch last := by
  unfold aft aftX
  congr 1
  funext n
  rw [openC_x d]
def backX (m : MZ) (ch : List Int) : Nat → Option (List Int)
  | 0 => none
  | k + 1 => match aftX m (ch.take k) (ch.getD k 0) with
    | some n => some (ch.take k ++ [n])
    | none => backX m ch k
theorem back_x {m : MZ} (d : Dim m) (ch : List Int) : ∀ k, backN m ch k = backX m ch k
  | 0 => rfl
  | k + 1 => by
    unfold backN backX
    rw [aft_x d, back_x d ch k]
    rfl
def stepX (m : MZ) (ch : List Int) : Option (List Int) :=
  match aftX m ch (-1) with
  | some n => some (ch ++ [n])
  | none => backX m ch ch.length
theorem step_x {m : MZ} (d : Dim m) (ch : List Int) : stepC m ch = stepX m ch := by
  unfold stepC stepX
  rw [aft_x d, back_x d]
  rfl
def RS.oneX (m : MZ) (s : RS) : RS := match stepX m s.ch with
  | some c => ⟨c, cmpC m c, s.steps + 1⟩
  | none => ⟨[], true, s.steps + 1⟩
def RS.runX (m : MZ) : Nat → RS → RS
  | 0, s => s
  | n + 1, s => if s.done = true then s else RS.runX m n (s.oneX m)
theorem run_x {m : MZ} (d : Dim m) : ∀ (n : Nat) (s : RS), RS.run m n s = RS.runX m n s
  | 0, s => rfl
  | n + 1, s => by
    unfold RS.run RS.runX
    rw [run_x d n]
    unfold RS.one RS.oneX
    rw [step_x d]
    rfl
end Go.Proofs.Ytgpjfpcjiebjiaa
