/- Plain facts: neighbours are nodes; what can be reached; lists of different nodes are short. -/
import Derived.Test.YtgpjfpcjiebjiaaRtC
namespace Go.Proofs.Ytgpjfpcjiebjiaa
open Go.RowKit
set_option linter.unusedVariables false
set_option linter.unusedSimpArgs false

def MZ.n (m : MZ) : Int := m.w * m.h * m.l
theorem mem_ap {c : Bool} {x y : Int} {l : List Int} : y ∈ ap c x l ↔ y ∈ l ∨ (c = true ∧ y = x) := by
  unfold ap
  cases c <;> simp
theorem row_step {y w k : Int} (hw : 0 < w) (hk : y < w * k) (hr : y % w + 1 < w) : y + 1 < w * k := by
  have h1 := Int.emod_add_mul_ediv y w
  have h2 : y / w < k := by
    apply Int.ediv_lt_of_lt_mul hw
    rwa [Int.mul_comm] 
  have h3 : w * (y / w + 1) ≤ w * k := Int.mul_le_mul_of_nonneg_left (by omega) (by omega)
  rw [Int.mul_add, Int.mul_one] at h3
  omega
theorem layer_step {y w h l : Int} (hw : 0 < w) (hh : 0 < h) (hy : y < w * h * l) (hr : y / w % h + 1 < h) : y + w < w * h * l := by
  have hq : y / w < h * l := by
    apply Int.ediv_lt_of_lt_mul hw
    rw [Int.mul_comm, ← Int.mul_assoc]; exact hy
  have h1 := row_step hh hq hr
  have h2 := Int.emod_add_mul_ediv y w
  have h3 := Int.emod_lt_of_pos y hw
  have h4 : w * (y / w + 2) ≤ w * (h * l) := Int.mul_le_mul_of_nonneg_left (by omega) (by omega)
  rw [Int.mul_add, ← Int.mul_assoc] at h4
  omega
theorem nextL_range {m : MZ} (d : Dim m) {x y : Int} (h0 : 0 ≤ y) (h1 : y < m.n) (h : x ∈ nextL m y) : 0 ≤ x ∧ x < m.n := by
  unfold MZ.n at h1 ⊢
  obtain ⟨l1, l2⟩ := d.layer
  have hw := d.w1
  have hh := d.h1
  simp only [nextL, mem_ap, Bool.and_eq_true, decide_eq_true_eq, List.not_mem_nil, false_or] at h
  rcases h with ((((( ⟨⟨a, _⟩, rfl⟩) | ⟨a, rfl⟩) | ⟨a, rfl⟩) | ⟨a, rfl⟩) | ⟨a, rfl⟩) | ⟨⟨a, _⟩, rfl⟩
  · omega
  · have h2 : 1 ≤ y / m.w := by
      have : 0 ≤ y / m.w := Int.ediv_nonneg h0 (by omega)
      rcases Int.lt_or_le 0 (y / m.w) with h | h
      · omega
      · have : y / m.w = 0 := by omega
        rw [this] at a; simp at a
    have h3 := Int.emod_add_mul_ediv y m.w
    have h4 := Int.emod_nonneg y (show m.w ≠ 0 by omega)
    have h5 : m.w * 1 ≤ m.w * (y / m.w) := Int.mul_le_mul_of_nonneg_left h2 (by omega)
    omega
  · have : y ≠ 0 := by rintro rfl; simp at a
    omega
  · have := row_step (y := y) (w := m.w) (k := m.h * m.l) (by omega) (by rw [← Int.mul_assoc]; exact h1) a
    rw [← Int.mul_assoc] at this
    omega
  · have := layer_step (by omega) (by omega) h1 a
    omega
  · omega

/-- Free for a task. -/
def freeAt (m : MZ) (t : Nat) (x : Int) : Bool := (m.free.getD t []).getD x.toNat false
/-- What can be reached: in every set that holds the beginnings and is closed. -/
def RP (m : MZ) (t : Nat) (from_ used : List Int) (x : Int) : Prop :=
  ∀ S : Int → Prop, (∀ y ∈ from_, 0 ≤ y → y < m.n → S y) → (∀ y z, S y → z ∈ nextL m y → freeAt m t z = true → z ∉ used → S z) → S x
theorem RP.base {m : MZ} {t : Nat} {from_ used : List Int} {x : Int} (h : x ∈ from_) (h0 : 0 ≤ x) (h1 : x < m.n) : RP m t from_ used x := fun _ hb _ => hb x h h0 h1
theorem RP.step {m : MZ} {t : Nat} {from_ used : List Int} {y x : Int} (h : RP m t from_ used y) (hx : x ∈ nextL m y) (hf : freeAt m t x = true) (hu : x ∉ used) : RP m t from_ used x :=
  fun S hb hs => hs y x (h S hb hs) hx hf hu
theorem RP.range {m : MZ} (d : Dim m) {t : Nat} {from_ used : List Int} {x : Int} (h : RP m t from_ used x) : 0 ≤ x ∧ x < m.n :=
  h (fun x => 0 ≤ x ∧ x < m.n) (fun y _ h0 h1 => ⟨h0, h1⟩) (fun y z hy hz _ _ => nextL_range d hy.1 hy.2 hz)
theorem RP.congr {m : MZ} {t : Nat} {from_ from' used used' : List Int} (hf : ∀ x, x ∈ from_ ↔ x ∈ from') (hu : ∀ x, x ∈ used ↔ x ∈ used') {x : Int} (h : RP m t from_ used x) : RP m t from' used' x :=
  h _ (fun y hy h0 h1 => RP.base ((hf y).1 hy) h0 h1) (fun y z hy hz hz' hu' => hy.step hz hz' (fun h => hu' ((hu z).2 h)))

theorem nodup_nat : ∀ (n : Nat) (l : List Nat), l.Nodup → (∀ x ∈ l, x < n) → l.length ≤ n
  | 0, l, _, h => by
    cases l with
    | nil => simp
    | cons a l => exact absurd (h a (List.mem_cons_self ..)) (by omega)
  | n + 1, l, hd, h => by
    by_cases hm : n ∈ l
    · have h1 := nodup_nat n (l.erase n) (hd.erase n) (fun x hx => by
        have h2 := (hd.mem_erase_iff).1 hx
        have h3 := h x h2.2
        omega)
      rw [List.length_erase_of_mem hm] at h1
      omega
    · have h1 := nodup_nat n l hd (fun x hx => by
        have h3 := h x hx
        have : x ≠ n := by rintro rfl; exact hm hx
        omega)
      omega
theorem nodup_len {l : List Int} (hd : l.Nodup) (n : Int) (hr : ∀ x ∈ l, 0 ≤ x ∧ x < n) : l.length ≤ n.toNat := by
  have hd' : (l.map Int.toNat).Nodup := by
    rw [List.nodup_iff_pairwise_ne, List.pairwise_map]
    refine List.Pairwise.imp_of_mem ?_ (List.nodup_iff_pairwise_ne.1 hd)
    intro a b ha hb hab he
    have := hr a ha
    have := hr b hb
    omega
  have := nodup_nat n.toNat (l.map Int.toNat) hd' (fun x hx => by
    rw [List.mem_map] at hx
    obtain ⟨y, hy, rfl⟩ := hx
    have := hr y hy
    omega)
  simpa using this
end Go.Proofs.Ytgpjfpcjiebjiaa
