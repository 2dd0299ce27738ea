/- Plain: neighbours are neighbours of each other, in increasing order; what is reached is led to. -/
import Derived.Test.YtgpjfpcjiebjiaaRtX
namespace Go.Proofs.Ytgpjfpcjiebjiaa
open Go.RowKit
set_option linter.unusedVariables false
set_option linter.unusedSimpArgs false

theorem emod_pred {a m : Int} (hm : 0 < m) (h : 0 < a % m) : (a - 1) % m = a % m - 1 := by
  have h1 := Int.emod_add_mul_ediv a m
  have h2 := Int.emod_lt_of_pos a hm
  have h3 : a - 1 = (a % m - 1) + m * (a / m) := by omega
  rw [h3, Int.add_mul_emod_self_left, Int.emod_eq_of_lt (by omega) (by omega)]
theorem emod_succ {a m : Int} (hm : 0 < m) (h : a % m + 1 < m) : (a + 1) % m = a % m + 1 := by
  have h1 := Int.emod_add_mul_ediv a m
  have h2 := Int.emod_nonneg a (show m ≠ 0 by omega)
  have h3 : a + 1 = (a % m + 1) + m * (a / m) := by omega
  rw [h3, Int.add_mul_emod_self_left, Int.emod_eq_of_lt (by omega) (by omega)]
theorem ediv_pred {a m : Int} (hm : 0 < m) : (a - m) / m = a / m - 1 := by
  have h : a - m = a + (-1) * m := by omega
  rw [h, Int.add_mul_ediv_right _ _ (by omega)]
  omega
theorem ediv_succ {a m : Int} (hm : 0 < m) : (a + m) / m = a / m + 1 := by
  have h : a + m = a + 1 * m := by omega
  rw [h, Int.add_mul_ediv_right _ _ (by omega)]

theorem nextL_symm {m : MZ} (d : Dim m) {k x : Int} (h0 : 0 ≤ k) (h1 : k < m.n) (h : x ∈ nextL m k) : k ∈ nextL m x := by
  have hw := d.w1
  have hh := d.h1
  obtain ⟨l1, l2⟩ := d.layer
  unfold MZ.n at h1
  simp only [nextL, mem_ap, Bool.and_eq_true, decide_eq_true_eq, List.not_mem_nil, false_or] at h ⊢
  rcases h with ((((( ⟨⟨a, b⟩, rfl⟩) | ⟨a, rfl⟩) | ⟨a, rfl⟩) | ⟨a, rfl⟩) | ⟨a, rfl⟩) | ⟨⟨a, b⟩, rfl⟩
  · refine .inr ⟨⟨by omega, b⟩, by omega⟩
  · refine .inl (.inr ⟨?_, by omega⟩)
    rw [ediv_pred (by omega), emod_pred (by omega) a]
    have := Int.emod_lt_of_pos (k / m.w) (show 0 < m.h by omega)
    omega
  · refine .inl (.inl (.inr ⟨?_, by omega⟩))
    rw [emod_pred (by omega) a]
    have := Int.emod_lt_of_pos k (show 0 < m.w by omega)
    omega
  · refine .inl (.inl (.inl (.inr ⟨?_, by omega⟩)))
    rw [emod_succ (by omega) a]
    have := Int.emod_nonneg k (show m.w ≠ 0 by omega)
    omega
  · refine .inl (.inl (.inl (.inl (.inr ⟨?_, by omega⟩))))
    rw [ediv_succ (by omega), emod_succ (by omega) a]
    have := Int.emod_nonneg (k / m.w) (show m.h ≠ 0 by omega)
    omega
  · refine .inl (.inl (.inl (.inl (.inl ⟨⟨by omega, ?_⟩, by omega⟩))))
    rw [show k + m.w * m.h - m.w * m.h = k from by omega]
    exact b
theorem ap_pw {c : Bool} {x : Int} {l : List Int} (h : l.Pairwise (· < ·)) (hx : c = true → ∀ y ∈ l, y < x) : (ap c x l).Pairwise (· < ·) := by
  unfold ap
  cases c
  · simpa using h
  · simp only [if_pos]
    rw [List.pairwise_append]
    refine ⟨h, by simp, fun a ha b hb => ?_⟩
    rw [List.mem_singleton] at hb
    subst hb
    exact hx rfl a ha
theorem nextL_pw {m : MZ} (d : Dim m) (k : Int) : (nextL m k).Pairwise (· < ·) := by
  have hw := d.w1
  have hh := d.h1
  have hW : m.w ≤ m.w * m.h := by
    have := Int.mul_le_mul_of_nonneg_left hh (show 0 ≤ m.w by omega)
    omega
  have h2 : ∀ {j : Int}, 0 < j % m.h → m.w < m.w * m.h := by
    intro j hj
    have h3 := Int.emod_lt_of_pos j (show 0 < m.h by omega)
    have := Int.mul_le_mul_of_nonneg_left (show 2 ≤ m.h by omega) (show 0 ≤ m.w by omega)
    omega
  have h2' : ∀ {j : Int}, j % m.h + 1 < m.h → m.w < m.w * m.h := by
    intro j hj
    have h3 := Int.emod_nonneg j (show m.h ≠ 0 by omega)
    have := Int.mul_le_mul_of_nonneg_left (show 2 ≤ m.h by omega) (show 0 ≤ m.w by omega)
    omega
  unfold nextL
  refine ap_pw (ap_pw (ap_pw (ap_pw (ap_pw (ap_pw List.Pairwise.nil ?_) ?_) ?_) ?_) ?_) ?_
  · intro _ y hy; cases hy
  · intro hc y hy
    simp only [mem_ap, Bool.and_eq_true, decide_eq_true_eq, List.not_mem_nil, false_or] at hc hy
    have := h2 hc
    omega
  · intro hc y hy
    simp only [mem_ap, Bool.and_eq_true, decide_eq_true_eq, List.not_mem_nil, false_or] at hc hy
    have h4 := Int.emod_lt_of_pos k (show 0 < m.w by omega)
    rcases hy with hy | hy <;> omega
  · intro hc y hy
    simp only [mem_ap, Bool.and_eq_true, decide_eq_true_eq, List.not_mem_nil, false_or] at hc hy
    rcases hy with (hy | hy) | hy <;> omega
  · intro hc y hy
    simp only [mem_ap, Bool.and_eq_true, decide_eq_true_eq, List.not_mem_nil, false_or] at hc hy
    have h5 := Int.emod_nonneg k (show m.w ≠ 0 by omega)
    rcases hy with ((hy | hy) | hy) | hy <;> omega
  · intro hc y hy
    simp only [mem_ap, Bool.and_eq_true, decide_eq_true_eq, List.not_mem_nil, false_or] at hc hy
    have h5 := Int.emod_nonneg k (show m.w ≠ 0 by omega)
    rcases hy with (((hy | hy) | hy) | hy) | hy
    · omega
    · omega
    · omega
    · omega
    · have := h2' hy.1
      omega
theorem pw_step {l : List Int} (h : l.Pairwise (· < ·)) {i : Nat} (hi : 0 < i) (hl : i < l.length) : l[i - 1] < l[i] := by
  rw [List.pairwise_iff_getElem] at h
  exact h (i - 1) i (by omega) hl (by omega)
theorem reachL_pw (m : MZ) (t : Nat) (f us : List Int) : (reachL m t f us).Pairwise (· < ·) := by
  unfold reachL
  apply List.Pairwise.filter
  rw [List.pairwise_map]
  exact List.Pairwise.imp (fun h => by simpa using h) List.pairwise_lt_range
/-- What is reached is a beginning, or led to, and then free and not used. -/
theorem RP.led {m : MZ} (d : Dim m) {t : Nat} {f us : List Int} {x : Int} (h : RP m t f us x) : x ∈ f ∨ (freeAt m t x = true ∧ x ∉ us ∧ ∃ y ∈ nextL m x, RP m t f us y) := by
  have := h (fun x => RP m t f us x ∧ (x ∈ f ∨ (freeAt m t x = true ∧ x ∉ us ∧ ∃ y ∈ nextL m x, RP m t f us y))) (fun y hy h0 h1 => ⟨RP.base hy h0 h1, .inl hy⟩) (fun y z hy hz h1 h2 => by
    have hr := hy.1.range d
    exact ⟨hy.1.step hz h1 h2, .inr ⟨h1, h2, y, nextL_symm d hr.1 hr.2 hz, hy.1⟩⟩)
  exact this.2
theorem good_chk {m : MZ} (g : Good m) : chk m = 0 := by
  have d := g.dim
  have hs : [m.w, m.h, m.l].any side = false := by
    have h1 := d.w1; have h2 := d.w2; have h3 := d.h1; have h4 := d.h2; have h5 := d.l1; have h6 := d.l2
    simp [side]
    omega
  unfold chk
  rw [hs, if_neg (by simp), if_neg (by have := d.n1; have := g.tk; unfold MZ.n; omega), if_neg, if_neg]
  · intro h
    obtain ⟨t, ht, h1⟩ := List.any_eq_true.1 h
    rw [Bool.or_eq_true] at h1
    rcases h1 with h1 | h1
    · obtain ⟨x, hx, h2⟩ := List.any_eq_true.1 h1
      have := g.tn t ht x (.inl hx)
      simp [beyond] at h2
      omega
    · obtain ⟨x, hx, h2⟩ := List.any_eq_true.1 h1
      have := g.tn t ht x (.inr hx)
      simp [beyond] at h2
      omega
  · intro h
    rcases h with h | h | h
    · exact h g.fl
    · exact h d.up
    · obtain ⟨f, hf, h2⟩ := List.any_eq_true.1 h
      have := g.fn f hf
      simp at h2
      exact h2 this
theorem mazeFree {W : World} {ok : Nat → Prop} {m : MZ} {vfr vup vts : Value} (h : MazeV W ok (.agg #[.int .i64 m.w, .int .i64 m.h, .int .i64 m.l, vfr, vup, vts]) m) (hfn : ∀ f ∈ m.free, (f.length : Int) = m.n) {t : Nat} (ht : t < m.free.length) {n : Int} (h0 : 0 ≤ n) (h1 : n < m.n) :
    ∃ b off c b' off' l c', vfr = .slice (some ⟨b, off, none⟩) m.free.length c ∧ W.cell? ⟨b, off + t, none⟩ = some (.slice (some ⟨b', off', none⟩) l c') ∧ n < (l : Int) ∧ l ≤ c' ∧ m.free.length ≤ c ∧ W.cell? ⟨b', off' + n.toNat, none⟩ = some (.bool (freeAt m t n)) := by
  obtain ⟨fr', up', ts', he, hfr, _, _⟩ := h
  injection he with he
  injection he with he
  simp only [List.cons.injEq, and_true, true_and] at he
  obtain ⟨rfl, rfl, rfl⟩ := he
  obtain ⟨vsf, ⟨Af, cf, rfl, hcf, hrf⟩, hef⟩ := hfr
  obtain ⟨bf, off3, uf, rfl, _, hcf1, hbf⟩ := eachAt hrf hef ht ht
  have hflen := hfn _ (List.getElem_mem ht)
  obtain ⟨A4, c4, rfl, hc4, hr4⟩ := hbf
  have hyl : n.toNat < (m.free[t]).length := by omega
  obtain ⟨b4, off4, rfl, _, hcf2⟩ := boolsAt hr4 hyl hyl
  have hfr : (m.free[t])[n.toNat] = freeAt m t n := by simp [freeAt, ht, hyl]
  rw [hfr] at hcf2
  exact ⟨bf, off3, cf, b4, off4, _, c4, rfl, hcf1, by omega, hc4, hcf, hcf2⟩
end Go.Proofs.Ytgpjfpcjiebjiaa
