/- Plain: the examples of the chapter, computed. -/
import Derived.Test.YtgpjfpcjiebjiaaRtX
import Derived.Test.YtgpjfpcjiebjiaaRtEx
namespace Go.Proofs.Ytgpjfpcjiebjiaa
open Go.RowKit
set_option linter.unusedVariables false
set_option linter.unusedSimpArgs false

set_option maxRecDepth 100000
theorem ex_chk (a b : Int) (h : (a, b) ∈ [((6 : Int), (8 : Int)), (4, 8), (1, 7)]) : chk (exM a b) = 0 := by
  simp only [List.mem_cons, Prod.mk.injEq, List.not_mem_nil, or_false] at h
  rcases h with ⟨rfl, rfl⟩ | ⟨rfl, rfl⟩ | ⟨rfl, rfl⟩ <;> decide +kernel
theorem ex_next4 : nextO (exM 6 8) 4 = [1, 3, 5, 7] := by decide +kernel
theorem ex_next0 : nextO (exM 6 8) 0 = [1, 3] := by decide +kernel
theorem ex_c0 : candO (exM 6 8) [] = [0] := by decide +kernel
theorem ex_c1 : candO (exM 6 8) [0] = [1, 3] := by decide +kernel
theorem ex_c3 : candO (exM 6 8) [0, 1, 2] = [6] := by decide +kernel
theorem ex_reach : reachO (exM 6 8) 0 [0] [1] = [0, 2, 3, 5, 6, 7, 8] := by
  unfold reachO
  rw [if_pos (by decide +kernel), reachL_x (Good.of (ex_chk 6 8 (by simp))).dim]
  decide +kernel
theorem ex_run1 : RS.run (exM 6 8) 2 ⟨[], false, 0⟩ = ⟨[0, 1], false, 2⟩ := by
  rw [run_x (Good.of (ex_chk 6 8 (by simp))).dim]
  have h : (RS.runX (exM 6 8) 2 ⟨[], false, 0⟩).ch = [0, 1] ∧ (RS.runX (exM 6 8) 2 ⟨[], false, 0⟩).done = false ∧ (RS.runX (exM 6 8) 2 ⟨[], false, 0⟩).steps = 2 := by decide +kernel
  generalize RS.runX (exM 6 8) 2 ⟨[], false, 0⟩ = s at h
  obtain ⟨c, d, n⟩ := s
  obtain ⟨rfl, rfl, rfl⟩ := h
  rfl
theorem ex_run2 : RS.run (exM 6 8) 4 ⟨[0, 1], false, 2⟩ = ⟨[0, 1, 2, 6, 7, 8], true, 6⟩ := by
  rw [run_x (Good.of (ex_chk 6 8 (by simp))).dim]
  have h : (RS.runX (exM 6 8) 4 ⟨[0, 1], false, 2⟩).ch = [0, 1, 2, 6, 7, 8] ∧ (RS.runX (exM 6 8) 4 ⟨[0, 1], false, 2⟩).done = true ∧ (RS.runX (exM 6 8) 4 ⟨[0, 1], false, 2⟩).steps = 6 := by decide +kernel
  generalize RS.runX (exM 6 8) 4 ⟨[0, 1], false, 2⟩ = s at h
  obtain ⟨c, d, n⟩ := s
  obtain ⟨rfl, rfl, rfl⟩ := h
  rfl
theorem ex_run3 : RS.run (exM 4 8) 9 ⟨[], false, 0⟩ = ⟨[], true, 1⟩ := by
  rw [run_x (Good.of (ex_chk 4 8 (by simp))).dim]
  have h : (RS.runX (exM 4 8) 9 ⟨[], false, 0⟩).ch = [] ∧ (RS.runX (exM 4 8) 9 ⟨[], false, 0⟩).done = true ∧ (RS.runX (exM 4 8) 9 ⟨[], false, 0⟩).steps = 1 := by decide +kernel
  generalize RS.runX (exM 4 8) 9 ⟨[], false, 0⟩ = s at h
  obtain ⟨c, d, n⟩ := s
  obtain ⟨rfl, rfl, rfl⟩ := h
  rfl
theorem ex_run4 : RS.run (exM 1 7) 9 ⟨[], false, 0⟩ = ⟨[], true, 4⟩ := by
  rw [run_x (Good.of (ex_chk 1 7 (by simp))).dim]
  have h : (RS.runX (exM 1 7) 9 ⟨[], false, 0⟩).ch = [] ∧ (RS.runX (exM 1 7) 9 ⟨[], false, 0⟩).done = true ∧ (RS.runX (exM 1 7) 9 ⟨[], false, 0⟩).steps = 4 := by decide +kernel
  generalize RS.runX (exM 1 7) 9 ⟨[], false, 0⟩ = s at h
  obtain ⟨c, d, n⟩ := s
  obtain ⟨rfl, rfl, rfl⟩ := h
  rfl
theorem ex_found : foundL (exM 6 8) [0, 1, 2, 6, 7, 8] = [[0, 1, 2], [6, 7, 8]] := by decide +kernel
theorem ex_cmp : cmpC (exM 6 8) [0, 1, 2, 6, 7, 8] = true := by decide +kernel
theorem ex_ncmp (a b : Int) (h : (a, b) ∈ [((6 : Int), (8 : Int)), (4, 8), (1, 7)]) : cmpC (exM a b) [] = false := by
  simp only [List.mem_cons, Prod.mk.injEq, List.not_mem_nil, or_false] at h
  rcases h with ⟨rfl, rfl⟩ | ⟨rfl, rfl⟩ | ⟨rfl, rfl⟩ <;> decide +kernel
theorem ex_load (a b : Int) (h : (a, b) ∈ [((6 : Int), (8 : Int)), (4, 8), (1, 7)]) : loadE (exM a b) [] 0 = 0 ∧ loadS (exM a b) [] 0 = ⟨[], false, 0⟩ := by
  have h1 := ex_chk a b h
  have h2 := ex_ncmp a b h
  constructor
  · unfold loadE
    rw [h1, if_neg (by simp), if_neg (by decide)]
    rfl
  · unfold loadS
    rw [h2]
    rfl
theorem ex_lens (a b : Int) : Lens (exM a b) := ⟨by simp [exM], by simp [exM], by simp [exM], fun t ht => by
  simp only [exM, List.mem_cons, List.not_mem_nil, or_false] at ht
  rcases ht with rfl | rfl <;> simp⟩
end Go.Proofs.Ytgpjfpcjiebjiaa
