/- A range over a set that is kept as a map: the iterator's step, wherever its block lies. -/
import Derived.Test.YtgpjfpcjiebjiaaRtMap
import Derived.Laws.IdiomRangeMap
namespace Go.Proofs.Ytgpjfpcjiebjiaa
open Go.RowKit
open Go.ChangeMaps (setBlock)
set_option linter.unusedVariables false
set_option linter.unusedSimpArgs false

/-- The iterator at r over the map at g, the entries of the stamps seen having come. -/
def IterIs (w : World) (r g since : Nat) (seen : Array Nat) (c0 : Nat) : Prop := w.heap[r]? = some (.mapIter (some g) since seen c0)

theorem run_next_at {P : Program} (w : World) (ty : TypeId) (bm r since c0 : Nat) (seen : Array Nat) (es : Array MapEntry) (clock : Nat) (hr : IterIs w r bm since seen c0) (hb : w.heap[bm]? = some (.map es clock)) (hold : ∀ x ∈ es.toList, x.born < since) (hsc : since ≤ c0) :
    ((leftOf es seen).size = 0 ∧ (Instr.next (.pointer (some ⟨r, 0, none⟩)) false ty).run P w = .ok (.tuple #[.bool false]) w) ∨
    ∃ e ∈ (leftOf es seen).toList, ∃ w1 : World, (w1 = w ∨ w1 = w.drew) ∧ (Instr.next (.pointer (some ⟨r, 0, none⟩)) false ty).run P w = .ok (.tuple #[.bool true, e.key, e.val]) (setBlock w1 r (.mapIter (some bm) since (seen.push e.born) clock)) := by
  unfold IterIs at hr
  simp only [Instr.next, getObj, Sem.run_bind, Sem.run, hr, hb, Result.andThen, next_test_false seen es since c0 hold hsc, Bool.false_eq_true, if_false]
  unfold leftOf
  have hmem : ∀ x ∈ (Array.filter (fun e => !seen.contains e.born) es).toList, x.born < since := fun x hx => hold x (by simp at hx ⊢; exact hx.1)
  generalize Array.filter (fun e => !seen.contains e.born) es = L at hmem ⊢
  have e1 : L.filter (fun x => decide (x.born < since)) = L := Array.filter_eq_self.2 (fun x hx => by simpa using hmem x (by simpa using hx))
  have e2 : L.filter (fun x => decide (x.born ≥ since)) = #[] := by
    rw [Array.filter_eq_empty_iff]
    intro x hx
    have := hmem x (by simpa using hx)
    simp
    omega
  simp only [e1, e2, Array.append_empty]
  by_cases h0 : L.size = 0
  · left
    have : L = #[] := Array.eq_empty_of_size_eq_zero h0
    subst this
    refine ⟨rfl, ?_⟩
    simp [choose, Sem.run, Question.forced]
  · right
    have hne : L.isEmpty = false := by simp [Array.isEmpty, h0]
    simp only [hne, Bool.false_eq_true, if_false, Array.empty_append, Array.size_map]
    have hch : ∃ (j : Nat) (w1 : World), j < L.size ∧ (w1 = w ∨ w1 = w.drew) ∧ (choose (Question.mapNext L.size)).run P w = .ok j w1 := by
      by_cases hf : L.size ≤ 1
      · exact ⟨0, w, by omega, .inl rfl, by simp [choose, Sem.run, Question.forced, hf]⟩
      · exact ⟨_, w.drew, Nat.mod_lt _ (by omega), .inr rfl, by
          simp only [choose, Sem.run, Question.forced, decide_eq_true_eq, hf, if_false, Question.cut]
          rfl⟩
    obtain ⟨j, w1, hj, hal, hrun⟩ := hch
    refine ⟨L[j], by simp, w1, hal, ?_⟩
    have hr1 : w1.heap[r]? = some (.mapIter (some bm) since seen c0) := by
      rcases hal with rfl | rfl <;> exact hr
    have hset : ∀ (o' : Obj), (setObj r o').run P w1 = .ok () (setBlock w1 r o') := fun o' => by
      simp only [setObj, Sem.run, hr1]
      rfl
    simp only [hrun, Array.getElem?_map, Array.getElem?_eq_getElem hj, Option.map_some, Sem.run_bind, hset, Result.andThen]
    rfl
theorem run_entry_at {P : Program} (w : World) (bm r since : Nat) (seen : Array Nat) (es : Array MapEntry) (clock : Nat) (e : MapEntry) (hr : w.heap[r]? = some (.mapIter (some bm) since (seen.push e.born) clock)) (hb : w.heap[bm]? = some (.map es clock)) (he : e ∈ es.toList) (hn : (es.toList.map (·.born)).Nodup) :
    (Instr.entry (.pointer (some ⟨r, 0, none⟩))).run P w = .ok (.tuple #[e.key, e.val]) w := by
  have hf : es.find? (·.born == e.born) = some e := by rw [← Array.find?_toList]; exact find_born e es.toList hn he
  simp only [Instr.entry, getObj, Sem.run_bind, Sem.run, hr, hb, Result.andThen, Array.back?_push, bne_self_eq_false, Bool.false_eq_true, if_false, hf]
  rfl

theorem entFrom_born : ∀ (l : List Int) (b : Nat), (entFrom l b).map (·.born) = List.range' b l.length
  | [], _ => rfl
  | _ :: l, b => by simp [entFrom, entFrom_born l (b + 1), List.range'_succ]
theorem setBlock_same {w : World} {g : Nat} (o : Obj) (h : g < w.heap.size) : (setBlock w g o).heap[g]? = some o := by simp [setBlock, h]

/-- How many elements have not come yet. -/
def leftN (n : Nat) (seen : Array Nat) : Nat := ((List.range n).filter fun i => !seen.contains i).length
theorem leftN_step {n i : Nat} {seen : Array Nat} (hi : i < n) (hs : seen.contains i = false) : leftN n (seen.push i) < leftN n seen := by
  unfold leftN
  refine filter_lt (fun j => !seen.contains j) (fun j => !(seen.push i).contains j) (fun x hx => ?_) i (by simp only [hs]; rfl) (by simp) _ (List.mem_range.2 hi)
  simp at hx ⊢
  exact hx.1

/-- The iterator's step over the set l. -/
theorem set_next {P : Program} {w : World} {g r c0 : Nat} {l : List Int} {seen : Array Nat} (hs : SetIs w g l) (hi : IterIs w r g l.length seen c0) (hc : l.length ≤ c0) :
    ((∀ i, i < l.length → seen.contains i = true) ∧ ∀ ty, (Instr.next (.pointer (some ⟨r, 0, none⟩)) false ty).run P w = .ok (.tuple #[.bool false]) w) ∨
    ∃ i, ∃ (h : i < l.length), seen.contains i = false ∧ ∃ w1 : World, (w1 = w ∨ w1 = w.drew) ∧ (∀ ty, (Instr.next (.pointer (some ⟨r, 0, none⟩)) false ty).run P w = .ok (.tuple #[.bool true, .int .i64 l[i], .bool true]) (setBlock w1 r (.mapIter (some g) l.length (seen.push i) l.length))) ∧
      ((Instr.entry (.pointer (some ⟨r, 0, none⟩))).run P (setBlock w1 r (.mapIter (some g) l.length (seen.push i) l.length)) = .ok (.tuple #[.int .i64 l[i], .bool true]) (setBlock w1 r (.mapIter (some g) l.length (seen.push i) l.length))) := by
  have hborn : ∀ x ∈ (entFrom l 0).toArray.toList, x.born < l.length := by
    intro x hx
    have h1 : x.born ∈ (entFrom l 0).map (·.born) := List.mem_map.2 ⟨x, by simpa using hx, rfl⟩
    rw [entFrom_born] at h1
    have := List.mem_range'_1.1 h1
    omega
  have hget : ∀ x ∈ (entFrom l 0), ∃ (h : x.born < l.length), x.key = .int .i64 (l[x.born]) ∧ x.val = .bool true := by
    intro x hx
    obtain ⟨k, hk, rfl⟩ := List.getElem_of_mem hx
    have h1 := entFrom_get l 0 k
    rw [List.getElem?_eq_getElem hk] at h1
    rw [entFrom_length] at hk
    rw [List.getElem?_eq_getElem hk] at h1
    simp only [Option.map_some, Option.some.injEq, Nat.zero_add] at h1
    rw [h1]
    exact ⟨hk, rfl, rfl⟩
  have hgr : g ≠ r := by
    rintro rfl
    unfold IterIs at hi
    unfold SetIs mapObj at hs
    rw [hs] at hi
    cases hi
  have hrl : r < w.heap.size := lt_of_some hi
  have hlaw : ∀ ty, _ := fun ty => run_next_at (P := P) w ty g r l.length c0 seen (entFrom l 0).toArray l.length hi hs hborn hc
  by_cases hz : (leftOf (entFrom l 0).toArray seen).size = 0
  · refine .inl ⟨fun i hi' => ?_, fun ty => ?_⟩
    · cases hv : seen.contains i with
      | true => rfl
      | false =>
        exfalso
        have hk : i < (entFrom l 0).length := by rw [entFrom_length]; exact hi'
        have hb : (entFrom l 0)[i].born = i := by
          have h1 := entFrom_get l 0 i
          rw [List.getElem?_eq_getElem hk, List.getElem?_eq_getElem hi'] at h1
          simp only [Option.map_some, Option.some.injEq, Nat.zero_add] at h1
          rw [h1]
        have hm : (entFrom l 0)[i] ∈ (leftOf (entFrom l 0).toArray seen) := by
          unfold leftOf
          rw [Array.mem_filter]
          exact ⟨by simp, by rw [hb, hv]; rfl⟩
        rw [Array.eq_empty_of_size_eq_zero hz] at hm
        simp at hm
    · rcases hlaw ty with ⟨_, h⟩ | ⟨e, he, _⟩
      · exact h
      · rw [Array.eq_empty_of_size_eq_zero hz] at he
        simp at he
  · rcases hlaw 0 with ⟨h0, _⟩ | ⟨e, he, w1, hal, hrun⟩
    · exact absurd h0 hz
    · have hel : e ∈ entFrom l 0 := by
        have := (mem_left he).1
        simpa using this
      obtain ⟨hlt, hk, hv⟩ := hget e hel
      have hns : seen.contains e.born = false := by
        have h1 : e ∈ (entFrom l 0).toArray.filter (fun e => !seen.contains e.born) := by simpa [leftOf] using he
        rw [Array.mem_filter] at h1
        simpa using h1.2
      rw [hk, hv] at hrun
      refine .inr ⟨e.born, hlt, hns, w1, hal, fun ty => hrun, ?_⟩
      have h1 : w1.heap = w.heap := by rcases hal with rfl | rfl <;> rfl
      have hsz : r < w1.heap.size := by rw [h1]; exact hrl
      have := run_entry_at (P := P) (setBlock w1 r (.mapIter (some g) l.length (seen.push e.born) l.length)) g r l.length seen (entFrom l 0).toArray l.length e (setBlock_same _ hsz) (by rw [setBlk_other _ hgr, h1]; exact hs) (by simpa using hel) (by
        show ((entFrom l 0).map (·.born)).Nodup
        rw [entFrom_born]
        exact List.nodup_range')
      rw [hk, hv] at this
      exact this
end Go.Proofs.Ytgpjfpcjiebjiaa
