/- Opening: a maze and pairs as plain data. -/
import Derived.Test.YtgpjfpcjiebjiaaGr
namespace Go.Proofs.Ytgpjfpcjiebjiaa
open Go.ChangeShapes Go.WideShapes Go.ChangeAt Go.RowKit
set_option linter.unusedVariables false
set_option linter.unusedSimpArgs false
set_option maxRecDepth 100000

section
variable {H : Type} {enc : TypeId × Value → H} {w : World} {base : Nat} {held : Bool} {fuel : Nat} {cs : List Value} {x : DataW H × List MemPlace}
theorem boolssOpen (h : DataW.trod enc Try.prog w base (fun _ => true) held fuel 27 cs = some x) : ∃ v l, cs = [v] ∧ Boolss w (fun _ => True) v l := by
  obtain ⟨v, l, rfl, he, hl, hin⟩ := eachOpen (R := fun u a => Bools w (fun _ => True) u a) Try.underlying27 (by kernel_rfl) (fun n cl y hy => by
    obtain ⟨v, l, rfl, h1, h2⟩ := boolsOpen hy
    exact ⟨v, l, rfl, h1⟩) h
  exact ⟨v, l, rfl, he⟩
theorem len3 {α : Type} {l : List α} (h : l.length = 3) : ∃ a b c, l = [a, b, c] := by
  match l, h with
  | [a, b, c], _ => exact ⟨a, b, c, rfl⟩
theorem len2 {α : Type} {l : List α} (h : l.length = 2) : ∃ a b, l = [a, b] := by
  match l, h with
  | [a, b], _ => exact ⟨a, b, rfl⟩
theorem len6 {α : Type} {l : List α} (h : l.length = 6) : ∃ a b c d e f, l = [a, b, c, d, e, f] := by
  match l, h with
  | [a, b, c, d, e, f], _ => exact ⟨a, b, c, d, e, f, rfl⟩
theorem flat3_get : ∀ (l : List ((Value × Value × Value) × (List Int × List Int))) (j : Nat) (u : Value), (l.flatMap fun x => [x.1.1, x.1.2.1, x.1.2.2])[j]? = some u → ∃ i x, l[i]? = some x ∧ ((j = i * 3 ∧ u = x.1.1) ∨ (j = i * 3 + 1 ∧ u = x.1.2.1) ∨ (j = i * 3 + 2 ∧ u = x.1.2.2))
  | [], j, u, h => by simp at h
  | x :: l, j, u, h => by
    rw [List.flatMap_cons] at h
    match j, h with
    | 0, h => exact ⟨0, x, rfl, .inl ⟨rfl, by simpa using h.symm⟩⟩
    | 1, h => exact ⟨0, x, rfl, .inr (.inl ⟨rfl, by simpa using h.symm⟩)⟩
    | 2, h => exact ⟨0, x, rfl, .inr (.inr ⟨rfl, by simpa using h.symm⟩)⟩
    | j + 3, h =>
      have h2 : (l.flatMap fun x => [x.1.1, x.1.2.1, x.1.2.2])[j]? = some u := by simpa using h
      obtain ⟨i, y, h3, h4⟩ := flat3_get l j u h2
      exact ⟨i + 1, y, h3, by rcases h4 with ⟨h4, h5⟩ | ⟨h4, h5⟩ | ⟨h4, h5⟩; exact .inl ⟨by omega, h5⟩; exact .inr (.inl ⟨by omega, h5⟩); exact .inr (.inr ⟨by omega, h5⟩)⟩
theorem flat3_at : ∀ (l : List ((Value × Value × Value) × (List Int × List Int))) (i : Nat) x, l[i]? = some x → (l.flatMap fun x => [x.1.1, x.1.2.1, x.1.2.2])[i * 3]? = some x.1.1 ∧ (l.flatMap fun x => [x.1.1, x.1.2.1, x.1.2.2])[i * 3 + 1]? = some x.1.2.1 ∧ (l.flatMap fun x => [x.1.1, x.1.2.1, x.1.2.2])[i * 3 + 2]? = some x.1.2.2
  | [], i, x, h => by simp at h
  | y :: l, 0, x, h => by
    have : y = x := by simpa using h
    subst this
    rw [List.flatMap_cons]
    exact ⟨rfl, rfl, rfl⟩
  | y :: l, i + 1, x, h => by
    have h2 := flat3_at l i x (by simpa using h)
    rw [List.flatMap_cons]
    obtain ⟨h3, h4, h5⟩ := h2
    refine ⟨?_, ?_, ?_⟩
    · rw [show (i + 1) * 3 = (i * 3) + 3 from by omega]; simpa using h3
    · rw [show (i + 1) * 3 + 1 = (i * 3 + 1) + 3 from by omega]; simpa using h4
    · rw [show (i + 1) * 3 + 2 = (i * 3 + 2) + 3 from by omega]; simpa using h5
theorem flat3_len : ∀ (l : List ((Value × Value × Value) × (List Int × List Int))), (l.flatMap fun x => [x.1.1, x.1.2.1, x.1.2.2]).length = l.length * 3
  | [] => rfl
  | x :: l => by rw [List.flatMap_cons, List.length_append, flat3_len l, List.length_cons]; simp; omega
theorem tasksOpen (h : DataW.trod enc Try.prog w base (fun _ => true) held fuel 29 cs = some x) : ∃ v l, cs = [v] ∧ Tasks w (fun _ => True) v l := by
  obtain ⟨A, len, c, rfl, hlc, hlm, hel0⟩ := sliceOpen Try.underlying29 cellsT75 (by omega) h
  rcases Nat.eq_zero_or_pos len with rfl | hpos
  · exact ⟨_, [], rfl, [], ⟨A, c, rfl, hlc, RowA.nil _ _ _ _⟩, fun i y hy => by simp at hy⟩
  · obtain ⟨b, off, rfl, hel⟩ := hel0 hpos
    obtain ⟨l, hl, hp⟩ := chooseList (β := (Value × Value × Value) × (List Int × List Int)) (p := fun i x => w.cell? ⟨b, off + (i * 3), none⟩ = some x.1.1 ∧ w.cell? ⟨b, off + (i * 3 + 1), none⟩ = some x.1.2.1 ∧ w.cell? ⟨b, off + (i * 3 + 2), none⟩ = some x.1.2.2 ∧ (∃ s, x.1.1 = .string s) ∧ Ints w (fun _ => True) x.1.2.1 x.2.1 ∧ Ints w (fun _ => True) x.1.2.2 x.2.2) len (fun i hi => by
      obtain ⟨cl, n, y, h1, h2, h3⟩ := hel i hi
      obtain ⟨a, b', c', rfl⟩ := len3 h1
      obtain ⟨_, hf⟩ := fieldOpen Try.underlying75 h3
      obtain ⟨n0, y0, f0⟩ := hf 0 _ _ _ rfl cellsT9
      obtain ⟨n1, y1, f1⟩ := hf 1 _ _ _ rfl cellsT24
      obtain ⟨n2, y2, f2⟩ := hf 2 _ _ _ rfl cellsT24
      have f0 : DataW.trod enc Try.prog w base (fun _ => true) held n0 9 [a] = some y0 := f0
      have f1 : DataW.trod enc Try.prog w base (fun _ => true) held n1 24 [b'] = some y1 := f1
      have f2 : DataW.trod enc Try.prog w base (fun _ => true) held n2 24 [c'] = some y2 := f2
      obtain ⟨s, e0, _, _⟩ := DataW.trod_string Try.underlying9 f0
      obtain ⟨v1, l1, e1, i1, _⟩ := intsOpen f1
      obtain ⟨v2, l2, e2, i2, _⟩ := intsOpen f2
      injection e0 with e0
      injection e1 with e1
      injection e2 with e2
      subst e0 e1 e2
      have g0 := h2 0 (by omega)
      have g1 := h2 1 (by omega)
      have g2 := h2 2 (by omega)
      exact ⟨((.string s, _, _), (l1, l2)), g0, g1, g2, ⟨s, rfl⟩, i1, i2⟩)
    refine ⟨_, l.map (·.2), rfl, l.flatMap (fun x => [x.1.1, x.1.2.1, x.1.2.2]), ⟨_, c, by rw [List.length_map, hl], by rw [List.length_map, hl]; exact hlc, by rw [flat3_len, List.length_map], fun _ => ⟨b, off, rfl, trivial, fun j u hu => ?_⟩⟩, fun i y hy => ?_⟩
    · obtain ⟨i, y, h1, h2⟩ := flat3_get l j u hu
      obtain ⟨g0, g1, g2, _⟩ := hp i y h1
      rcases h2 with ⟨rfl, rfl⟩ | ⟨rfl, rfl⟩ | ⟨rfl, rfl⟩
      · exact g0
      · exact g1
      · exact g2
    · rw [List.getElem?_map] at hy
      obtain ⟨z, h1, rfl⟩ := Option.map_eq_some_iff.1 hy
      obtain ⟨g0, g1, g2, ⟨s, hs⟩, i1, i2⟩ := hp i z h1
      obtain ⟨k0, k1, k2⟩ := flat3_at l i z h1
      exact ⟨s, _, _, by rw [k0, hs], k1, k2, i1, i2⟩
theorem mazeOpen {v : Value} {d : DataW H} {p : List MemPlace} (h : DataW.Trod enc Try.prog w base (fun _ => true) held 31 v d p) (hv : ∃ cs, v = .agg cs) :
    ∃ m, MazeV w (fun _ => True) v m ∧ (-9223372036854775808 ≤ m.w ∧ m.w ≤ 9223372036854775808) ∧ (-9223372036854775808 ≤ m.h ∧ m.h ≤ 9223372036854775808) ∧ (-9223372036854775808 ≤ m.l ∧ m.l ≤ 9223372036854775808) := by
  obtain ⟨fuel, h⟩ := h
  obtain ⟨hl, hf⟩ := fieldOpen Try.underlying31 h
  rw [cellsT31] at hl
  obtain ⟨c0, c1, c2, c3, c4, c5, hc⟩ := len6 hl
  have hva := agg_of hc hv
  rw [hc] at hf
  obtain ⟨n0, y0, f0⟩ := hf 0 _ _ _ rfl cellsT3
  obtain ⟨n1, y1, f1⟩ := hf 1 _ _ _ rfl cellsT3
  obtain ⟨n2, y2, f2⟩ := hf 2 _ _ _ rfl cellsT3
  obtain ⟨n3, y3, f3⟩ := hf 3 _ _ _ rfl cellsT27
  obtain ⟨n4, y4, f4⟩ := hf 4 _ _ _ rfl cellsT28
  obtain ⟨n5, y5, f5⟩ := hf 5 _ _ _ rfl cellsT29
  have f0 : DataW.trod enc Try.prog w base (fun _ => true) held n0 3 [c0] = some y0 := f0
  have f1 : DataW.trod enc Try.prog w base (fun _ => true) held n1 3 [c1] = some y1 := f1
  have f2 : DataW.trod enc Try.prog w base (fun _ => true) held n2 3 [c2] = some y2 := f2
  have f3 : DataW.trod enc Try.prog w base (fun _ => true) held n3 27 [c3] = some y3 := f3
  have f4 : DataW.trod enc Try.prog w base (fun _ => true) held n4 28 [c4] = some y4 := f4
  have f5 : DataW.trod enc Try.prog w base (fun _ => true) held n5 29 [c5] = some y5 := f5
  obtain ⟨a0, e0, b0, b0'⟩ := intOpen f0
  obtain ⟨a1, e1, b1, b1'⟩ := intOpen f1
  obtain ⟨a2, e2, b2, b2'⟩ := intOpen f2
  obtain ⟨v3, l3, e3, i3⟩ := boolssOpen f3
  obtain ⟨v4, l4, e4, i4, _⟩ := boolsOpen f4
  obtain ⟨v5, l5, e5, i5⟩ := tasksOpen f5
  injection e0 with e0
  injection e1 with e1
  injection e2 with e2
  injection e3 with e3
  injection e4 with e4
  injection e5 with e5
  subst e0 e1 e2 e3 e4 e5
  exact ⟨⟨a0, a1, a2, l3, l4, l5⟩, ⟨_, _, _, hva, i3, i4, i5⟩, ⟨b0, by show a0 ≤ _; omega⟩, ⟨b1, by show a1 ≤ _; omega⟩, ⟨b2, by show a2 ≤ _; omega⟩⟩
theorem pairOpen {v : Value} {d : DataW H} {p : List MemPlace} (h : DataW.Trod enc Try.prog w base (fun _ => true) held 32 v d p) (hv : ∃ cs, v = .agg cs) : ∃ a b, v = .agg #[.int .i64 a, .int .i64 b] := by
  obtain ⟨fuel, h⟩ := h
  obtain ⟨xs, m, _, _, hl1, hxl, hx⟩ := DataW.trod_array Try.underlying32 h
  rw [cellsT32] at hl1
  obtain ⟨c0, c1, hc⟩ := len2 hl1
  have hva := agg_of hc hv
  rw [cellsT3, hc] at hx
  have a0 := hx 0 (by omega)
  have a1 := hx 1 (by omega)
  rw [List.getElem?_eq_getElem (by omega)] at a0 a1
  have a0 : DataW.trod enc Try.prog w base (fun _ => true) held m 3 [c0] = _ := a0
  have a1 : DataW.trod enc Try.prog w base (fun _ => true) held m 3 [c1] = _ := a1
  obtain ⟨o0, e0, _⟩ := intOpen a0
  obtain ⟨o1, e1, _⟩ := intOpen a1
  injection e0 with e0
  injection e1 with e1
  subst e0 e1
  exact ⟨o0, o1, hva⟩
theorem pairAgg {W : World} {b : Nat} {v : Value} (h : Value.okWide Try.prog W .any b 32 v) : ∃ cs, v = .agg cs := by
  unfold Value.okWide at h
  rw [Try.underlying32] at h
  obtain ⟨cs, h, _⟩ := h
  exact ⟨cs, h⟩
end
end Go.Proofs.Ytgpjfpcjiebjiaa
