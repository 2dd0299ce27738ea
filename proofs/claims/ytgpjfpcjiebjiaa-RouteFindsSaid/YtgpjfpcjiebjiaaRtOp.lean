/- Opening: a law's arguments as plain data. -/
import Derived.Test.YtgpjfpcjiebjiaaRtA
import Derived.ProofKit
import Derived.OpenShut
namespace Go.Proofs.Ytgpjfpcjiebjiaa
open Go.ChangeShapes Go.WideShapes Go.ChangeAt Go.RowKit
set_option linter.unusedVariables false
set_option linter.unusedSimpArgs false
set_option maxRecDepth 100000

/-- Bytes in memory. -/
def U8s (w : World) (ok : Nat → Prop) (v : Value) (l : List Int) : Prop := Row w ok 1 v l.length (l.map (Value.int .u8)) ∧ ∀ x ∈ l, 0 ≤ x ∧ x ≤ 255
theorem U8s.below {w w' : World} {ok : Nat → Prop} {v : Value} {l : List Int} (h : U8s w ok v l) (hb : Below w.heap.size w w') : U8s w' ok v l := ⟨Row.below h.1 hb, h.2⟩
theorem u8At {w : World} {ok : Nat → Prop} {l : List Int} {n c : Nat} {A : Option Addr} (h : U8s w ok (.slice A n c) l) {k : Nat} (hk : k < l.length) :
    ∃ b off, A = some ⟨b, off, none⟩ ∧ w.cell? ⟨b, off + k, none⟩ = some (.int .u8 (l[k])) ∧ 0 ≤ l[k] ∧ l[k] ≤ 255 := by
  obtain ⟨⟨A', c', e, hc, hr⟩, h2⟩ := h
  injection e with e1 e2 e3
  subst e1
  obtain ⟨b, off, u, e, hb, hu, hcl⟩ := hr.at_ hk
  rw [List.getElem?_map, List.getElem?_eq_getElem hk] at hu
  exact ⟨b, off, e, by rw [hcl, ← hu]; rfl, (h2 _ (List.getElem_mem hk)).1, (h2 _ (List.getElem_mem hk)).2⟩

theorem spot_none {w : World} {a : Addr} {v : Value} (h : w.cell? a = some v) : a.spot = none := by
  unfold World.cell? at h
  split at h
  · split at h
    · cases h
    · rename_i h1
      cases hs : a.spot
      · rfl
      · rw [hs] at h1; simp at h1
  · cases h
theorem addr_at {a : Addr} (h : a.spot = none) (n : Nat) : a.add n = ⟨a.block, a.off + n, none⟩ := by
  obtain ⟨b, o, s⟩ := a
  simp only at h
  subst h
  unfold Addr.add
  split
  · rename_i h0; subst h0; rfl
  · rfl
theorem chooseList {β : Type} {p : Nat → β → Prop} : ∀ (n : Nat), (∀ i, i < n → ∃ b, p i b) → ∃ l : List β, l.length = n ∧ ∀ i b, l[i]? = some b → p i b
  | 0, _ => ⟨[], rfl, fun i b h => by simp at h⟩
  | n + 1, h => by
    obtain ⟨l, hl, h1⟩ := chooseList n (fun i hi => h i (by omega))
    obtain ⟨b, hb⟩ := h n (by omega)
    refine ⟨l ++ [b], by simp [hl], fun i x hx => ?_⟩
    rcases Nat.lt_or_ge i l.length with hi | hi
    · rw [List.getElem?_append_left hi] at hx; exact h1 i x hx
    · have hi2 : i = l.length := by
        rcases Nat.lt_or_ge i (l ++ [b]).length with h2 | h2
        · simp at h2; omega
        · rw [List.getElem?_eq_none h2] at hx; cases hx
      subst hi2
      rw [List.getElem?_append_right (Nat.le_refl _), Nat.sub_self] at hx
      have : b = x := by simpa using hx
      subst this
      rw [hl]; exact hb

section
variable {H : Type} {enc : TypeId × Value → H} {w : World} {base : Nat} {held : Bool} {fuel : Nat} {cs : List Value} {x : DataW H × List MemPlace}

/-- A slice, element by element. -/
theorem sliceOpen {t e : TypeId} {sz : Nat} (ht : Try.prog.underlying t = some (.slice e)) (hsz : Try.prog.cellsOf e = sz) (h0 : 0 < sz) (h : DataW.trod enc Try.prog w base (fun _ => true) held fuel t cs = some x) :
    ∃ A len c, cs = [.slice A len c] ∧ len ≤ c ∧ len ≤ 9223372036854775807 ∧ (0 < len → ∃ b off, A = some ⟨b, off, none⟩ ∧ ∀ i, i < len → ∃ (cl : List Value) (n : Nat) (y : DataW H × List MemPlace), cl.length = sz ∧ (∀ j, j < sz → w.cell? ⟨b, off + (i * sz + j), none⟩ = cl[j]?) ∧ DataW.trod enc Try.prog w base (fun _ => true) held n e cl = some y) := by
  rcases DataW.trod_slice ht h with ⟨rfl, _⟩ | ⟨a, len, cap, elems, rest, n, _, rfl, _, hb, hl, hm, hlen, hel, _, _⟩
  · exact ⟨none, 0, 0, rfl, Nat.le_refl _, by decide, fun h => by omega⟩
  · refine ⟨some a, len, cap, rfl, hl, by unfold maxLen at hm; omega, fun hpos => ?_⟩
    have each : ∀ i, i < len → ∃ (cl : List Value) (y : DataW H × List MemPlace), w.cells? base (a.add (i * sz)) sz = some cl ∧ DataW.trod enc Try.prog w base (fun _ => true) held n e cl = some y := fun i hi => by
      have h1 := hel i hi
      rw [hsz, List.getElem?_eq_getElem (by omega)] at h1
      obtain ⟨cl, h2, h3⟩ := Option.bind_eq_some_iff.1 h1
      exact ⟨cl, _, h2, h3⟩
    have hs : a.spot = none := by
      obtain ⟨cl, y, h2, _⟩ := each 0 hpos
      obtain ⟨_, h4, h5⟩ := World.cells?_some h2
      have h6 := h5 0 h0
      rw [List.getElem?_eq_getElem (by omega)] at h6
      have h7 := spot_none h6
      rw [Nat.zero_mul] at h7
      unfold Addr.add at h7
      rwa [if_pos rfl, if_pos rfl] at h7
    refine ⟨a.block, a.off, ?_, fun i hi => ?_⟩
    · obtain ⟨b, o, s⟩ := a
      simp only at hs
      subst hs; rfl
    · obtain ⟨cl, y, h2, h3⟩ := each i hi
      obtain ⟨_, h4, h5⟩ := World.cells?_some h2
      refine ⟨cl, n, y, h4, fun j hj => ?_, h3⟩
      have h6 := h5 j hj
      rw [addr_at hs, addr_at rfl] at h6
      rw [← Nat.add_assoc]
      exact h6
theorem eachOpen {α : Type} {R : Value → α → Prop} {t e : TypeId} (ht : Try.prog.underlying t = some (.slice e)) (hsz : Try.prog.cellsOf e = 1)
    (hR : ∀ n cl y, DataW.trod enc Try.prog w base (fun _ => true) held n e cl = some y → ∃ v a, cl = [v] ∧ R v a) (h : DataW.trod enc Try.prog w base (fun _ => true) held fuel t cs = some x) :
    ∃ v l, cs = [v] ∧ Each R w (fun _ => True) v l ∧ l.length ≤ 9223372036854775807 ∧ ∀ a ∈ l, ∃ u, R u a := by
  obtain ⟨A, len, c, rfl, hlc, hlm, hel0⟩ := sliceOpen ht hsz (by omega) h
  rcases Nat.eq_zero_or_pos len with rfl | hpos
  · exact ⟨_, [], rfl, ⟨[], ⟨A, c, rfl, hlc, RowA.nil _ _ _ _⟩, fun i y hy => by simp at hy⟩, by simp, fun a ha => by cases ha⟩
  · obtain ⟨b, off, rfl, hel⟩ := hel0 hpos
    clear hel0
    obtain ⟨l, hl, hp⟩ := chooseList (β := Value × α) (p := fun i va => w.cell? ⟨b, off + i, none⟩ = some va.1 ∧ R va.1 va.2) len (fun i hi => by
      obtain ⟨cl, n, y, h1, h2, h3⟩ := hel i hi
      obtain ⟨v, a, rfl, hr⟩ := hR n cl y h3
      have := h2 0 (by omega)
      rw [Nat.mul_one, Nat.add_zero] at this
      exact ⟨(v, a), this, hr⟩)
    refine ⟨_, l.map (·.2), rfl, ⟨l.map (·.1), ⟨_, c, by rw [List.length_map, hl], by rw [List.length_map, hl]; exact hlc, by simp, fun _ => ⟨b, off, rfl, trivial, fun j u hu => ?_⟩⟩, fun i y hy => ?_⟩, by rw [List.length_map, hl]; exact hlm, fun a ha => ?_⟩
    · rw [List.getElem?_map] at hu
      obtain ⟨va, h1, rfl⟩ := Option.map_eq_some_iff.1 hu
      exact (hp j va h1).1
    · rw [List.getElem?_map] at hy
      obtain ⟨va, h1, rfl⟩ := Option.map_eq_some_iff.1 hy
      exact ⟨va.1, by rw [List.getElem?_map, h1]; rfl, (hp i va h1).2⟩
    · obtain ⟨va, h1, rfl⟩ := List.mem_map.1 ha
      obtain ⟨i, hi, rfl⟩ := List.getElem_of_mem h1
      exact ⟨_, (hp i _ (List.getElem?_eq_getElem hi)).2⟩
theorem row_of_each {α : Type} {f : α → Value} {v : Value} {l : List α} (h : Each (fun u a => u = f a) w (fun _ => True) v l) : Row w (fun _ => True) 1 v l.length (l.map f) := by
  obtain ⟨vs, hr, he⟩ := h
  have : vs = l.map f := by
    have hlen := hr
    obtain ⟨A, c, _, _, hA⟩ := hlen
    have hl : vs.length = l.length := by have := hA.1; omega
    refine List.ext_getElem? fun i => ?_
    rcases Nat.lt_or_ge i l.length with hi | hi
    · obtain ⟨u, hu, hr⟩ := he i _ (List.getElem?_eq_getElem hi)
      rw [hu, List.getElem?_map, List.getElem?_eq_getElem hi, hr]; rfl
    · rw [List.getElem?_eq_none (by omega), List.getElem?_eq_none (by simp; omega)]
  rw [← this]; exact hr
theorem intsOpen (h : DataW.trod enc Try.prog w base (fun _ => true) held fuel 24 cs = some x) : ∃ v l, cs = [v] ∧ Ints w (fun _ => True) v l ∧ l.length ≤ 9223372036854775807 := by
  obtain ⟨v, l, rfl, he, hl, _⟩ := eachOpen (R := fun u a => u = Value.int .i64 a) Try.underlying24 (by kernel_rfl) (fun n cl y hy => by
    obtain ⟨k, rfl, _, _⟩ := DataW.trod_int Try.underlying3 hy
    exact ⟨_, k, rfl, rfl⟩) h
  exact ⟨v, l, rfl, row_of_each he, hl⟩
theorem boolsOpen (h : DataW.trod enc Try.prog w base (fun _ => true) held fuel 28 cs = some x) : ∃ v l, cs = [v] ∧ Bools w (fun _ => True) v l ∧ l.length ≤ 9223372036854775807 := by
  obtain ⟨v, l, rfl, he, hl, _⟩ := eachOpen (R := fun u a => u = Value.bool a) Try.underlying28 (by kernel_rfl) (fun n cl y hy => by
    obtain ⟨k, rfl, _⟩ := DataW.trod_bool Try.underlying4 hy
    exact ⟨_, k, rfl, rfl⟩) h
  exact ⟨v, l, rfl, row_of_each he, hl⟩
theorem u8sOpen (h : DataW.trod enc Try.prog w base (fun _ => true) held fuel 45 cs = some x) : ∃ v l, cs = [v] ∧ U8s w (fun _ => True) v l ∧ l.length ≤ 9223372036854775807 := by
  obtain ⟨v, l, rfl, he, hl, hin⟩ := eachOpen (R := fun u (a : Int) => u = Value.int .u8 a ∧ 0 ≤ a ∧ a ≤ 255) Try.underlying45 (by kernel_rfl) (fun n cl y hy => by
    obtain ⟨k, rfl, _, hw⟩ := DataW.trod_int Try.underlying5 hy
    refine ⟨_, k, rfl, rfl, ?_⟩
    have this := hw
    simp only [Lit.wf, IntKind.has, Bool.and_eq_true, decide_eq_true_eq] at this
    have e1 : IntKind.u8.min = 0 := rfl
    have e2 : IntKind.u8.max = 255 := rfl
    omega) h
  obtain ⟨vs, hr, he2⟩ := he
  exact ⟨v, l, rfl, ⟨row_of_each ⟨vs, hr, fun i y hy => by
    obtain ⟨u, h1, h2, _⟩ := he2 i y hy
    exact ⟨u, h1, h2⟩⟩, fun a ha => by obtain ⟨u, h⟩ := hin a ha; exact h.2⟩, hl⟩
theorem intssOpen (h : DataW.trod enc Try.prog w base (fun _ => true) held fuel 22 cs = some x) : ∃ v l, cs = [v] ∧ Intss w (fun _ => True) v l ∧ l.length ≤ 9223372036854775807 ∧ ∀ a ∈ l, a.length ≤ 9223372036854775807 := by
  obtain ⟨v, l, rfl, he, hl, hin⟩ := eachOpen (R := fun u a => Ints w (fun _ => True) u a ∧ a.length ≤ 9223372036854775807) Try.underlying22 (by kernel_rfl) (fun n cl y hy => by
    obtain ⟨v, l, rfl, h1, h2⟩ := intsOpen hy
    exact ⟨v, l, rfl, h1, h2⟩) h
  obtain ⟨vs, hr, he2⟩ := he
  exact ⟨v, l, rfl, ⟨vs, hr, fun i y hy => by
    obtain ⟨u, h1, h2, _⟩ := he2 i y hy
    exact ⟨u, h1, h2⟩⟩, hl, fun a ha => by obtain ⟨u, h⟩ := hin a ha; exact h.2⟩
theorem intOpen (h : DataW.trod enc Try.prog w base (fun _ => true) held fuel 3 cs = some x) : ∃ n, cs = [.int .i64 n] ∧ -9223372036854775808 ≤ n ∧ n ≤ 9223372036854775807 := by
  obtain ⟨k, rfl, _, hw⟩ := DataW.trod_int Try.underlying3 h
  refine ⟨k, rfl, ?_⟩
  have this := hw
  simp only [Lit.wf, IntKind.has, Bool.and_eq_true, decide_eq_true_eq] at this
  have e1 : IntKind.i64.min = -9223372036854775808 := rfl
  have e2 : IntKind.i64.max = 9223372036854775807 := rfl
  omega
theorem fieldOpen {t : TypeId} {fs : Array Field} (ht : Try.prog.underlying t = some (.struct fs)) (h : DataW.trod enc Try.prog w base (fun _ => true) held fuel t cs = some x) :
    cs.length = Try.prog.cellsOf t ∧ ∀ (i ty off sz : Nat), (fs[i]?).map (fun f => (f.type, f.offset)) = some (ty, off) → Try.prog.cellsOf ty = sz → ∃ n y, DataW.trod enc Try.prog w base (fun _ => true) held n ty ((cs.drop off).take sz) = some y := by
  obtain ⟨xs, n, _, _, hl, hxs, hf⟩ := DataW.trod_struct ht h
  refine ⟨hl, fun i ty off sz hi hsz => ?_⟩
  obtain ⟨f, hi, he⟩ := Option.map_eq_some_iff.1 hi
  injection he with he1 he2
  have h1 := hf i f hi
  have h2 : i < fs.size := (Array.getElem?_eq_some_iff.1 hi).1
  rw [List.getElem?_eq_getElem (by omega), he1, he2, hsz] at h1
  exact ⟨n, _, h1⟩
theorem cellsT27 : Try.prog.cellsOf 27 = 1 := by kernel_rfl
theorem cellsT24 : Try.prog.cellsOf 24 = 1 := by kernel_rfl
theorem cellsT22 : Try.prog.cellsOf 22 = 1 := by kernel_rfl
theorem cellsT23 : Try.prog.cellsOf 23 = 3 := by kernel_rfl
theorem cellsT32 : Try.prog.cellsOf 32 = 2 := by kernel_rfl
theorem cellsT3 : Try.prog.cellsOf 3 = 1 := by kernel_rfl
theorem cellsT9 : Try.prog.cellsOf 9 = 1 := by kernel_rfl
theorem cellsT28 : Try.prog.cellsOf 28 = 1 := by kernel_rfl
theorem cellsT29 : Try.prog.cellsOf 29 = 1 := by kernel_rfl
theorem cellsT26 : Try.prog.cellsOf 26 = 5 := by kernel_rfl
theorem cellsT31 : Try.prog.cellsOf 31 = 6 := by kernel_rfl
theorem cellsT75 : Try.prog.cellsOf 75 = 3 := by kernel_rfl
theorem len5 {α : Type} {l : List α} (h : l.length = 5) : ∃ a b c d e, l = [a, b, c, d, e] := by
  match l, h with
  | [a, b, c, d, e], _ => exact ⟨a, b, c, d, e, rfl⟩
theorem agg_of {v : Value} {l : List Value} (h : v.cells.toList = l) (h2 : ∃ cs, v = .agg cs) : v = .agg l.toArray := by
  obtain ⟨cs, rfl⟩ := h2
  subst h
  rfl
theorem caseAgg {W : World} {b : Nat} {v : Value} (h : Value.okWide Try.prog W .any b 26 v) : ∃ cs, v = .agg cs := by
  unfold Value.okWide at h
  rw [Try.underlying26] at h
  obtain ⟨cs, h, _⟩ := h
  exact ⟨cs, h⟩
theorem mazeAgg {W : World} {b : Nat} {v : Value} (h : Value.okWide Try.prog W .any b 31 v) : ∃ cs, v = .agg cs := by
  unfold Value.okWide at h
  rw [Try.underlying31] at h
  obtain ⟨cs, h, _⟩ := h
  exact ⟨cs, h⟩
theorem bytesOpen {v : Value} {d : DataW H} {p : List MemPlace} {W : World} {b : Nat} (hv : Value.okWide Try.prog W .any b 45 v) (h : DataW.Trod enc Try.prog w base (fun _ => true) held 45 v d p) : ∃ l, U8s w (fun _ => True) v l ∧ l.length ≤ 9223372036854775807 := by
  obtain ⟨fuel, h⟩ := h
  obtain ⟨v', l, e, hu, hl⟩ := u8sOpen h
  refine ⟨l, ?_, hl⟩
  have hv2 : ∀ cs, v ≠ .agg cs := by
    rintro cs rfl
    unfold Value.okWide at hv
    rw [Try.underlying45] at hv
    simp [Cell.okWide, Cell.ok, Try.underlying45] at hv
  have : v.cells = #[v] := by
    cases v <;> first | rfl | exact absurd rfl (hv2 _)
  rw [this] at e
  injection e with e
  subst e; exact hu
theorem caseOpen {v : Value} {d : DataW H} {p : List MemPlace} (h : DataW.Trod enc Try.prog w base (fun _ => true) held 26 v d p) (hv : ∃ cs, v = .agg cs) :
    ∃ v0 o0 o1 o2 v4 ls ns, v = .agg #[v0, .int .i64 o0, .int .i64 o1, .int .i64 o2, v4] ∧ Intss w (fun _ => True) v0 ls ∧ ls.length ≤ 9223372036854775807 ∧ (∀ l ∈ ls, l.length ≤ 9223372036854775807) ∧
      Ints w (fun _ => True) v4 ns ∧ ns.length ≤ 9223372036854775807 ∧ (-9223372036854775808 ≤ o0 ∧ o0 ≤ 9223372036854775807) ∧ (-9223372036854775808 ≤ o1 ∧ o1 ≤ 9223372036854775807) ∧ (-9223372036854775808 ≤ o2 ∧ o2 ≤ 9223372036854775807) := by
  obtain ⟨fuel, h⟩ := h
  obtain ⟨hl, hf⟩ := fieldOpen Try.underlying26 h
  rw [cellsT26] at hl
  obtain ⟨c0, c1, c2, c3, c4, hc⟩ := len5 hl
  have hva := agg_of hc hv
  rw [hc] at hf
  obtain ⟨n0, y0, h0⟩ := hf 0 _ _ _ rfl cellsT22
  obtain ⟨n1, y1, h1⟩ := hf 1 _ _ _ rfl cellsT23
  obtain ⟨n2, y2, h2⟩ := hf 2 _ _ _ rfl cellsT24
  have h0 : DataW.trod enc Try.prog w base (fun _ => true) held n0 22 [c0] = some y0 := h0
  have h1 : DataW.trod enc Try.prog w base (fun _ => true) held n1 23 [c1, c2, c3] = some y1 := h1
  have h2 : DataW.trod enc Try.prog w base (fun _ => true) held n2 24 [c4] = some y2 := h2
  obtain ⟨v0, ls, e0, i0, i1, i2⟩ := intssOpen h0
  injection e0 with e0
  subst e0
  obtain ⟨v4, ns, e4, i3, i4⟩ := intsOpen h2
  injection e4 with e4
  subst e4
  obtain ⟨xs, m, _, _, hl1, hxl, hx⟩ := DataW.trod_array Try.underlying23 h1
  rw [cellsT3] at hx
  have a0 := hx 0 (by omega)
  have a1 := hx 1 (by omega)
  have a2 := hx 2 (by omega)
  rw [List.getElem?_eq_getElem (by omega)] at a0 a1 a2
  have a0 : DataW.trod enc Try.prog w base (fun _ => true) held m 3 [c1] = _ := a0
  have a1 : DataW.trod enc Try.prog w base (fun _ => true) held m 3 [c2] = _ := a1
  have a2 : DataW.trod enc Try.prog w base (fun _ => true) held m 3 [c3] = _ := a2
  obtain ⟨o0, e0, b0⟩ := intOpen a0
  obtain ⟨o1, e1, b1⟩ := intOpen a1
  obtain ⟨o2, e2, b2⟩ := intOpen a2
  injection e0 with e0
  injection e1 with e1
  injection e2 with e2
  subst e0 e1 e2
  exact ⟨_, o0, o1, o2, _, ls, ns, hva, i0, i1, i2, i3, i4, b0, b1, b2⟩
end
end Go.Proofs.Ytgpjfpcjiebjiaa
