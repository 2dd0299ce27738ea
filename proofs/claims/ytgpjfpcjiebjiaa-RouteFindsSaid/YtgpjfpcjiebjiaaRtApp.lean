/- append of whole lists onto slices of the call's own, at whatever lengths. -/
import Derived.Test.YtgpjfpcjiebjiaaRtF
import Derived.Deep.AppendSrc
import Derived.Deep.AppendLies
namespace Go.Proofs.Ytgpjfpcjiebjiaa
open Go.RowKit
set_option linter.unusedVariables false
set_option linter.unusedSimpArgs false

theorem setCells_nil (w : World) (b off : Nat) : w.setCells b off [] = w := by
  unfold World.setCells
  rfl

/-- Append a list (of cells, of whatever source) onto a slice of the call's own: the run. -/
theorem run_append_row {ok : Nat → Prop} (w : World) (base : Nat) (t ty e : TypeId) (i : TypeInfo) (z : Value) (bytes : Nat) (ht : Try.prog.underlying t = some (.slice e)) (hi : Try.prog.info? e = some i) (hz : i.zero = some z)
    (hsize : i.size = 1) (hby : i.bytes = bytes) (hzs : z.cells.size = 1)
    (v : Value) (n : Nat) (xs : List Value) (hown : w.ownsRow base e 1 v n xs) (u : Value) (m : Nat) (news : List Value) (hu : Row w ok 1 u m news) (h1 : ∀ u ∈ news, u.oneCell' = true)
    (h63 : n + m ≤ maxLen) (hbytes : (n + m) * bytes ≤ 140737488355328) (hbase : base ≤ w.heap.size) :
    ∃ v' w', (Builtin.append_ #[t, t] ty #[v, u]).run Try.prog w = .ok v' w' ∧ w'.ownsRow base e 1 v' (n + m) (xs ++ news) ∧ w.grownBy w' v.ownBlock ∧ (v'.ownBlock = v.ownBlock ∨ v'.ownBlock = some w.heap.size) := by
  obtain ⟨A, c, rfl, hc, hl, hcells⟩ := hu
  rcases A with _ | a
  · have hm : m = 0 := by
      rcases Nat.eq_zero_or_pos m with h | h
      · exact h
      · obtain ⟨b, off, e, _⟩ := hcells h
        cases e
    subst hm
    have hn : news = [] := List.eq_nil_of_length_eq_zero (by simpa using hl)
    subst hn
    refine ⟨v, w, ?_, by simpa using hown, ⟨rfl, rfl, rfl, Nat.le_refl _, fun _ _ _ => rfl⟩, .inl rfl⟩
    rcases hown.2 with ⟨rfl, rfl⟩ | ⟨g, cap, cur, rfl, hbg, hg, hnc, hcm, hcs, htake⟩
    · simp [Builtin.append_, run_underlying ht, sizeOf, typeInfo, hi, hsize, Builtin.lenOf, Builtin.firstCells, loadCells, loadCellsFrom]
    · have h := run_append_room_src (P := Try.prog) w t t ty e i ht hi g 0 n cap (.slice none 0 c) 0 [] (by rw [hsize]; exact Src.ofNil w ht c) (by omega) (by simp) (by simp)
      rw [setCells_nil] at h
      simpa using h
  · rcases Nat.eq_zero_or_pos m with h0 | hpos
    · subst h0
      have hn : news = [] := List.eq_nil_of_length_eq_zero (by simpa using hl)
      subst hn
      obtain ⟨v', w', h1, h2, h3, h4, h5⟩ := run_append_own_at (P := Try.prog) w base t ty e i z 1 bytes ht hi hz hsize hby hzs (by decide) v n xs hown a 0 c [] (by simp) (by simp) (by simp) h63 hbytes hbase
      exact ⟨v', w', h1, h2, h3, h5⟩
    · obtain ⟨b, off, he, _, hc'⟩ := hcells hpos
      injection he with he
      subst he
      obtain ⟨v', w', h1, h2, h3, h4, h5⟩ := run_append_own_at (P := Try.prog) w base t ty e i z 1 bytes ht hi hz hsize hby hzs (by decide) v n xs hown ⟨b, off, none⟩ m c news (by simpa using hl) (fun j u hj => by rw [Addr.add_lit]; exact hc' j u hj) h1 h63 hbytes hbase
      exact ⟨v', w', h1, h2, h3, h5⟩

theorem wp_append_ints {ok : Nat → Prop} {o : Oper} {a : Act} {K : Act → World → Prop} {Q : Exit → Act → World → Prop} (W : World) (s x : Operand)
    (ho : o.op = .call { callee := .builtin .append, args := #[s, x], argTypes := #[24, 24] }) (base : Nat) (l l2 : List Int) (v u : Value) (hs : a.eval s = v) (hx : a.eval x = u)
    (hown : OwnI W base v l) (hu : Ints W ok u l2) (hbase : base ≤ W.heap.size) (hl : l.length + l2.length ≤ 1000000000000)
    (h : ∀ v' w', OwnI w' base v' (l ++ l2) → Hid (W.grownBy w' v.ownBlock) → Hid (v'.ownBlock = v.ownBlock ∨ v'.ownBlock = some W.heap.size) → K (a.put o.dst v') w') : Oper.wp Try.prog o a W K Q := by
  obtain ⟨i0, hi, hz0, hz1, hz2⟩ := info_parts Try.infoInt
  obtain ⟨v', w', hr, h2, h3, h5⟩ := run_append_row (ok := ok) W base 24 o.type 3 i0 (.int .i64 0) 8 Try.underlying24 hi hz0 hz1 hz2 rfl v _ _ hown u _ _ hu (by
    intro u hu
    obtain ⟨_, _, rfl⟩ := List.mem_map.1 hu
    rfl) (by unfold maxLen; omega) (by omega) hbase
  unfold Oper.wp execOp
  simp only [ho, resolve, invoke, builtin, Sem.run_bind, Sem.run_pure, Result.andThen_ok, List.map_toArray, List.map_cons, List.map_nil, hs, hx, hr]
  refine h v' w' ?_ h3 h5
  unfold OwnI
  rw [List.map_append, List.length_append]
  exact h2
theorem step_append_ints {ok : Nat → Prop} {ops : Array Oper} {o : Oper} {a : Act} {K : Act → World → Prop} {Q : Exit → Act → World → Prop} {E : Prop} (hgd : o.guard = none) (W : World) (s x : Operand)
    (ho : o.op = .call { callee := .builtin .append, args := #[s, x], argTypes := #[24, 24] }) (base : Nat) (l l2 : List Int) (v u : Value) (hs : a.eval s = v) (hx : a.eval x = u)
    (hown : OwnI W base v l) (hu : Ints W ok u l2) (hbase : base ≤ W.heap.size) (hl : l.length + l2.length ≤ 1000000000000)
    (h : ∀ v' w', OwnI w' base v' (l ++ l2) → Hid (W.grownBy w' v.ownBlock) → Hid (v'.ownBlock = v.ownBlock ∨ v'.ownBlock = some W.heap.size) → K (a.put o.dst v') w') :
    if Region.wanted o (yielded ops a.tmps) = true then Oper.wp Try.prog o a W K Q else E := by
  have hw : Region.wanted o (yielded ops a.tmps) = true := by simp [Region.wanted, hgd]
  rw [if_pos hw]
  exact wp_append_ints W s x ho base l l2 v u hs hx hown hu hbase hl h
theorem wpList_append_ints {ok : Nat → Prop} {ops : Array Oper} {rest : List Oper} {o : Oper} {a : Act} {Q : Exit → Act → World → Prop} (hgd : o.guard = none) (W : World) (s x : Operand)
    (ho : o.op = .call { callee := .builtin .append, args := #[s, x], argTypes := #[24, 24] }) (base : Nat) (l l2 : List Int) (v u : Value) (hs : a.eval s = v) (hx : a.eval x = u)
    (hown : OwnI W base v l) (hu : Ints W ok u l2) (hbase : base ≤ W.heap.size) (hl : l.length + l2.length ≤ 1000000000000)
    (h : ∀ v' w', OwnI w' base v' (l ++ l2) → Hid (W.grownBy w' v.ownBlock) → Hid (v'.ownBlock = v.ownBlock ∨ v'.ownBlock = some W.heap.size) → wpList Try.prog ops Q rest (a.put o.dst v') w') : wpList Try.prog ops Q (o :: rest) a W := by
  refine wpList_plain hgd fun K hK => ?_
  exact wp_append_ints W s x ho base l l2 v u hs hx hown hu hbase hl fun v' w' h1 h2 h3 => hK _ _ (h v' w' h1 h2 h3)

theorem own_base {W : World} {B k : Nat} {v : Value} {l : List Int} (h : OwnI W B v l) (hk : v.ownBlock = some k) : B ≤ k := by
  rcases h.2 with ⟨rfl, _⟩ | ⟨g, cap, cur, rfl, hg, _⟩
  · cases hk
  · have hk : some g = some k := hk
    injection hk with hk
    omega
theorem own_empty (W : World) (B : Nat) (hB : B ≤ W.heap.size) : OwnI (W.alloc (.cells #[] 3)) B (.slice (some ⟨W.heap.size, 0, none⟩) 0 0) [] :=
  ⟨rfl, .inr ⟨W.heap.size, 0, #[], rfl, hB, heap_alloc_new W _, Nat.le_refl _, by decide, rfl, rfl⟩⟩
theorem below_app {B : Nat} {a W w' : World} {v : Value} (h : Below B a W) (hg : Hid (W.grownBy w' v.ownBlock)) (hB : B ≤ W.heap.size) (hv : ∀ k, v.ownBlock = some k → B ≤ k) : Below B a w' := h.grown hg.out hB hv
end Go.Proofs.Ytgpjfpcjiebjiaa
