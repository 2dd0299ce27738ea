/- Walks: clones of lists, and the state without choices. -/
import Derived.Test.YtgpjfpcjiebjiaaRtS
import Derived.Lib.SliceRun
namespace Go.Proofs.Ytgpjfpcjiebjiaa
open Go.RowKit
set_option linter.unusedVariables false
set_option linter.unusedSimpArgs false
attribute [local go_sem ↓] Go.wp_at_zero Go.wp_at_succ

theorem Try.infoInts : (Try.prog.info? 24).map (fun i => (i.zero, i.size, i.bytes)) = some (some (.slice none 0 0), 1, 24) := by kernel_rfl

/-- A slice of slices of the call's own. -/
def OwnL (w : World) (B : Nat) (v : Value) (vs : List Value) : Prop := w.ownsRow B 24 1 v vs.length vs

theorem ints_oneCell {w : World} {ok : Nat → Prop} {v : Value} {l : List Int} (h : Ints w ok v l) : v.oneCell' = true := by
  obtain ⟨A, c, rfl, _⟩ := h
  rfl

theorem wpList_append_intss {ok : Nat → Prop} {ops : Array Oper} {rest : List Oper} {o : Oper} {a : Act} {Q : Exit → Act → World → Prop} (hgd : o.guard = none) (W : World) (s x : Operand)
    (ho : o.op = .call { callee := .builtin .append, args := #[s, x], argTypes := #[22, 22] }) (base : Nat) (l l2 : List Value) (v u : Value) (hs : a.eval s = v) (hx : a.eval x = u)
    (hown : OwnL W base v l) (hu : Row W ok 1 u l2.length l2) (h1 : ∀ u ∈ l2, u.oneCell' = true) (hbase : base ≤ W.heap.size) (hl : l.length + l2.length ≤ 1000000000000)
    (h : ∀ v' w', OwnL w' base v' (l ++ l2) → Hid (W.grownBy w' v.ownBlock) → Hid (v'.ownBlock = v.ownBlock ∨ v'.ownBlock = some W.heap.size) → wpList Try.prog ops Q rest (a.put o.dst v') w') : wpList Try.prog ops Q (o :: rest) a W := by
  refine wpList_plain hgd fun K hK => ?_
  obtain ⟨i0, hi, hz0, hz1, hz2⟩ := info_parts Try.infoInts
  obtain ⟨v', w', hr, h2, h3, h5⟩ := run_append_row (ok := ok) W base 22 o.type 24 i0 (.slice none 0 0) 24 Try.underlying22 hi hz0 hz1 hz2 rfl v _ _ hown u _ _ hu h1 (by unfold maxLen; omega) (by omega) hbase
  unfold Oper.wp execOp
  simp only [ho, resolve, invoke, builtin, Sem.run_bind, Sem.run_pure, Result.andThen_ok, List.map_toArray, List.map_cons, List.map_nil, hs, hx, hr]
  refine hK _ _ (h v' w' ?_ h3 h5)
  unfold OwnL
  rw [List.length_append]
  exact h2

theorem slice_own {g n c k : Nat} (h : (Value.slice (some ⟨g, 0, none⟩) n c).ownBlock = some k) : g ≤ k := by
  have h : some g = some k := h
  injection h with h
  omega
theorem own_emptyL (W : World) (B : Nat) (hB : B ≤ W.heap.size) : OwnL (W.alloc (.cells #[] 24)) B (.slice (some ⟨W.heap.size, 0, none⟩) 0 0) [] :=
  ⟨rfl, .inr ⟨W.heap.size, 0, #[], rfl, hB, heap_alloc_new W _, Nat.le_refl _, by decide, rfl, rfl⟩⟩

theorem nilEq (t e : TypeId) (ht : Try.prog.underlying t = some (.slice e)) : ∀ (w : World) (a : Option Addr) (n c n' c' : Nat), (binOp .eql t (.slice a n c) (.slice none n' c')).run Try.prog w = .ok (.bool a.isNone) w := fun w a n c n' c' => Lib.run_eql_slice_nil w _ _ a n c n' c' ht

set_option maxRecDepth 100000 in
theorem cloneI_calls {ok : Nat → Prop} {v : Value} {l : List Int} (w : World) (h : Ints w ok v l) (hl : l.length ≤ 100000000000) :
    Calls Try.prog 64 #[v] w fun e w' => ∃ v', e = .returned v' ∧ Mk w w' v' l := by
  have H := Lib.hid h
  have hnil := nilEq 24 3 Try.underlying24
  obtain ⟨A, c, rfl, hc, hr⟩ := h
  rcases A with _ | a
  · have hl0 : l = [] := by
      rcases Nat.eq_zero_or_pos l.length with h | h
      · exact List.eq_nil_of_length_eq_zero h
      · obtain ⟨b, off, e, _⟩ := hr.2 h
        cases e
    subst hl0
    clear hr
    go_enter Try.func64, Try.ntmps64
    go_wp2_with fail
    go_ret
    exact ⟨_, rfl, Mk.nil _⟩
  · clear hr
    have hx := Ext.refl w
    go_enter Try.func64, Try.ntmps64
    go_wp2_with (at_builtin; refine wpList_append_ints (ok := ok) rfl _ _ _ rfl w.heap.size [] l _ _ rfl rfl (own_empty w w.heap.size (Nat.le_refl _)) (H.out.below ((Ext.refl w).alloc _)) ?d1 ?d2 ?_)
    case d1 => simp
    case d2 => simp; omega
    intro v' w1 ho hg _
    have HM : Hid (Mk w w1 v' l) := ⟨ho, below_app ((Ext.refl w).alloc _) hg (by simp) (fun k hk => slice_own hk)⟩
    clear ho hg
    go_wp2_with fail
    go_ret
    exact ⟨_, rfl, HM.out⟩

set_option maxRecDepth 100000 in
theorem cloneL_calls {ok : Nat → Prop} {v : Value} {vs : List Value} (w : World) (h : Row w ok 1 v vs.length vs) (h1 : ∀ u ∈ vs, u.oneCell' = true) (hl : vs.length ≤ 100000000000) :
    Calls Try.prog 74 #[v] w fun e w' => ∃ v', e = .returned v' ∧ Ext w w' ∧ OwnL w' w.heap.size v' vs := by
  have H := Lib.hid h
  have H1 := Lib.hid h1; clear h1
  have hnil := nilEq 22 24 Try.underlying22
  obtain ⟨A, c, rfl, hc, hr⟩ := h
  rcases A with _ | a
  · have hl0 : vs = [] := by
      rcases Nat.eq_zero_or_pos vs.length with h | h
      · exact List.eq_nil_of_length_eq_zero h
      · obtain ⟨b, off, e, _⟩ := hr.2 h
        cases e
    subst hl0
    clear hr
    go_enter Try.func74, Try.ntmps74
    go_wp2_with fail
    go_ret
    exact ⟨_, rfl, Ext.refl _, World.ownsRow_nil _ _ _ _⟩
  · clear hr
    have hx := Ext.refl w
    go_enter Try.func74, Try.ntmps74
    go_wp2_with (at_builtin; refine wpList_append_intss (ok := ok) rfl _ _ _ rfl w.heap.size [] vs _ _ rfl rfl (own_emptyL w w.heap.size (Nat.le_refl _)) (H.out.below ((Ext.refl w).alloc _)) H1.out ?d1 ?d2 ?_)
    case d1 => simp
    case d2 => simp; omega
    intro v' w1 ho hg _
    have hE : Ext w w1 := below_app ((Ext.refl w).alloc _) hg (by simp) (fun k hk => slice_own hk)
    have HO := Lib.hid ho
    clear ho hg
    go_wp2_with fail
    go_ret
    exact ⟨_, rfl, hE, HO.out⟩

/-- The paths of the state without choices. -/
def ps0 (m : MZ) : List (List Int) := if m.tasks.length = 0 then [] else [[]]
theorem Blk.set {w : World} {g k : Nat} {t : TypeId} {cs : Array Value} (h : Blk w g t cs) (v : Value) : Blk (w.setCell ⟨g, k, none⟩ v) g t (cs.setIfInBounds k v) := by
  unfold Blk at h ⊢
  simp [World.setCell, Array.getElem?_modify, h]
theorem Blk.setOther {w : World} {g : Nat} {t : TypeId} {cs : Array Value} (h : Blk w g t cs) {a : Addr} (ha : g ≠ a.block) (v : Value) : Blk (w.setCell a v) g t cs :=
  (Below.heap_setCell w a v g ha).trans h
theorem Blk.ext {w w' : World} {g : Nat} {t : TypeId} {cs : Array Value} (h : Blk w g t cs) (hb : Ext w w') : Blk w' g t cs := (hb.block g (lt_of_some h)).trans h
theorem Blk.cell {w : World} {g k : Nat} {t : TypeId} {cs : Array Value} {v : Value} (h : Blk w g t cs) (hk : cs[k]? = some v) : w.cell? ⟨g, k, none⟩ = some v := by
  unfold Blk at h
  unfold World.cell?
  simp only [h]
  exact hk
theorem Blk.frozen {w : World} {g : Nat} {t : TypeId} {cs : Array Value} (h : Blk w g t cs) (k : Nat) : w.frozen? ⟨g, k, none⟩ = false := by
  unfold Blk at h
  unfold World.frozen?
  simp [h]
theorem Blk.new (w : World) (cs : Array Value) (t : TypeId) {g : Nat} (hg : g = w.heap.size) : Blk (w.alloc (.cells cs t)) g t cs := by
  subst hg
  exact heap_alloc_new _ _
theorem StAt.make {ok ok' : Nat → Prop} {w W : World} {g gu : Nat} {m : MZ} {ch us : List Int} {ps : List (List Int)} {f u t vc vp : Value} (hE : Ext w W) (hm : MazeV w ok (.agg #[.int .i64 m.w, .int .i64 m.h, .int .i64 m.l, f, u, t]) m)
    (hk : ∀ b, ok b → ok' b) (hb : Blk W g 91 (stCells m f u t vc vp gu)) (hg : ok' g) (hch : Ints W ok' vc ch) (hps : Intss W ok' vp ps) (hgu : ok' gu) (hus : SetIs W gu us) : StAt W ok' g m ch ps us f u t vc vp gu :=
  ⟨hb, hg, (hm.below hE).weaken hk, hch, hps, hgu, hus⟩
theorem Intss.nil (w : World) (ok : Nat → Prop) : Intss w ok (.slice none 0 0) [] := ⟨[], ⟨none, 0, rfl, Nat.le_refl _, RowA.nil _ _ _ _⟩, by simp⟩
theorem RowA.block {w : World} {ok : Nat → Prop} {g : Nat} {t : TypeId} {cs : Array Value} (h : Blk w g t cs) (hg : ok g) {n : Nat} (hn : cs.size = n) : RowA w ok 1 (some ⟨g, 0, none⟩) n cs.toList :=
  ⟨by simp [hn], fun _ => ⟨g, 0, rfl, hg, fun j u hu => by rw [Nat.zero_add]; exact h.cell (by simpa using hu)⟩⟩

set_option maxHeartbeats 1000000 in
set_option maxRecDepth 100000 in
theorem begin_calls {ok : Nat → Prop} {v : Value} {m : MZ} (w : World) (hm : MazeV w ok v m) (hl : m.tasks.length ≤ 100000) :
    Calls Try.prog 66 #[v] w fun e w' => ∃ v', e = .returned v' ∧ Ext w w' ∧ StateV w' (fun b => ok b ∨ w.heap.size ≤ b) v' m [] (ps0 m) [] := by
  have hmz := hm
  obtain ⟨vfr, vup, vts, rfl, _, _, hts⟩ := hm
  obtain ⟨vst, ⟨At, ct, rfl, hct, _⟩, _⟩ := hts
  have hmm := @run_makeMap Try.prog
  by_cases h0 : m.tasks.length = 0
  · have hps0 : ps0 m = [] := by unfold ps0; rw [if_pos h0]
    rw [h0] at hmz
    have HMZ := Lib.hid hmz; clear hmz
    have HP := Lib.hid hps0; clear hps0
    go_enter Try.func66, Try.ntmps66
    go_wp2_with fail
    go_ret
    rw [HP.out]
    have hE1 : Ext w (w.alloc (.cells #[.int .i64 m.w, .int .i64 m.h, .int .i64 m.l, vfr, vup, .slice At 0 ct] 31)) := (Ext.refl w).alloc _
    refine ⟨_, rfl, (hE1.alloc _).alloc _, w.heap.size + 2, _, _, _, _, _, w.heap.size + 1, rfl, StAt.make ((hE1.alloc _).alloc _) HMZ.out (fun _ h => .inl h) (Blk.new _ _ _ (by simp)) (.inr (by omega)) (Ints.nil _ _) (Intss.nil _ _) (.inr (by omega)) ?_⟩
    have h1 : SetIs ((w.alloc (.cells #[.int .i64 m.w, .int .i64 m.h, .int .i64 m.l, vfr, vup, .slice At 0 ct] 31)).alloc (.map #[] 0)) (w.heap.size + 1) [] := by
      have := SetIs.new (w.alloc (.cells #[.int .i64 m.w, .int .i64 m.h, .int .i64 m.l, vfr, vup, .slice At 0 ct] 31))
      simpa using this
    exact h1.below ((Ext.refl _).alloc _)
  · have hps0 : ps0 m = [[]] := by unfold ps0; rw [if_neg h0]
    have HMZ := Lib.hid hmz; clear hmz
    have HP := Lib.hid hps0; clear hps0
    go_enter Try.func66, Try.ntmps66
    go_wp2_with fail
    go_ret
    rw [HP.out]
    generalize hw1 : w.alloc (.cells #[.int .i64 m.w, .int .i64 m.h, .int .i64 m.l, vfr, vup, .slice At m.tasks.length ct] 31) = w1
    have hE1 : Ext w w1 := by rw [← hw1]; exact (Ext.refl w).alloc _
    have hz1 : w1.heap.size = w.heap.size + 1 := by rw [← hw1]; simp
    have h1 : SetIs (w1.alloc (.map #[] 0)) (w.heap.size + 1) [] := by rw [← hz1]; exact SetIs.new w1
    have hEa : Ext w (w1.alloc (.map #[] 0)) := hE1.alloc _
    generalize hw2 : w1.alloc (.map #[] 0) = w2 at *
    have hz2 : w2.heap.size = w.heap.size + 2 := by rw [← hw2]; simp [hz1]
    generalize hw3 : w2.alloc (.cells #[.int .i64 m.w, .int .i64 m.h, .int .i64 m.l, vfr, vup, .slice At m.tasks.length ct, .slice none 0 0, .slice (some ⟨w.heap.size + 1 + 1 + 1, 0, none⟩) 1 1, .map (some (w.heap.size + 1))] 91) = w3
    have hb3 : Blk w3 (w.heap.size + 2) 91 (stCells m vfr vup (.slice At m.tasks.length ct) (.slice none 0 0) (.slice (some ⟨w.heap.size + 3, 0, none⟩) 1 1) (w.heap.size + 1)) := by rw [← hw3]; exact Blk.new _ _ _ (by omega)
    have hz3 : w3.heap.size = w.heap.size + 3 := by rw [← hw3]; simp [hz2]
    have hE3 : Ext w2 w3 := by rw [← hw3]; exact (Ext.refl _).alloc _
    have hE4 := hE3.alloc (.cells #[.slice none 0 0] 24)
    have hE5 := hEa.trans hE4
    have hb4 := hb3.alloc (.cells #[.slice none 0 0] 24)
    have hb5 : Blk (w3.alloc (.cells #[.slice none 0 0] 24)) (w.heap.size + 3) 24 #[.slice none 0 0] := Blk.new _ _ _ (by omega)
    refine ⟨_, rfl, hE5, w.heap.size + 2, _, _, _, _, _, w.heap.size + 1, rfl, StAt.make hE5 HMZ.out (fun _ h => .inl h) hb4 (.inr (by omega)) (Ints.nil _ _) ?_ (.inr (by omega)) (h1.below hE4)⟩
    · exact ⟨[.slice none 0 0], ⟨some ⟨w.heap.size + 3, 0, none⟩, 1, rfl, Nat.le_refl _, RowA.block hb5 (.inr (by omega)) rfl⟩, fun i x hx => by
        match i, hx with
        | 0, hx =>
          have : x = [] := by simpa using hx.symm
          subst this
          exact ⟨_, rfl, Ints.nil _ _⟩⟩
end Go.Proofs.Ytgpjfpcjiebjiaa
