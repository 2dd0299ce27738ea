/- Words for Made: the row of vertical ways; the maze that was made. -/
import Derived.Test.YtgpjfpcjiebjiaaRtMw
import Derived.StillTailTactics
namespace Go.Proofs.Ytgpjfpcjiebjiaa
open Go.RowKit
set_option linter.unusedVariables false
set_option linter.unusedSimpArgs false

/-- What is known of a made maze. -/
structure MadeM (m : MZ) : Prop where
  good : Good m
  w : 2 ≤ m.w ∧ m.w ≤ 4
  h : 1 ≤ m.h ∧ m.h ≤ 4
  l : 1 ≤ m.l ∧ m.l ≤ 2
  n : 2 ≤ m.n ∧ m.n ≤ 16
  tk : 1 ≤ m.tasks.length ∧ m.tasks.length ≤ 3
  te : ∀ t ∈ m.tasks, (t.1 ≠ [] ∧ t.2 ≠ []) ∧ t.1.length ≤ 2 ∧ t.2.length ≤ 2
  lens : Lens m
theorem dims {W H L : Int} (hW : 2 ≤ W ∧ W ≤ 4) (hH : 1 ≤ H ∧ H ≤ 4) (hL : L = 1 ∨ (L = 2 ∧ W ≤ 3 ∧ H ≤ 2)) : 2 ≤ W * H ∧ W * H ≤ 16 ∧ 2 ≤ W * H * L ∧ W * H * L ≤ 16 := by
  have h1 : W = 2 ∨ W = 3 ∨ W = 4 := by omega
  have h2 : H = 1 ∨ H = 2 ∨ H = 3 ∨ H = 4 := by omega
  rcases h1 with rfl | rfl | rfl <;> rcases h2 with rfl | rfl | rfl | rfl <;> rcases hL with rfl | ⟨rfl, h3, h4⟩ <;> omega


theorem chooseL {β : Type} {p : Nat → β → Prop} : ∀ (n : Nat), (∀ i, i < n → ∃ b, p i b) → ∃ l : List β, l.length = n ∧ ∀ i b, l[i]? = some b → p i b
  | 0, _ => ⟨[], rfl, fun i b h => by simp at h⟩
  | n + 1, h => by
    obtain ⟨l, hl, h1⟩ := chooseL n (fun i hi => h i (by omega))
    obtain ⟨b, hb⟩ := h n (by omega)
    refine ⟨l ++ [b], by simp [hl], fun i x hx => ?_⟩
    rcases Nat.lt_or_ge i l.length with hi | hi
    · rw [List.getElem?_append_left hi] at hx; exact h1 i x hx
    · have hi2 : i = l.length := by
        rcases Nat.lt_or_ge i (l ++ [b]).length with h2 | h2
        · simp at h2; omega
        · rw [List.getElem?_eq_none h2] at hx; cases hx
      subst hi2
      rw [List.getElem?_append_right (Nat.le_refl _), Nat.sub_self] at hx
      have : b = x := by simpa using hx
      subst this
      rw [hl]; exact hb
/-- The row of vertical ways while it is made. -/
structure RU (w1 : World) (B : Nat) (w : World) (S gm gd : Nat) (W H L : Int) (n tF tT : Nat) (vF vU vT : Value) (fs ts : List Value) (us : List Bool) : Prop where
  hB : B = w1.heap.size
  hBS : B ≤ S
  ms : MS B w S gm gd W H L n tF tT vF vU vT fs ts
  ow : OwnB w S vU us
  ex : Ext w1 w
section
variable {w1 w w' : World} {B S gm gd : Nat} {W H L : Int} {n tF tT : Nat} {vF vU vU' vT : Value} {fs ts : List Value} {us : List Bool}
theorem RU.ext (h : RU w1 B w S gm gd W H L n tF tT vF vU vT fs ts us) (hE : Ext w w') : RU w1 B w' S gm gd W H L n tF tT vF vU vT fs ts us :=
  ⟨h.hB, h.hBS, h.ms.extS hE, own_keep h.ow fun g hg => hE.block g (World.ownsRow.lt h.ow g hg).2, h.ex.trans hE⟩
theorem RU.drawn (h : RU w1 B w S gm gd W H L n tF tT vF vU vT fs ts us) (hd : DrawAt B w' gd) (hg : w.grownBy w' (some gd)) : RU w1 B w' S gm gd W H L n tF tT vF vU vT fs ts us := by
  obtain ⟨cs, hb⟩ := h.ms.dr.blk
  refine ⟨h.hB, h.hBS, h.ms.drawn hd hg, own_keep h.ow fun g hg' => hg.block g (World.ownsRow.lt h.ow g hg').2 (fun e => ?_), Below.grown h.ex hg h.ex.size (fun k hk => by injection hk with hk; have := h.ms.dr.1; have := h.hB; omega)⟩
  injection e with e
  exact own_blk_ne h.ow hb (by decide) (hg'.trans (congrArg some e))
theorem RU.add (h : RU w1 B w S gm gd W H L n tF tT vF vU vT fs ts us) {x : Bool} {w5 : World} {o : Obj} (ho : w5.ownsRow S 4 1 vU' (us.length + 1) (us.map Value.bool ++ [.bool x])) (hg : (w.alloc o).grownBy w5 vU.ownBlock) :
    RU w1 B (w5.setCell ⟨gm, 4, none⟩ vU') S gm gd W H L n tF tT vF vU' vT fs ts (us ++ [x]) := by
  obtain ⟨h1, h2, h3⟩ := h.ms.addU h.hBS h.ow ho hg
  exact ⟨h.hB, h.hBS, h1, h2, Below.trans h.ex (h.hB ▸ h3)⟩
/-- The maze that was made. -/
theorem RU.maze {t : Nat} (h : RU w1 B w S gm gd W H L n t t vF vU vT fs ts us) (hW : 2 ≤ W ∧ W ≤ 4) (hH : 1 ≤ H ∧ H ≤ 4) (hL : L = 1 ∨ (L = 2 ∧ W ≤ 3 ∧ H ≤ 2)) (hn : (n : Int) = W * H * L) (ht : 1 ≤ t ∧ t ≤ 3) (hu : us.length = n) :
    ∃ m, MazeV w (fun b => B ≤ b) (.agg #[.int .i64 W, .int .i64 H, .int .i64 L, vF, vU, vT]) m ∧ MadeM m := by
  obtain ⟨d1, d2, d3, d4⟩ := dims hW hH hL
  obtain ⟨fr, hfl, hfp⟩ := chooseL (p := fun j (l : List Bool) => ∃ u, fs[j]? = some u ∧ Bools w (fun b => B ≤ b) u l ∧ l.length = n) t (fun j hj => by
    obtain ⟨u, h1, l, h2, h3, _⟩ := h.ms.fd j hj
    exact ⟨l, u, h1, h2.bools, h3⟩)
  obtain ⟨tk, htl, htp⟩ := chooseL (p := fun j (l : List Int × List Int) => ∃ s u1 u2, ts[j * 3]? = some (.string s) ∧ ts[j * 3 + 1]? = some u1 ∧ ts[j * 3 + 2]? = some u2 ∧ Ints w (fun b => B ≤ b) u1 l.1 ∧ Ints w (fun b => B ≤ b) u2 l.2 ∧ (l.1 ≠ [] ∧ l.2 ≠ []) ∧ (l.1.length ≤ 2 ∧ l.2.length ≤ 2) ∧ (∀ x, x ∈ l.1 ∨ x ∈ l.2 → 0 ≤ x ∧ x < (n : Int))) t (fun j hj => by
    obtain ⟨s, u1, u2, h1, h2, h3, l1, l2, h4, h5, h6, h7, h8, _⟩ := h.ms.td j hj
    exact ⟨(l1, l2), s, u1, u2, h1, h2, h3, Row.of_own h4, Row.of_own h5, h6, h7, h8⟩)
  have hte : ∀ x ∈ tk, ∃ j, tk[j]? = some x := fun x hx => by
    obtain ⟨j, hj, rfl⟩ := List.getElem_of_mem hx
    exact ⟨j, List.getElem?_eq_getElem hj⟩
  have hg : Good ⟨W, H, L, fr, us, tk⟩ := by
    refine ⟨⟨by show 1 ≤ W; omega, by show W ≤ 300; omega, by show 1 ≤ H; omega, by show H ≤ 300; omega, by show 1 ≤ L; omega, by show L ≤ 300; omega, by show W * H * L ≤ 300; omega, ?_⟩, ?_, ?_, ?_, ?_⟩
    · show (us.length : Int) = W * H * L
      rw [hu, hn]
    · show fr.length = tk.length
      omega
    · intro f hf
      obtain ⟨j, hj, rfl⟩ := List.getElem_of_mem hf
      obtain ⟨u, _, _, h3⟩ := hfp j _ (List.getElem?_eq_getElem hj)
      show ((fr[j]).length : Int) = W * H * L
      rw [h3, hn]
    · show tk.length ≤ 6
      omega
    · intro x hx y hy
      obtain ⟨j, hj⟩ := hte x hx
      obtain ⟨s, u1, u2, h1, h2, h3, h4, h5, h6, h7, h8⟩ := htp j x hj
      have := h8 y hy
      show 0 ≤ y ∧ y < W * H * L
      rw [← hn]; exact this
  refine ⟨⟨W, H, L, fr, us, tk⟩, ⟨vF, vU, vT, rfl, ?_, ?_, ?_⟩, ⟨hg, hW, hH, by show 1 ≤ L ∧ L ≤ 2; omega, by show 2 ≤ W * H * L ∧ W * H * L ≤ 16; omega, by show 1 ≤ tk.length ∧ tk.length ≤ 3; omega, fun x hx => ?_, ⟨by show fr.length ≤ _; omega, by show us.length ≤ _; omega, by show tk.length ≤ _; omega, fun x hx => ?_⟩⟩⟩
  · refine ⟨fs, by show Row w _ 1 vF fr.length fs; rw [hfl]; exact Row.of_own h.ms.F, fun i x hx => ?_⟩
    obtain ⟨u, h1, h2, _⟩ := hfp i x hx
    exact ⟨u, h1, h2⟩
  · exact (OwnB.bools h.ow).weaken fun b hb => Nat.le_trans h.hBS hb
  · refine ⟨ts, by show Row w _ 3 vT tk.length ts; rw [htl]; exact Row.of_own h.ms.T, fun i x hx => ?_⟩
    obtain ⟨s, u1, u2, h1, h2, h3, h4, h5, _⟩ := htp i x hx
    exact ⟨s, u1, u2, h1, h2, h3, h4, h5⟩
  · obtain ⟨j, hj⟩ := hte x hx
    obtain ⟨s, u1, u2, h1, h2, h3, h4, h5, h6, h7, h8⟩ := htp j x hj
    exact ⟨h6, h7⟩
  · obtain ⟨j, hj⟩ := hte x hx
    obtain ⟨s, u1, u2, h1, h2, h3, h4, h5, h6, h7, h8⟩ := htp j x hj
    exact ⟨by omega, by omega⟩
end
theorem case_fin {P : World → Prop} {W : World} {g2 : Nat} {t : TypeId} {a b c d e f z0 z1 z2 z3 z4 z5 : Value} (h : ∀ WZ, Blk WZ g2 t #[a, b, c, d, e, f] → Below g2 W WZ → (∀ k, k < W.heap.size → k ≠ g2 → WZ.heap[k]? = W.heap[k]?) → P WZ) (hb : Blk W g2 t #[z0, z1, z2, z3, z4, z5]) :
    P ((((((W.setCell ⟨g2, 0, none⟩ a).setCell ⟨g2, 1, none⟩ b).setCell ⟨g2, 2, none⟩ c).setCell ⟨g2, 3, none⟩ d).setCell ⟨g2, 4, none⟩ e).setCell ⟨g2, 5, none⟩ f) := by
  refine h _ ?_ ((((((Below.refl g2 W).setCell (p := ⟨g2, 0, none⟩) (Nat.le_refl _) _).setCell (p := ⟨g2, 1, none⟩) (Nat.le_refl _) _).setCell (p := ⟨g2, 2, none⟩) (Nat.le_refl _) _).setCell (p := ⟨g2, 3, none⟩) (Nat.le_refl _) _).setCell (p := ⟨g2, 4, none⟩) (Nat.le_refl _) _ |>.setCell (p := ⟨g2, 5, none⟩) (Nat.le_refl _) _) (fun k _ hne => ?_)
  · have h6 := (((((hb.set (k := 0) a).set (k := 1) b).set (k := 2) c).set (k := 3) d).set (k := 4) e).set (k := 5) f
    exact h6
  · exact (Below.heap_setCell _ ⟨g2, 5, none⟩ _ k hne).trans ((Below.heap_setCell _ ⟨g2, 4, none⟩ _ k hne).trans ((Below.heap_setCell _ ⟨g2, 3, none⟩ _ k hne).trans ((Below.heap_setCell _ ⟨g2, 2, none⟩ _ k hne).trans ((Below.heap_setCell _ ⟨g2, 1, none⟩ _ k hne).trans (Below.heap_setCell _ ⟨g2, 0, none⟩ _ k hne)))))
theorem wpStill_skip {P : Program} {ops : Array Oper} {w : World} {Q : Act → Prop} {o : Oper} {rest : List Oper} {a : Act} (h : Region.wanted o (yielded ops a.tmps) = false) (hk : wpStill P ops w Q rest (a.put o.dst undef)) : wpStill P ops w Q (o :: rest) a := by
  unfold wpStill
  rw [if_neg (by rw [h]; simp)]
  exact hk
/-- All blocks but those of booleans are as they were. -/
def SB (w W : World) : Prop := ∀ g ty cs, Blk w g ty cs → ty ≠ 4 → W.heap[g]? = w.heap[g]?
theorem SB.rule {w : World} {g k : Nat} {ty : TypeId} {cs : Array Value} {v : Value} (hb : Blk w g ty cs) (hty : ty ≠ 4) (hc : w.cell? ⟨g, k, none⟩ = some v) : ∀ W, SB w W → W.cell? ⟨g, k, none⟩ = some v :=
  fun W h => (World.cell?_of_block (a := ⟨g, k, none⟩) (h g ty cs hb hty)).trans hc
theorem SB.set {w W : World} {g k : Nat} {cs : Array Value} (h : SB w W) (hb : Blk w g 4 cs) (x : Value) : SB w (W.setCell ⟨g, k, none⟩ x) :=
  fun g' ty' cs' hb' hty => (Below.heap_setCell W ⟨g, k, none⟩ x g' (Blk.ne_ hb' hb hty)).trans (h g' ty' cs' hb' hty)
theorem SB.drew (w : World) : SB w w.drew := fun _ _ _ _ _ => rfl
def MadePost (w : World) (e : Ending) (w' : World) : Prop := ∃ v' m, e = .returned v' ∧ Ext w w' ∧ MazeV w' (fun b => w.heap.size ≤ b) v' m ∧ MadeM m
end Go.Proofs.Ytgpjfpcjiebjiaa
