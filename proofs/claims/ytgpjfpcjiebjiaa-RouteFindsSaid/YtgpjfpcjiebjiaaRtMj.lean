/- What the statement that makes a task has made, as far as it has come. -/
import Derived.Test.YtgpjfpcjiebjiaaRtMw
import Derived.Test.YtgpjfpcjiebjiaaRtU
namespace Go.Proofs.Ytgpjfpcjiebjiaa
open Go.RowKit
set_option linter.unusedVariables false
set_option linter.unusedSimpArgs false

structure J6 (B : Nat) (w0 : World) (ge n t : Nat) (e : Nat → Bool) (v : Nat → Value) (W : World) : Prop where
  gb : w0.grownBy W (some ge)
  dr : DrawAt B W ge
  v0 : e 0 = true → ∃ g a b c, v 0 = .slice (some ⟨g, 0, none⟩) 3 3 ∧ w0.heap.size ≤ g ∧ Blk W g 9 #[.string a, .string b, .string c]
  v1 : e 1 = true → v 1 = .int .i64 (t : Int)
  v2 : e 2 = true → ∃ g a b c, v 2 = .pointer (some ⟨g, t, none⟩) ∧ w0.heap.size ≤ g ∧ Blk W g 9 #[.string a, .string b, .string c]
  v3 : e 3 = true → ∃ s, v 3 = .string s
  v4 : e 4 = true → v 4 = .pointer (some ⟨ge, 0, none⟩)
  v5 : e 5 = true → v 5 = .int .i64 (n : Int)
  v6 : e 6 = true → ∃ x, v 6 = .int .i64 x ∧ 0 ≤ x ∧ x < (n : Int)
  v7 : e 7 = true → ∃ g x, v 7 = .slice (some ⟨g, 0, none⟩) 1 1 ∧ w0.heap.size ≤ g ∧ Blk W g 3 #[.int .i64 x] ∧ 0 ≤ x ∧ x < (n : Int)
  v8 : e 8 = true → v 8 = .pointer (some ⟨ge, 0, none⟩)
  v9 : e 9 = true → v 9 = .int .i64 (n : Int)
  v10 : e 10 = true → ∃ x, v 10 = .int .i64 x ∧ 0 ≤ x ∧ x < (n : Int)
  v11 : e 11 = true → ∃ g x, v 11 = .slice (some ⟨g, 0, none⟩) 1 1 ∧ w0.heap.size ≤ g ∧ Blk W g 3 #[.int .i64 x] ∧ 0 ≤ x ∧ x < (n : Int)
  ne : e 7 = true → e 11 = true → (v 7).ownBlock ≠ (v 11).ownBlock
  v12 : e 12 = true → v 12 = .agg #[v 3, v 7, v 11] ∧ e 3 = true ∧ e 7 = true ∧ e 11 = true
  v13 : e 13 = true → ∃ g, v 13 = .pointer (some ⟨g, 0, none⟩) ∧ w0.heap.size ≤ g ∧ (e 14 = false → Blk W g 75 #[.string ⟨#[]⟩, .slice none 0 0, .slice none 0 0]) ∧ (e 14 = true → Blk W g 75 #[v 3, v 7, v 11])
  d14 : e 14 = true → e 12 = true ∧ e 13 = true
section
variable {B : Nat} {w0 W W' : World} {ge n t : Nat} {e : Nat → Bool} {v : Nat → Value}
theorem J6.init (hd : DrawAt B w0 ge) (he : ∀ j ∈ [0, 1, 2, 3, 4, 5, 6, 7, 8, 9, 10, 11, 12, 13, 14], e j = false) : J6 B w0 ge n t e v w0.drew :=
  ⟨⟨rfl, rfl, rfl, Nat.le_refl _, fun _ _ _ => rfl⟩, hd, fun a => ff (he 0 (by simp)) a, fun a => ff (he 1 (by simp)) a, fun a => ff (he 2 (by simp)) a, fun a => ff (he 3 (by simp)) a, fun a => ff (he 4 (by simp)) a, fun a => ff (he 5 (by simp)) a, fun a => ff (he 6 (by simp)) a, fun a => ff (he 7 (by simp)) a, fun a => ff (he 8 (by simp)) a, fun a => ff (he 9 (by simp)) a, fun a => ff (he 10 (by simp)) a, fun a => ff (he 11 (by simp)) a, fun a => ff (he 7 (by simp)) a, fun a => ff (he 12 (by simp)) a, fun a => ff (he 13 (by simp)) a, fun a => ff (he 14 (by simp)) a⟩
theorem J6.move (h : J6 B w0 ge n t e v W) (gb : W.grownBy W' (some ge)) (dr : DrawAt B W' ge) (hk : ∀ g ty cs, w0.heap.size ≤ g → Blk W g ty cs → Blk W' g ty cs) : J6 B w0 ge n t e v W' :=
  ⟨h.gb.trans gb, dr, fun a => let ⟨g, x, y, z, h1, h2, h3⟩ := h.v0 a; ⟨g, x, y, z, h1, h2, hk _ _ _ h2 h3⟩, h.v1, fun a => let ⟨g, x, y, z, h1, h2, h3⟩ := h.v2 a; ⟨g, x, y, z, h1, h2, hk _ _ _ h2 h3⟩, h.v3, h.v4, h.v5, h.v6,
    fun a => let ⟨g, x, h1, h2, h3, h4⟩ := h.v7 a; ⟨g, x, h1, h2, hk _ _ _ h2 h3, h4⟩, h.v8, h.v9, h.v10, fun a => let ⟨g, x, h1, h2, h3, h4⟩ := h.v11 a; ⟨g, x, h1, h2, hk _ _ _ h2 h3, h4⟩, h.ne, h.v12,
    fun a => let ⟨g, h1, h2, h3, h4⟩ := h.v13 a; ⟨g, h1, h2, fun b => hk _ _ _ h2 (h3 b), fun b => hk _ _ _ h2 (h4 b)⟩, h.d14⟩
theorem J6.hge (h : J6 B w0 ge n t e v W) (hl : ge < w0.heap.size) : w0.heap.size ≤ W.heap.size := h.gb.size
theorem J6.alloc (h : J6 B w0 ge n t e v W) (hB : B ≤ w0.heap.size) (o : Obj) : J6 B w0 ge n t e v (W.alloc o) :=
  h.move ⟨rfl, rfl, rfl, by simp, fun i hi _ => Below.heap_alloc _ _ _ hi⟩ (h.dr.ext ((Ext.refl _).alloc _) (Nat.le_trans hB h.gb.size)) (fun g ty cs _ hb => hb.alloc o)
theorem J6.call (h : J6 B w0 ge n t e v W) (hl : ge < w0.heap.size) (gb : W.grownBy W' (some ge)) (dr : DrawAt B W' ge) : J6 B w0 ge n t e v W' :=
  h.move gb dr (fun g ty cs hg hb => (gb.block g (lt_of_some hb) (fun e => by injection e with e; omega)).trans hb)
theorem J6.n12 (h : J6 B w0 ge n t e v W) (h12 : e 12 = false) : e 14 = false := notT (fun a => (h.d14 a).1) h12
theorem J6.n13 (h : J6 B w0 ge n t e v W) (h13 : e 13 = false) : e 14 = false := notT (fun a => (h.d14 a).2) h13
theorem J6.n3 (h : J6 B w0 ge n t e v W) (h3 : e 3 = false) : e 12 = false := notT (fun a => (h.v12 a).2.1) h3
theorem J6.n7 (h : J6 B w0 ge n t e v W) (h3 : e 7 = false) : e 12 = false := notT (fun a => (h.v12 a).2.2.1) h3
theorem J6.n11 (h : J6 B w0 ge n t e v W) (h3 : e 11 = false) : e 12 = false := notT (fun a => (h.v12 a).2.2.2) h3
theorem J6.s0 (h : J6 B w0 ge n t e v W) (hB : B ≤ w0.heap.size) (a b c : ByteArray) : J6 B w0 ge n t (upd e 0 true) (upd v 0 (.slice (some ⟨W.heap.size, 0, none⟩) 3 3)) (W.alloc (.cells #[.string a, .string b, .string c] 9)) :=
  let k := h.alloc hB (.cells #[.string a, .string b, .string c] 9)
  ⟨k.gb, k.dr, fun _ => ⟨_, a, b, c, rfl, h.gb.size, Blk.new _ _ _ rfl⟩, k.v1, k.v2, k.v3, k.v4, k.v5, k.v6, k.v7, k.v8, k.v9, k.v10, k.v11, k.ne, k.v12, k.v13, k.d14⟩
theorem J6.s1 (h : J6 B w0 ge n t e v W) : J6 B w0 ge n t (upd e 1 true) (upd v 1 (.int .i64 (t : Int))) W :=
  ⟨h.gb, h.dr, h.v0, fun _ => rfl, h.v2, h.v3, h.v4, h.v5, h.v6, h.v7, h.v8, h.v9, h.v10, h.v11, h.ne, h.v12, h.v13, h.d14⟩
theorem J6.s2 (h : J6 B w0 ge n t e v W) {g : Nat} {a b c : ByteArray} (hg : w0.heap.size ≤ g) (hb : Blk W g 9 #[.string a, .string b, .string c]) : J6 B w0 ge n t (upd e 2 true) (upd v 2 (.pointer (some ⟨g, t, none⟩))) W :=
  ⟨h.gb, h.dr, h.v0, h.v1, fun _ => ⟨g, a, b, c, rfl, hg, hb⟩, h.v3, h.v4, h.v5, h.v6, h.v7, h.v8, h.v9, h.v10, h.v11, h.ne, h.v12, h.v13, h.d14⟩
theorem J6.s3 (h : J6 B w0 ge n t e v W) (h3 : e 3 = false) (s : ByteArray) : J6 B w0 ge n t (upd e 3 true) (upd v 3 (.string s)) W :=
  ⟨h.gb, h.dr, h.v0, h.v1, h.v2, fun _ => ⟨s, rfl⟩, h.v4, h.v5, h.v6, h.v7, h.v8, h.v9, h.v10, h.v11, h.ne, fun a => ff (b := e 12) (h.n3 h3) a, fun a => let ⟨g, h1, h2, h3', h4⟩ := h.v13 a; ⟨g, h1, h2, h3', fun b => ff (b := e 14) (h.n12 (h.n3 h3)) b⟩, h.d14⟩
theorem J6.s4 (h : J6 B w0 ge n t e v W) : J6 B w0 ge n t (upd e 4 true) (upd v 4 (.pointer (some ⟨ge, 0, none⟩))) W :=
  ⟨h.gb, h.dr, h.v0, h.v1, h.v2, h.v3, fun _ => rfl, h.v5, h.v6, h.v7, h.v8, h.v9, h.v10, h.v11, h.ne, h.v12, h.v13, h.d14⟩
theorem J6.s5 (h : J6 B w0 ge n t e v W) : J6 B w0 ge n t (upd e 5 true) (upd v 5 (.int .i64 (n : Int))) W :=
  ⟨h.gb, h.dr, h.v0, h.v1, h.v2, h.v3, h.v4, fun _ => rfl, h.v6, h.v7, h.v8, h.v9, h.v10, h.v11, h.ne, h.v12, h.v13, h.d14⟩
theorem J6.s6 (h : J6 B w0 ge n t e v W) (hl : ge < w0.heap.size) (gb : W.grownBy W' (some ge)) (dr : DrawAt B W' ge) {x : Int} (hx : 0 ≤ x) (hx2 : x < (n : Int)) : J6 B w0 ge n t (upd e 6 true) (upd v 6 (.int .i64 x)) W' :=
  let k := h.call hl gb dr
  ⟨k.gb, k.dr, k.v0, k.v1, k.v2, k.v3, k.v4, k.v5, fun _ => ⟨x, rfl, hx, hx2⟩, k.v7, k.v8, k.v9, k.v10, k.v11, k.ne, k.v12, k.v13, k.d14⟩
theorem J6.s7 (h : J6 B w0 ge n t e v W) (hB : B ≤ w0.heap.size) (h7 : e 7 = false) {x : Int} (hx : 0 ≤ x) (hx2 : x < (n : Int)) : J6 B w0 ge n t (upd e 7 true) (upd v 7 (.slice (some ⟨W.heap.size, 0, none⟩) 1 1)) (W.alloc (.cells #[.int .i64 x] 3)) :=
  let k := h.alloc hB (.cells #[.int .i64 x] 3)
  ⟨k.gb, k.dr, k.v0, k.v1, k.v2, k.v3, k.v4, k.v5, k.v6, fun _ => ⟨_, x, rfl, h.gb.size, Blk.new _ _ _ rfl, hx, hx2⟩, k.v8, k.v9, k.v10, k.v11, fun _ b => by
    obtain ⟨g, y, h1, _, h3, _⟩ := h.v11 b
    show (Value.slice (some ⟨W.heap.size, 0, none⟩) 1 1).ownBlock ≠ (v 11).ownBlock
    rw [h1]
    intro e
    have := lt_of_some h3
    have e : some W.heap.size = some g := e
    injection e with e
    omega, fun a => ff (b := e 12) (h.n7 h7) a, fun a => let ⟨g, h1, h2, h3', h4⟩ := k.v13 a; ⟨g, h1, h2, h3', fun b => ff (b := e 14) (h.n12 (h.n7 h7)) b⟩, k.d14⟩
theorem J6.s8 (h : J6 B w0 ge n t e v W) : J6 B w0 ge n t (upd e 8 true) (upd v 8 (.pointer (some ⟨ge, 0, none⟩))) W :=
  ⟨h.gb, h.dr, h.v0, h.v1, h.v2, h.v3, h.v4, h.v5, h.v6, h.v7, fun _ => rfl, h.v9, h.v10, h.v11, h.ne, h.v12, h.v13, h.d14⟩
theorem J6.s9 (h : J6 B w0 ge n t e v W) : J6 B w0 ge n t (upd e 9 true) (upd v 9 (.int .i64 (n : Int))) W :=
  ⟨h.gb, h.dr, h.v0, h.v1, h.v2, h.v3, h.v4, h.v5, h.v6, h.v7, h.v8, fun _ => rfl, h.v10, h.v11, h.ne, h.v12, h.v13, h.d14⟩
theorem J6.s10 (h : J6 B w0 ge n t e v W) (hl : ge < w0.heap.size) (gb : W.grownBy W' (some ge)) (dr : DrawAt B W' ge) {x : Int} (hx : 0 ≤ x) (hx2 : x < (n : Int)) : J6 B w0 ge n t (upd e 10 true) (upd v 10 (.int .i64 x)) W' :=
  let k := h.call hl gb dr
  ⟨k.gb, k.dr, k.v0, k.v1, k.v2, k.v3, k.v4, k.v5, k.v6, k.v7, k.v8, k.v9, fun _ => ⟨x, rfl, hx, hx2⟩, k.v11, k.ne, k.v12, k.v13, k.d14⟩
theorem J6.s11 (h : J6 B w0 ge n t e v W) (hB : B ≤ w0.heap.size) (h7 : e 11 = false) {x : Int} (hx : 0 ≤ x) (hx2 : x < (n : Int)) : J6 B w0 ge n t (upd e 11 true) (upd v 11 (.slice (some ⟨W.heap.size, 0, none⟩) 1 1)) (W.alloc (.cells #[.int .i64 x] 3)) :=
  let k := h.alloc hB (.cells #[.int .i64 x] 3)
  ⟨k.gb, k.dr, k.v0, k.v1, k.v2, k.v3, k.v4, k.v5, k.v6, k.v7, k.v8, k.v9, k.v10, fun _ => ⟨_, x, rfl, h.gb.size, Blk.new _ _ _ rfl, hx, hx2⟩, fun a _ => by
    obtain ⟨g, y, h1, _, h3, _⟩ := h.v7 a
    show (v 7).ownBlock ≠ (Value.slice (some ⟨W.heap.size, 0, none⟩) 1 1).ownBlock
    rw [h1]
    intro e
    have := lt_of_some h3
    have e : some g = some W.heap.size := e
    injection e with e
    omega, fun a => ff (b := e 12) (h.n11 h7) a, fun a => let ⟨g, h1, h2, h3', h4⟩ := k.v13 a; ⟨g, h1, h2, h3', fun b => ff (b := e 14) (h.n12 (h.n11 h7)) b⟩, k.d14⟩
theorem J6.s12 (h : J6 B w0 ge n t e v W) (h3 : e 3 = true) (h7 : e 7 = true) (h11 : e 11 = true) : J6 B w0 ge n t (upd e 12 true) (upd v 12 (.agg #[v 3, v 7, v 11])) W :=
  ⟨h.gb, h.dr, h.v0, h.v1, h.v2, h.v3, h.v4, h.v5, h.v6, h.v7, h.v8, h.v9, h.v10, h.v11, h.ne, fun _ => ⟨rfl, h3, h7, h11⟩, h.v13, fun a => ⟨rfl, (h.d14 a).2⟩⟩
theorem J6.s13 (h : J6 B w0 ge n t e v W) (hB : B ≤ w0.heap.size) (h13 : e 13 = false) : J6 B w0 ge n t (upd e 13 true) (upd v 13 (.pointer (some ⟨W.heap.size, 0, none⟩))) (W.alloc (.cells #[.string ⟨#[]⟩, .slice none 0 0, .slice none 0 0] 75)) :=
  let k := h.alloc hB (.cells #[.string ⟨#[]⟩, .slice none 0 0, .slice none 0 0] 75)
  ⟨k.gb, k.dr, k.v0, k.v1, k.v2, k.v3, k.v4, k.v5, k.v6, k.v7, k.v8, k.v9, k.v10, k.v11, k.ne, k.v12, fun _ => ⟨_, rfl, h.gb.size, fun _ => Blk.new _ _ _ rfl, fun b => ff (b := e 14) (h.n13 h13) b⟩, fun a => ff (b := e 14) (h.n13 h13) a⟩
theorem J6.s14 (h : J6 B w0 ge n t e v W) (hB : B ≤ w0.heap.size) (h12 : e 12 = true) (h13 : e 13 = true) {g : Nat} {x : Value} (hv : v 13 = .pointer (some ⟨g, 0, none⟩)) (hg : w0.heap.size ≤ g) (hb : Blk W g 75 #[.string ⟨#[]⟩, .slice none 0 0, .slice none 0 0]) (hl : ge < w0.heap.size) :
    J6 B w0 ge n t (upd e 14 true) (upd v 14 x) (((W.setCell ⟨g, 0, none⟩ (v 3)).setCell ⟨g, 1, none⟩ (v 7)).setCell ⟨g, 2, none⟩ (v 11)) := by
  have hne : ∀ g', g' ≠ g → (((W.setCell ⟨g, 0, none⟩ (v 3)).setCell ⟨g, 1, none⟩ (v 7)).setCell ⟨g, 2, none⟩ (v 11)).heap[g']? = W.heap[g']? := fun g' hg' =>
    (Below.heap_setCell _ ⟨g, 2, none⟩ _ g' hg').trans ((Below.heap_setCell _ ⟨g, 1, none⟩ _ g' hg').trans (Below.heap_setCell _ ⟨g, 0, none⟩ _ g' hg'))
  have hk : ∀ g' ty cs, ty ≠ 75 → Blk W g' ty cs → Blk (((W.setCell ⟨g, 0, none⟩ (v 3)).setCell ⟨g, 1, none⟩ (v 7)).setCell ⟨g, 2, none⟩ (v 11)) g' ty cs := fun g' ty cs hty hb' => (hne g' (Blk.ne_ hb' hb hty)).trans hb'
  have hbel : Below B W (((W.setCell ⟨g, 0, none⟩ (v 3)).setCell ⟨g, 1, none⟩ (v 7)).setCell ⟨g, 2, none⟩ (v 11)) := (((Below.refl B W).setCell (p := ⟨g, 0, none⟩) (by show B ≤ g; omega) _).setCell (p := ⟨g, 1, none⟩) (by show B ≤ g; omega) _).setCell (p := ⟨g, 2, none⟩) (by show B ≤ g; omega) _
  refine ⟨⟨h.gb.os, h.gb.tape, h.gb.output, Nat.le_trans h.gb.size hbel.size, fun i hi hne' => (hne i (by omega)).trans (h.gb.block i hi hne')⟩, h.dr.keep hbel (hne ge (by omega)), fun a => ?_, h.v1, fun a => ?_, h.v3, h.v4, h.v5, h.v6, fun a => ?_, h.v8, h.v9, h.v10, fun a => ?_, h.ne, h.v12, fun _ => ⟨g, hv, hg, fun a => (by cases a), fun _ => ?_⟩, fun _ => ⟨h12, h13⟩⟩
  · obtain ⟨g', a1, b1, c1, h1, h2, h3⟩ := h.v0 a
    exact ⟨g', a1, b1, c1, h1, h2, hk _ _ _ (by decide) h3⟩
  · obtain ⟨g', a1, b1, c1, h1, h2, h3⟩ := h.v2 a
    exact ⟨g', a1, b1, c1, h1, h2, hk _ _ _ (by decide) h3⟩
  · obtain ⟨g', x', h1, h2, h3, h4⟩ := h.v7 a
    exact ⟨g', x', h1, h2, hk _ _ _ (by decide) h3, h4⟩
  · obtain ⟨g', x', h1, h2, h3, h4⟩ := h.v11 a
    exact ⟨g', x', h1, h2, hk _ _ _ (by decide) h3, h4⟩
  · exact ((hb.set (k := 0) (v 3)).set (k := 1) (v 7)).set (k := 2) (v 11)
theorem own1 {W : World} {S g : Nat} {x : Int} (hb : Blk W g 3 #[.int .i64 x]) (hg : S ≤ g) : OwnI W S (.slice (some ⟨g, 0, none⟩) 1 1) [x] :=
  ⟨rfl, .inr ⟨g, 1, #[.int .i64 x], rfl, hg, hb, Nat.le_refl _, by unfold maxLen; omega, rfl, rfl⟩⟩
theorem J6.fin {S : Nat} (h : J6 B w0 ge n t (fun _ => true) v W) (hB : B ≤ S) (hS : S ≤ w0.heap.size) (hge : S ≤ ge) : ∃ s g7 g11 gt x1 x2, v 3 = .string s ∧ v 7 = .slice (some ⟨g7, 0, none⟩) 1 1 ∧ v 11 = .slice (some ⟨g11, 0, none⟩) 1 1 ∧ v 13 = .pointer (some ⟨gt, 0, none⟩) ∧
    R1 B W S ge gt n s (.slice (some ⟨g7, 0, none⟩) 1 1) (.slice (some ⟨g11, 0, none⟩) 1 1) [x1] [x2] := by
  obtain ⟨s, hs⟩ := h.v3 rfl
  obtain ⟨g7, x1, h71, h72, h73, h74⟩ := h.v7 rfl
  obtain ⟨g11, x2, h81, h82, h83, h84⟩ := h.v11 rfl
  obtain ⟨gt, h131, h132, _, h134⟩ := h.v13 rfl
  have h134 := h134 rfl
  have hne := h.ne rfl rfl
  rw [hs, h71, h81] at h134
  rw [h71, h81] at hne
  refine ⟨s, g7, g11, gt, x1, x2, hs, h71, h81, h131, hB, Nat.le_trans hS h.gb.size, h.dr, hge, h134, by omega, own1 h73 (by omega), own1 h83 (by omega), .inr hne, by simp, by simp, fun y hy => ?_⟩
  rcases hy with hy | hy
  · rw [List.mem_singleton] at hy; rw [hy]; exact h74
  · rw [List.mem_singleton] at hy; rw [hy]; exact h84
end
end Go.Proofs.Ytgpjfpcjiebjiaa
