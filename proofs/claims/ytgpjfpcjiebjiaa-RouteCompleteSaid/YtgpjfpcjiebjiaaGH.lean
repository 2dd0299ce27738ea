/- Words for small: the maze while it is made small. Walks: a maze made small. -/
import Derived.Test.YtgpjfpcjiebjiaaGw
import Derived.Test.YtgpjfpcjiebjiaaGF
import Derived.Test.YtgpjfpcjiebjiaaGG
import Derived.Deep.AppendLies
namespace Go.Proofs.Ytgpjfpcjiebjiaa
open Go.RowKit
set_option linter.unusedVariables false
set_option linter.unusedSimpArgs false

/-- An old row of N booleans. -/
def FS (ok : Nat → Prop) (w : World) (N : Nat) (u : Value) : Prop := ∃ l, l.length = N ∧ Bools w ok u l
/-- A list of the call's own: at most two numbers below N. -/
def TS (w : World) (B N : Nat) (u : Value) : Prop := ∃ l, l.length ≤ 2 ∧ (∀ x ∈ l, 0 ≤ x ∧ x < (N : Int)) ∧ OwnI w B u l
theorem FS.keep {ok : Nat → Prop} {B N : Nat} {w w' : World} {u : Value} (h : FS ok w N u) (ho : ∀ b, ok b → b + 1 < B) (hk : KeepI B w w') : FS ok w' N u := by
 obtain ⟨l, hl, h⟩ := h
 exact ⟨l, hl, h.keep fun b hb hl => hk.old b (by have := ho b hb; omega) hl⟩
theorem TS.keep {B N : Nat} {w w' : World} {u : Value} (h : TS w B N u) (hk : KeepI B w w') : TS w' B N u := by
 obtain ⟨l, hl, hx, h⟩ := h
 exact ⟨l, hl, hx, ownI_keepT h fun g cs _ hb => hk.typ g _ cs hb (.inl rfl)⟩
theorem TS.ints {B N : Nat} {w : World} {u : Value} (h : TS w B N u) : ∃ l, l.length ≤ 2 ∧ (∀ x ∈ l, 0 ≤ x ∧ x < (N : Int)) ∧ Ints w (fun b => B ≤ b) u l := by
 obtain ⟨l, hl, hx, h⟩ := h
 exact ⟨l, hl, hx, Row.of_own h⟩
def TSD (w : World) (B N n : Nat) (ts : List Value) : Prop := ∀ j, j < n → ∃ s u1 u2, ts[j * 3]? = some (.string s) ∧ ts[j * 3 + 1]? = some u1 ∧ ts[j * 3 + 2]? = some u2 ∧ TS w B N u1 ∧ TS w B N u2
theorem TSD.keep {B N n : Nat} {w w' : World} {ts : List Value} (h : TSD w B N n ts) (hk : KeepI B w w') : TSD w' B N n ts := fun j hj => by
 obtain ⟨s, u1, u2, h0, h1, h2, h3, h4⟩ := h j hj
 exact ⟨s, u1, u2, h0, h1, h2, h3.keep hk, h4.keep hk⟩
theorem TSD.tasks {B N n : Nat} {w : World} {v : Value} {ts : List Value} (h : TSD w B N n ts) (hr : Row w (fun b => B ≤ b) 3 v n ts) : ∃ l, Tasks w (fun b => B ≤ b) v l ∧ l.length = n ∧ ∀ t ∈ l, (t.1.length ≤ 2 ∧ t.2.length ≤ 2) ∧ ∀ x, x ∈ t.1 ∨ x ∈ t.2 → 0 ≤ x ∧ x < (N : Int) := by
 obtain ⟨l, hl, hp⟩ := chooseL (p := fun j (x : List Int × List Int) => ∃ s u1 u2, ts[j * 3]? = some (.string s) ∧ ts[j * 3 + 1]? = some u1 ∧ ts[j * 3 + 2]? = some u2 ∧ Ints w (fun b => B ≤ b) u1 x.1 ∧ Ints w (fun b => B ≤ b) u2 x.2 ∧ (x.1.length ≤ 2 ∧ x.2.length ≤ 2) ∧ ∀ z, z ∈ x.1 ∨ z ∈ x.2 → 0 ≤ z ∧ z < (N : Int)) n (fun j hj => by
  obtain ⟨s, u1, u2, h0, h1, h2, h3, h4⟩ := h j hj
  obtain ⟨l1, k1, x1, i1⟩ := h3.ints
  obtain ⟨l2, k2, x2, i2⟩ := h4.ints
  exact ⟨(l1, l2), s, u1, u2, h0, h1, h2, i1, i2, ⟨k1, k2⟩, fun z hz => hz.elim (x1 z) (x2 z)⟩)
 refine ⟨l, ⟨ts, by rw [hl]; exact hr, fun i x hx => ?_⟩, hl, fun t ht => ?_⟩
 ·obtain ⟨s, u1, u2, h0, h1, h2, h3, h4, _⟩ := hp i x hx
  exact ⟨s, u1, u2, h0, h1, h2, h3, h4⟩
 ·obtain ⟨j, hj, rfl⟩ := List.getElem_of_mem ht
  obtain ⟨_, _, _, _, _, _, _, _, h5, h6⟩ := hp j _ (List.getElem?_eq_getElem hj)
  exact ⟨h5, h6⟩
theorem fds_n {ok : Nat → Prop} {B N n : Nat} {w : World} {v : Value} {fs : List Value} (h : ∀ u ∈ fs, FS ok w N u) (hr : Row w (fun b => B ≤ b) 1 v n fs) : ∃ l, Boolss w (fun b => ok b ∨ B ≤ b) v l ∧ l.length = n ∧ ∀ f ∈ l, f.length = N := by
 have hlen : fs.length = n := by
  obtain ⟨_, _, _, _, h1, _⟩ := hr
  omega
 obtain ⟨l, hl, hp⟩ := chooseL (p := fun j (x : List Bool) => ∃ u, fs[j]? = some u ∧ Bools w (fun b => ok b ∨ B ≤ b) u x ∧ x.length = N) n (fun j hj => by
  obtain ⟨x, hN, hx⟩ := (h fs[j] (List.getElem_mem _))
  exact ⟨x, _, List.getElem?_eq_getElem _, hx.weaken fun _ hb => .inl hb, hN⟩)
 refine ⟨l, ⟨fs, by rw [hl]; exact hr.weaken fun _ hb => .inr hb, fun i x hx => by obtain ⟨u, h1, h2, _⟩ := hp i x hx; exact ⟨u, h1, h2⟩⟩, hl, fun f hf => ?_⟩
 obtain ⟨j, hj, rfl⟩ := List.getElem_of_mem hf
 obtain ⟨_, _, _, h3⟩ := hp j _ (List.getElem?_eq_getElem hj)
 exact h3
/-- The maze while it is made small. -/
structure SmS (ok : Nat → Prop) (wA wx : World) (B b5 nF nT N : Nat) (a b : Int) (vF vU vT : Value) (fs ts : List Value) : Prop where
 hB : B = wA.heap.size
 h5 : B ≤ b5
 ext : Ext wA wx
 blk : Blk wx b5 31 #[.int .i64 a, .int .i64 b, .int .i64 1, vF, vU, vT]
 F : wx.ownsRow B 28 1 vF nF fs
 T : wx.ownsRow B 75 3 vT nT ts
 fd : ∀ u ∈ fs, FS ok wx N u
 td : TSD wx B N nT ts
 U : FS ok wx N vU
 hok : ∀ b, ok b → b + 1 < B
section
variable {ok : Nat → Prop} {wA wx w' : World} {B b5 nF nT N : Nat} {a b : Int} {vF vU vT : Value} {fs ts : List Value}
theorem SmS.grow (h : SmS ok wA wx B b5 nF nT N a b vF vU vT fs ts) (hE : Ext wx w') : SmS ok wA w' B b5 nF nT N a b vF vU vT fs ts :=
 ⟨h.hB, h.h5, h.ext.trans hE, h.blk.ext hE, own_keep h.F fun g hg => hE.block g (h.F.lt g hg).2, own_keep h.T fun g hg => hE.block g (h.T.lt g hg).2, fun u hu => (h.fd u hu).keep h.hok (KeepI.of_ext hE), h.td.keep (KeepI.of_ext hE), h.U.keep h.hok (KeepI.of_ext hE), h.hok⟩
theorem SmS.addT (h : SmS ok wA wx B b5 nF nT N a b vF vU vT fs ts) {vT' : Value} {n' : Nat} {news : List Value} {w5 : World} {o : Obj} (ho : w5.ownsRow B 75 3 vT' n' (ts ++ news)) (hg : (wx.alloc o).grownBy w5 vT.ownBlock) (htd : ∀ w2, KeepI B wx w2 → wx.heap.size ≤ w2.heap.size → TSD w2 B N n' (ts ++ news)) :
  SmS ok wA (w5.setCell ⟨b5, 5, none⟩ vT') B b5 nF n' N a b vF vU vT' fs (ts ++ news) := by
 have hk1 := KeepI.grown h.T (by decide) hg
 have hsz : wx.heap.size ≤ w5.heap.size := Nat.le_trans (by simp) hg.size
 have hb5 : Blk w5 b5 31 #[.int .i64 a, .int .i64 b, .int .i64 1, vF, vU, vT] := ((hg.block b5 (by have := lt_of_some h.blk; simp; omega) (fun e => own_blk_ne h.T h.blk (by decide) e.symm)).trans (Below.heap_alloc _ _ _ (lt_of_some h.blk))).trans h.blk
 have hF5 : w5.ownsRow B 28 1 vF nF fs := by
  obtain ⟨hl, h0 | ⟨g, cap, cur, e, h4, h5, h6⟩⟩ := h.F
  ·exact ⟨hl, .inl h0⟩
  ·exact ⟨hl, .inr ⟨g, cap, cur, e, h4, ((hg.block g (by have := lt_of_some h5; simp; omega) (fun e => own_blk_ne h.T h5 (by decide) e.symm)).trans (Below.heap_alloc _ _ _ (lt_of_some h5))).trans h5, h6⟩⟩
 have hk : KeepI B wx (w5.setCell ⟨b5, 5, none⟩ vT') := hk1.trans hsz (KeepI.set hb5 h.h5 (by decide) _)
 have hEx : Ext wA w5 := (h.ext.alloc o).grown hg (Nat.le_trans h.ext.size (by simp)) (fun k hk => by have := (h.T.lt k hk).1; have := h.hB; omega)
 exact ⟨h.hB, h.h5, hEx.setCell (p := ⟨b5, 5, none⟩) (show wA.heap.size ≤ b5 by have := h.hB; have := h.h5; omega) _, hb5.set (k := 5) vT', own_other hF5 hb5 (by decide), own_other ho hb5 (by decide), fun u hu => (h.fd u hu).keep h.hok hk, htd _ hk (by simpa [World.setCell] using hsz), h.U.keep h.hok hk, h.hok⟩
theorem SmS.addF (h : SmS ok wA wx B b5 nF nT N a b vF vU vT fs ts) {vF' : Value} {n' : Nat} {news : List Value} {w5 : World} {o : Obj} (ho : w5.ownsRow B 28 1 vF' n' (fs ++ news)) (hg : (wx.alloc o).grownBy w5 vF.ownBlock) (hfd : ∀ u ∈ news, FS ok wx N u) :
  SmS ok wA (w5.setCell ⟨b5, 3, none⟩ vF') B b5 n' nT N a b vF' vU vT (fs ++ news) ts := by
 have hk1 := KeepI.grown h.F (by decide) hg
 have hsz : wx.heap.size ≤ w5.heap.size := Nat.le_trans (by simp) hg.size
 have hb5 : Blk w5 b5 31 #[.int .i64 a, .int .i64 b, .int .i64 1, vF, vU, vT] := ((hg.block b5 (by have := lt_of_some h.blk; simp; omega) (fun e => own_blk_ne h.F h.blk (by decide) e.symm)).trans (Below.heap_alloc _ _ _ (lt_of_some h.blk))).trans h.blk
 have hT5 : w5.ownsRow B 75 3 vT nT ts := by
  obtain ⟨hl, h0 | ⟨g, cap, cur, e, h4, h5, h6⟩⟩ := h.T
  ·exact ⟨hl, .inl h0⟩
  ·exact ⟨hl, .inr ⟨g, cap, cur, e, h4, ((hg.block g (by have := lt_of_some h5; simp; omega) (fun e => own_blk_ne h.F h5 (by decide) e.symm)).trans (Below.heap_alloc _ _ _ (lt_of_some h5))).trans h5, h6⟩⟩
 have hk : KeepI B wx (w5.setCell ⟨b5, 3, none⟩ vF') := hk1.trans hsz (KeepI.set hb5 h.h5 (by decide) _)
 have hEx : Ext wA w5 := (h.ext.alloc o).grown hg (Nat.le_trans h.ext.size (by simp)) (fun k hk => by have := (h.F.lt k hk).1; have := h.hB; omega)
 refine ⟨h.hB, h.h5, hEx.setCell (p := ⟨b5, 3, none⟩) (show wA.heap.size ≤ b5 by have := h.hB; have := h.h5; omega) _, hb5.set (k := 3) vF', own_other ho hb5 (by decide), own_other hT5 hb5 (by decide), fun u hu => ?_, h.td.keep hk, h.U.keep h.hok hk, h.hok⟩
 rcases List.mem_append.1 hu with hu | hu
 ·exact (h.fd u hu).keep h.hok hk
 ·exact (hfd u hu).keep h.hok hk
/-- The end: a small maze. -/
theorem SmS.fin {n : Nat} (h : SmS ok wA wx B b5 n n N a b vF vU vT fs ts) (ha : 2 ≤ a ∧ a ≤ 4) (hb : 1 ≤ b ∧ b ≤ 4) (hN : (N : Int) = a * b) (hN9 : N ≤ 9) (hn : n ≤ 2) :
  ∃ m', MazeV wx (fun b => ok b ∨ B ≤ b) (.agg #[.int .i64 a, .int .i64 b, .int .i64 1, vF, vU, vT]) m' ∧ SmallM m' ∧ m'.w = a ∧ m'.h = b ∧ m'.l = 1 := by
 obtain ⟨fr, h1, h2, h2'⟩ := fds_n h.fd (Row.of_own h.F)
 obtain ⟨tk, h3, h4, h5⟩ := h.td.tasks (Row.of_own h.T)
 obtain ⟨up, h6, h7⟩ := h.U
 have hm1 : (⟨a, b, 1, fr, up, tk⟩ : MZ).n = (N : Int) := by
  show a * b * 1 = _
  rw [Int.mul_one, hN]
 refine ⟨⟨a, b, 1, fr, up, tk⟩, ⟨vF, vU, vT, rfl, h1, h7.weaken fun _ hb => .inl hb, h3.weaken fun _ hb => .inr hb⟩, ⟨?_, ha, hb, rfl, by show a * b ≤ 9; omega, by show tk.length ≤ 2; omega, fun t ht => (h5 t ht).1, ⟨by show fr.length ≤ _; omega, by show up.length ≤ _; omega, by show tk.length ≤ _; omega, fun t ht => by have := (h5 t ht).1; exact ⟨by omega, by omega⟩⟩⟩, rfl, rfl, rfl⟩
 unfold chk
 rw [hm1, if_neg, if_neg, if_neg, if_neg]
 ·simp only [List.any_eq_true, Bool.or_eq_true, not_exists, not_and]
  intro t ht hh
  have h8 := (h5 t ht).2
  rcases hh with ⟨x, hx, hx2⟩ | ⟨x, hx, hx2⟩
  ·have := h8 x (.inl hx); simp [beyond] at hx2; omega
  ·have := h8 x (.inr hx); simp [beyond] at hx2; omega
 ·rintro (h8 | h8 | h8)
  ·exact h8 (by show fr.length = tk.length; omega)
  ·exact h8 (by show (up.length : Int) = N; omega)
  ·rw [List.any_eq_true] at h8
   obtain ⟨f, hf, h9⟩ := h8
   rw [h2' f hf] at h9
   simp at h9
 ·show ¬ (300 < (N : Int) ∨ 6 < tk.length)
  omega
 ·simp [side]
  omega
end
end Go.Proofs.Ytgpjfpcjiebjiaa

namespace Go.Proofs.Ytgpjfpcjiebjiaa
open Go.RowKit
set_option linter.unusedVariables false
set_option linter.unusedSimpArgs false
attribute [local go_sem ↓] Go.wp_at_zero Go.wp_at_succ

theorem slice_highS (t e : TypeId) (ht : Try.prog.underlying t = some (.slice e)) (sz : Nat) (hz : (Try.prog.info? e).map (fun i => i.size) = some sz) (a : Option Addr) (len cap N : Nat) (hN : N ≤ cap) (w : World) :
  (Instr.slice t (.slice a len cap) none (some (.int .i64 (N : Int))) none).run Try.prog w = .ok (.slice a N cap) w := by
 have he : Try.prog.elem t = e := by simp [Program.elem, ht]
 have ht2 : Try.prog.underlying t = some (.slice (Try.prog.elem t)) := by rw [he]; exact ht
 obtain ⟨i, hi, hs⟩ := Option.map_eq_some_iff.1 hz
 rw [run_slice_h w t a len cap ht2 .i64 (N : Int) (by omega) (by omega)]
 rw [he]
 simp [sizeOf, typeInfo, hi, sliced, Addr.add]
theorem bools_takeS {w : World} {ok : Nat → Prop} {A : Option Addr} {n c N : Nat} {l : List Bool} (h : Bools w ok (.slice A n c) l) (hN : N ≤ n) : Bools w ok (.slice A N c) (l.take N) := by
 obtain ⟨A', c', e, hc, hl, hr⟩ := h
 injection e with e1 e2 e3
 subst e1 e2 e3
 refine ⟨A, c, by rw [List.length_take, Nat.min_eq_left (by omega)], by rw [List.length_take]; omega, by simp, fun hp => ?_⟩
 rw [List.length_take] at hp
 obtain ⟨b, off, e, hb, hcell⟩ := hr (by omega)
 refine ⟨b, off, e, hb, fun j u hu => hcell j u ?_⟩
 rw [List.map_take, List.getElem?_take] at hu
 split at hu
 ·exact hu
 ·cases hu
def SmallPost (w : World) (ok : Nat → Prop) (e : Ending) (w' : World) : Prop := ∃ v' m', e = .returned v' ∧ Ext w w' ∧ MazeV w' (fun b => (ok b ∧ b < w.heap.size) ∨ w.heap.size ≤ b) v' m' ∧ SmallM m'
theorem own_low {w : World} {B B' : Nat} {e : TypeId} {sz n : Nat} {v : Value} {xs : List Value} (hB : B' ≤ B) (h : w.ownsRow B e sz v n xs) : w.ownsRow B' e sz v n xs := by
 obtain ⟨hl, h0 | ⟨g, cap, cur, e, h4, h5, h6⟩⟩ := h
 ·exact ⟨hl, .inl h0⟩
 ·exact ⟨hl, .inr ⟨g, cap, cur, e, Nat.le_trans hB h4, h5, h6⟩⟩
theorem ts_fold {w w' : World} {B N : Nat} {v : Value} {l : List Int} (h : Mk w w' v (l.map fun x => x % (N : Int))) (hB : B ≤ w.heap.size) (hl : l.length ≤ 2) (hN : 0 < N) : TS w' B N v :=
 ⟨_, by rw [List.length_map]; exact hl, fun x hx => by
  obtain ⟨y, _, rfl⟩ := List.mem_map.1 hx
  exact ⟨Int.emod_nonneg _ (by omega), Int.emod_lt_of_pos _ (by omega)⟩, own_low hB h.own⟩
/-- The sides of a small maze. -/
structure SmD (m : MZ) (a b : Int) : Prop where
 ha : 2 ≤ a ∧ a ≤ 4
 hb : 1 ≤ b ∧ b ≤ 4
 hn : a * b ≤ 9
 hle : a * b ≤ m.n
theorem smD_min {m : MZ} (h : MadeM m) : SmD m (min m.w 3) (min m.h 3) := by
 have h1 := h.w
 have h2 := h.h
 have h3 := h.l
 have h4 := h.n
 have h5 := h.good.dim.layer
 have h6 : m.n = m.w * m.h * m.l := rfl
 have h7 : min m.w 3 * min m.h 3 ≤ m.w * m.h := Int.mul_le_mul (by omega) (by omega) (by omega) (by omega)
 have h8 : min m.w 3 * min m.h 3 ≤ 3 * 3 := Int.mul_le_mul (by omega) (by omega) (by omega) (by omega)
 exact ⟨by omega, by omega, by omega, by omega⟩
theorem smD_id {m : MZ} (h : MadeM m) (hl : m.l ≤ 1) (hn : m.w * m.h ≤ 9) : SmD m m.w m.h := by
 have h3 := h.l
 have h5 := h.good.dim.layer
 have h6 : m.n = m.w * m.h * m.l := rfl
 exact ⟨h.w, h.h, hn, by omega⟩

set_option maxHeartbeats 8000000 in
set_option maxRecDepth 100000 in
theorem small_calls {okm : Nat → Prop} {v : Value} {m : MZ} (w : World) (hm : MazeV w okm v m) (hM : MadeM m) :
  Calls Try.prog 34 #[v] w (SmallPost w okm) := by
 have hmb := hm.bound
 obtain ⟨vfr, vup, vts, rfl, hfr, hup, hts⟩ := hmb
 clear hm
 have HFR := Lib.hid hfr
 have HTS := Lib.hid hts
 have HUP := Lib.hid hup
 obtain ⟨vsf, hrf, hef⟩ := hfr
 obtain ⟨vst, hrt, het⟩ := hts
 obtain ⟨Af, cf, rfl, hcf, hrf'⟩ := hrf
 obtain ⟨At, ct, rfl, hct, hrt'⟩ := hrt
 obtain ⟨Au, cu, rfl, hcu, hru'⟩ := hup
 have HRF := Lib.hid hrf'
 have HEF := Lib.hid hef
 have HRT := Lib.hid hrt'
 have HET := Lib.hid het
 have HMM := Lib.hid hM
 have HMN : Hid (SmD m (min m.w 3) (min m.h 3)) := smD_min hM
 have HID : Hid (m.l ≤ 1 → m.w * m.h ≤ 9 → SmD m m.w m.h) := smD_id hM
 have hmw := hM.w
 have hmh := hM.h
 have hml := hM.l
 have hwh : 2 ≤ m.w * m.h ∧ m.w * m.h ≤ 16 := by
  have h1 := hM.good.dim.layer
  have h2 : m.n = m.w * m.h * m.l := rfl
  have h3 := hM.n
  have h4 := (smD_min hM).hb
  have h5 := Int.mul_le_mul_of_nonneg_left hM.h.1 (show 0 ≤ m.w by omega)
  omega
 obtain ⟨hwh1, hwh2⟩ := hwh
 clear hrf' hef hrt' het hru' hM
 go_enter Try.func34, Try.ntmps34
 go_upto_region 1 with fail
 obtain ⟨wA, hwA⟩ : ∃ wA, wA = (w.alloc (.cells #[.int .i64 m.w, .int .i64 m.h, .int .i64 m.l, .slice Af m.free.length cf, .slice Au m.up.length cu, .slice At m.tasks.length ct] 31)).alloc (.cells #[.int .i64 0, .int .i64 0, .int .i64 0, .slice none 0 0, .slice none 0 0, .slice none 0 0] 31) := ⟨_, rfl⟩
 have hB1 : Blk wA w.heap.size 31 #[.int .i64 m.w, .int .i64 m.h, .int .i64 m.l, .slice Af m.free.length cf, .slice Au m.up.length cu, .slice At m.tasks.length ct] := by rw [hwA]; exact (Blk.new _ _ _ rfl).alloc _
 have hB2 : Blk wA (w.heap.size + 1) 31 #[.int .i64 0, .int .i64 0, .int .i64 0, .slice none 0 0, .slice none 0 0, .slice none 0 0] := by rw [hwA]; exact Blk.new _ _ _ (by simp)
 have hEA : Ext w wA := by rw [hwA]; exact ((Ext.refl w).alloc _).alloc _
 have hsA : wA.heap.size = w.heap.size + 2 := by rw [hwA]; simp
 rw [← hwA]
 clear hwA
 obtain ⟨b2, hb2⟩ : ∃ b2, b2 = w.heap.size + 1 := ⟨_, rfl⟩
 obtain ⟨b1, hb1⟩ : ∃ b1, b1 = w.heap.size := ⟨_, rfl⟩
 rw [← hb2, ← hb1]
 rw [← hb1] at hB1
 rw [← hb2] at hB2
 have HBS : Hid (wA.heap.size = b2 + 1 ∧ w.heap.size ≤ b2 ∧ w.heap.size + 1 = b2 ∧ b1 + 1 = b2) := ⟨by omega, by omega, by omega, by omega⟩
 have HEA := Lib.hid hEA
 have HB2 := Lib.hid hB2
 have HB1 := Lib.hid hB1
 clear hB2 hsA hb2 hb1 hEA
 obtain ⟨m0, m1, m2, m3, m4, m5⟩ := cells6 hB1
 have hrA := Ext.refl wA
 go_cut [17] (fun s wx => s = .bool (decide (1 < m.l) || decide (9 < m.w * m.h)) ∧ wA = wx)
 case first =>
  go_wp2_with fail
  all_goals
   go_meet
   exact ⟨by simp [*], rfl⟩
 case rest =>
 obtain ⟨rfl, rfl⟩ := hcut
 go_upto_if 17 with fail
 go_cut [] (fun wx => Hid (∃ a b : Int, SmD m a b ∧ Blk wx b1 31 #[.int .i64 a, .int .i64 b, .int .i64 1, .slice Af m.free.length cf, .slice Au m.up.length cu, .slice At m.tasks.length ct] ∧ Blk wx b2 31 #[.int .i64 0, .int .i64 0, .int .i64 0, .slice none 0 0, .slice none 0 0, .slice none 0 0] ∧ Ext w wx ∧ wx.heap.size = b2 + 1))
 case first =>
  clear hB1
  have hfr1 : ∀ k, wA.frozen? ⟨b1, k, none⟩ = false := fun k => HB1.out.frozen k
  have fin0 : ∀ (x y : Int), SmD m x y → Hid (∃ a b : Int, SmD m a b ∧ Blk (((wA.setCell ⟨b1, 2, none⟩ (.int .i64 1)).setCell ⟨b1, 1, none⟩ (.int .i64 y)).setCell ⟨b1, 0, none⟩ (.int .i64 x)) b1 31 #[.int .i64 a, .int .i64 b, .int .i64 1, .slice Af m.free.length cf, .slice Au m.up.length cu, .slice At m.tasks.length ct] ∧ Blk (((wA.setCell ⟨b1, 2, none⟩ (.int .i64 1)).setCell ⟨b1, 1, none⟩ (.int .i64 y)).setCell ⟨b1, 0, none⟩ (.int .i64 x)) b2 31 #[.int .i64 0, .int .i64 0, .int .i64 0, .slice none 0 0, .slice none 0 0, .slice none 0 0] ∧ Ext w (((wA.setCell ⟨b1, 2, none⟩ (.int .i64 1)).setCell ⟨b1, 1, none⟩ (.int .i64 y)).setCell ⟨b1, 0, none⟩ (.int .i64 x)) ∧ (((wA.setCell ⟨b1, 2, none⟩ (.int .i64 1)).setCell ⟨b1, 1, none⟩ (.int .i64 y)).setCell ⟨b1, 0, none⟩ (.int .i64 x)).heap.size = b2 + 1) := fun x y h => by
   have h12 := HBS.out
   refine ⟨x, y, h, ((HB1.out.set (k := 2) (.int .i64 1)).set (k := 1) (.int .i64 y)).set (k := 0) (.int .i64 x), ?_, ((HEA.out.setCell (p := ⟨b1, 2, none⟩) (show w.heap.size ≤ b1 by omega) _).setCell (p := ⟨b1, 1, none⟩) (show w.heap.size ≤ b1 by omega) _).setCell (p := ⟨b1, 0, none⟩) (show w.heap.size ≤ b1 by omega) _, by simp [World.setCell]; omega⟩
   exact (Below.heap_setCell _ ⟨b1, 0, none⟩ _ b2 (by show b2 ≠ b1; omega)).trans ((Below.heap_setCell _ ⟨b1, 1, none⟩ _ b2 (by show b2 ≠ b1; omega)).trans ((Below.heap_setCell _ ⟨b1, 2, none⟩ _ b2 (by show b2 ≠ b1; omega)).trans HB2.out))
  obtain ⟨c, hc⟩ : ∃ c, c = (decide (1 < m.l) || decide (9 < m.w * m.h)) := ⟨_, rfl⟩
  rw [← hc]
  cases c
  ·have hc' : ¬ 1 < m.l ∧ ¬ 9 < m.w * m.h := by
    have := hc.symm
    rw [Bool.or_eq_false_iff, decide_eq_false_iff_not, decide_eq_false_iff_not] at this
    exact this
   have hl1 : m.l = 1 := by omega
   have HSD : Hid (SmD m m.w m.h) := HID.out (by omega) (by omega)
   have HL1 := Lib.hid hl1
   clear fin0 hc hc' hl1
   go_wp2_with fail
   go_meet
   exact ⟨m.w, m.h, HSD.out, by have := HB1.out; rwa [HL1.out] at this, HB2.out, HEA.out, HBS.out.1⟩
  ·have HFI := Lib.hid (fin0 _ _ HMN.out)
   clear fin0 hc
   go_wp2_with fail
   go_meet
   exact HFI.out
 case rest =>
  obtain ⟨a, b, hab, hB1', hB2', hEc, hsc⟩ := hcut.out
  clear HB1 HB2 HEA hB1 hcut
  have hsz : w.heap.size ≤ wA.heap.size := by have := HBS.out; omega
  have HBS : Hid (wc.heap.size = b2 + 1 ∧ w.heap.size ≤ b2 ∧ w.heap.size + 1 = b2) := ⟨hsc, by have := HBS.out; omega, by have := HBS.out; omega⟩
  clear hsz hsc
  obtain ⟨w1, rfl⟩ : ∃ w1 : World, w1 = wc := ⟨_, rfl⟩
  obtain ⟨m0, m1, m2, m3, m4, m5⟩ := cells6 hB1'
  have q0 := Ext.rule m0
  have q1 := Ext.rule m1
  have q2 := Ext.rule m2
  have q3 := Ext.rule m3
  have q4 := Ext.rule m4
  have q5 := Ext.rule m5
  have HEA := Lib.hid hEc
  have HB2 := Lib.hid hB2'
  have HAB := Lib.hid hab
  obtain ⟨ha, hb, hn9, hnm⟩ := hab
  have hab2 : 2 ≤ a * b := by
   have h5 := Int.mul_le_mul_of_nonneg_left hb.1 (show 0 ≤ a by omega)
   omega
  obtain ⟨N, hN⟩ : ∃ N : Nat, a * b = (N : Int) := ⟨(a * b).toNat, by omega⟩
  have HN := Lib.hid hN
  have hN9 : N ≤ 9 ∧ 2 ≤ N := by omega
  have hup1 : (m.up.length : Int) = m.n := HMM.out.good.dim.up
  have hNU1 : N ≤ m.up.length := by omega
  have hsU : ∀ W, (Instr.slice 28 (.slice Au m.up.length cu) none (some (.int .i64 (N : Int))) none).run Try.prog W = .ok (.slice Au N cu) W := slice_highS 28 4 Try.underlying28 1 (by kernel_rfl) Au m.up.length cu N (by omega)
  have hsU2 : ∀ W, (Instr.sliceAt 28 (.slice Au m.up.length cu) none (some (.int .i64 (N : Int))) none).run Try.prog W = .ok (.slice Au N cu) W := fun W => by
   rw [run_sliceAt_slice W _ _ _ _ _ Try.underlying28]; exact hsU W
  have hmul : IntKind.i64.wrap (a * b) = (N : Int) := by rw [IntKind.wrap_i64]; omega
  have hNW : IntKind.i64.wrap (N : Int) = (N : Int) := by rw [IntKind.wrap_i64]; omega
  clear m0 m1 m2 m3 m4 m5 hB1' hB2' hEc hn9 hnm hab2 hup1 hwh1 hwh2 hmw hmh hml
  have hrA := Ext.refl w1
  go_upto_region 4 with fail
  refine wp_region_held_drew (S := fun W => Ext w1 W) mixedA (Ext.refl w1).drew (fun hHeld => ?_)
  refine wpAnyH_take (i := 0) (v := ?v1) rfl (by kernel_rfl) (by kernel_rfl) (by kernel_rfl) (fun _ _ _ h => h) (Or.inl ⟨?w1, ?y1⟩) hHeld ?r1
  case w1 => rfl
  case y1 => (intro w hSw; go_simp; try with_reducible rfl)
  simp only [rtPr, Act.put]
  refine wpAnyH_take (i := 1) (v := ?v2) rfl (by kernel_rfl) (by kernel_rfl) (by kernel_rfl) (fun _ _ _ h => h) (Or.inl ⟨?w2, ?y2⟩) hHeld ?r2
  case w2 => rfl
  case y2 => (intro w hSw; go_simp; try with_reducible rfl)
  simp only [rtPr, Act.put]
  refine wpAnyH_take (i := 2) (v := ?v3) rfl (by kernel_rfl) (by kernel_rfl) (by kernel_rfl) (fun _ _ _ h => h) (Or.inl ⟨?w3, ?y3⟩) hHeld ?r3
  case w3 => rfl
  case y3 => (intro w hSw; go_simp; try with_reducible rfl)
  simp only [rtPr, Act.put]
  refine wpAnyH_take (i := 3) (v := ?v4) rfl (by kernel_rfl) (by kernel_rfl) (by kernel_rfl) (fun _ _ _ h => h) (Or.inl ⟨?w4, ?y4⟩) hHeld ?r4
  case w4 => rfl
  case y4 => (intro w hSw; go_simp; try with_reducible rfl)
  simp only [rtPr, Act.put]
  refine wpAnyH_take (i := 4) (v := ?v5) rfl (by kernel_rfl) (by kernel_rfl) (by kernel_rfl) (fun _ _ _ h => h) (Or.inl ⟨?w5, ?y5⟩) hHeld ?r5
  case w5 => rfl
  case y5 => (intro w hSw; go_simp; try with_reducible rfl)
  simp only [rtPr, Act.put]
  refine wpAnyH_take (i := 5) (v := ?v6) rfl (by kernel_rfl) (by kernel_rfl) (by kernel_rfl) (fun _ _ _ h => h) (Or.inl ⟨?w6, ?y6⟩) hHeld ?r6
  case w6 => rfl
  case y6 => (intro w hSw; go_simp; try with_reducible rfl)
  simp only [rtPr, Act.put]
  refine wpAnyH_take (i := 6) (v := ?v7) rfl (by kernel_rfl) (by kernel_rfl) (by kernel_rfl) (fun _ _ _ h => h) (Or.inl ⟨?w7, ?y7⟩) hHeld ?r7
  case w7 => rfl
  case y7 => (intro w hSw; go_simp; try with_reducible rfl)
  simp only [rtPr, Act.put]
  refine wpAnyH_take (i := 7) (v := ?v8) rfl (by kernel_rfl) (by kernel_rfl) (by kernel_rfl) (fun _ _ _ h => h) (Or.inl ⟨?w8, ?y8⟩) hHeld ?r8
  case w8 => rfl
  case y8 => (intro w hSw; go_simp; try with_reducible rfl)
  simp only [rtPr, Act.put]
  refine wpAnyH_take (i := 8) (v := ?v9) rfl (by kernel_rfl) (by kernel_rfl) (by kernel_rfl) (fun _ _ _ h => h) (Or.inl ⟨?w9, ?y9⟩) hHeld ?r9
  case w9 => rfl
  case y9 => (intro w hSw; go_simp; try with_reducible rfl)
  simp only [rtPr, Act.put]
  refine wpAnyH_take (i := 9) (v := ?v10) rfl (by kernel_rfl) (by kernel_rfl) (by kernel_rfl) (fun _ _ _ h => h) (Or.inl ⟨?w10, ?y10⟩) hHeld ?r10
  case w10 => rfl
  case y10 => (intro w hSw; go_simp; try with_reducible rfl)
  simp only [rtPr, Act.put]
  refine wpAnyH_take (i := 10) (v := ?v11) rfl (by kernel_rfl) (by kernel_rfl) (by kernel_rfl) (fun _ _ _ h => h) (Or.inl ⟨?w11, ?y11⟩) hHeld ?r11
  case w11 => rfl
  case y11 => (intro w hSw; go_simp; try with_reducible rfl)
  simp only [rtPr, Act.put]
  refine wpAnyH_ready (rs := [11]) (by kernel_rfl) (by simp) ?_
  refine AllReadyH.cons rfl (fun K hK => ?_) AllReadyH.nil
  go_simp
  refine hK.out _ _ (hHeld.alloc _) (fun hHeld => ?_)
  clear hK K
  try simp only [rtPr, Act.put]
  refine wpAnyH_ready (rs := [12]) (by kernel_rfl) (by simp) ?_
  refine AllReadyH.cons rfl (fun K hK => ?_) AllReadyH.nil
  go_simp
  refine hK.out _ _ (((Ext.refl w1).alloc _).drew) (fun hHeld => ?_)
  clear hK K
  try simp only [rtPr, Act.put]
  refine wpAnyH_done (by kernel_rfl) ?_ _
  obtain ⟨b3, hb3⟩ : ∃ b3, b3 = w1.heap.size := ⟨_, rfl⟩
  have H1 : Hid (SmS (fun b => okm b ∧ b < w.heap.size) w1 (w1.alloc (.cells #[.int .i64 a, .int .i64 b, .int .i64 1, .slice none 0 0, .slice Au N cu, .slice none 0 0] 31)).drew w1.heap.size b3 0 0 N a b (.slice none 0 0) (.slice Au N cu) (.slice none 0 0) [] []) := by
   refine ⟨rfl, by omega, ((Ext.refl w1).alloc _).drew, Blk.new w1 _ _ hb3, World.ownsRow_nil _ _ _ _, World.ownsRow_nil _ _ _ _, fun u hu => (by cases hu), fun j hj => by omega, ⟨m.up.take N, by rw [List.length_take]; omega, (bools_takeS HUP.out hNU1).below (HEA.out.trans ((Ext.refl w1).alloc _).drew)⟩, fun b hb => by have := hb.2; have := HBS.out; omega⟩
  rw [← hb3]
  generalize (w1.alloc (.cells #[.int .i64 a, .int .i64 b, .int .i64 1, .slice none 0 0, .slice Au N cu, .slice none 0 0] 31)).drew = w2 at *
  have HB3 := Lib.hid hb3
  clear hHeld hrA hsU hsU2 hNU1 hb3
  go_wp2_with fail
  go_loopg [5] 2 (fun gk v wr => ∃ (k : Nat) (vF vT : Value) (fs ts : List Value), v = .int .i64 k ∧ k ≤ 2 ∧ k ≤ m.tasks.length ∧ gk = 2 - k ∧ Hid (SmS (fun b => okm b ∧ b < w.heap.size) w1 wr w1.heap.size b3 k k N a b vF (.slice Au N cu) vT fs ts))
  case atStart => exact ⟨0, _, _, _, _, rfl, by omega, by omega, rfl, H1.out⟩
  clear H1
  case round =>
   obtain ⟨k, vF, vT, fs, ts, rfl, hk2, hkt, rfl, hQ⟩ := hrel
   obtain ⟨w0, rfl⟩ : ∃ w0 : World, w0 = wr := ⟨_, rfl⟩
   have hx0 : Ext w1 w0 := hQ.out.ext
   by_cases hgo : k < m.tasks.length ∧ k < 2
   ·obtain ⟨hk1, hk3⟩ := hgo
    have hd1 : decide ((k : Int) < (m.tasks.length : Int)) = true := decide_eq_true (by omega)
    have hd2 : decide (k < m.tasks.length) = true := decide_eq_true hk1
    have hd3 : decide ((k : Int) < 2) = true := decide_eq_true (by omega)
    have hd4 : decide (k < 2) = true := decide_eq_true hk3
    obtain ⟨bt, off, sn, u1, u2, rfl, -, t0, t1, t2, hi1, hi2⟩ := tasksAt HTS.out hk1
    have hgm := HMM.out.good.tn _ (List.getElem_mem hk1)
    have hgl := (HMM.out.te _ (List.getElem_mem hk1)).2
    obtain ⟨L1, hL1⟩ : ∃ L1, L1 = m.tasks[k].1 := ⟨_, rfl⟩
    obtain ⟨L2, hL2⟩ : ∃ L2, L2 = m.tasks[k].2 := ⟨_, rfl⟩
    rw [← hL1] at hi1 hgm hgl
    rw [← hL2] at hi2 hgm hgl
    have HX1 : Hid (∀ x ∈ L1, 0 ≤ x) := fun x hx => (hgm x (.inl hx)).1
    have HX2 : Hid (∀ x ∈ L2, 0 ≤ x) := fun x hx => (hgm x (.inr hx)).1
    have HLL1 : Hid (L1.length ≤ 2) := hgl.1
    have HLL2 : Hid (L2.length ≤ 2) := hgl.2
    have hl12 := hgl.1
    have hl22 := hgl.2
    have hi10 := hi1
    have hi20 := hi2
    obtain ⟨A1, c1, rfl, hc1, -⟩ := hi10
    obtain ⟨A2, c2, rfl, hc2, -⟩ := hi20
    have qt0 : ∀ W, Ext w1 W → W.cell? ⟨bt, off + k * 3, none⟩ = some (.string sn) := fun W h => Ext.rule t0 W (HEA.out.trans h)
    have qt1 : ∀ W, Ext w1 W → W.cell? ⟨bt, off + k * 3 + 1, none⟩ = some (.slice A1 L1.length c1) := fun W h => Ext.rule t1 W (HEA.out.trans h)
    have qt2 : ∀ W, Ext w1 W → W.cell? ⟨bt, off + k * 3 + 2, none⟩ = some (.slice A2 L2.length c2) := fun W h => Ext.rule t2 W (HEA.out.trans h)
    have hkk0 : (0 : Int) ≤ (k : Int) ∧ (k : Int) < (m.tasks.length : Int) := by omega
    have HI1' : Hid (Ints w1 (fun _ => True) (.slice A1 L1.length c1) L1) := (hi1.weaken fun _ _ => trivial).below HEA.out
    have HI2' : Hid (Ints w1 (fun _ => True) (.slice A2 L2.length c2) L2) := (hi2.weaken fun _ _ => trivial).below HEA.out
    have HKT := Lib.hid hk1
    clear t0 t1 t2 hi1 hi2 hL1 hL2 hk1 hgm hgl
    go_upto_region 9 with fail
    obtain ⟨b6, hb6⟩ : ∃ b6, b6 = w0.heap.size := ⟨_, rfl⟩
    rw [← hb6]
    have hb6B : Blk (w0.alloc (.cells #[.string sn, .slice A1 L1.length c1, .slice A2 L2.length c2] 75)) b6 75 #[.string sn, .slice A1 L1.length c1, .slice A2 L2.length c2] := Blk.new _ _ _ hb6
    have hOq0 := hQ.out.grow ((Ext.refl w0).alloc (.cells #[.string sn, .slice A1 L1.length c1, .slice A2 L2.length c2] 75))
    have HT6 : Hid (vT.ownBlock ≠ some b6) := fun e => by have := (hQ.out.T.lt b6 e).2; omega
    have hne63 : b6 ≠ b3 := by have := lt_of_some hQ.out.blk; omega
    generalize w0.alloc (.cells #[.string sn, .slice A1 L1.length c1, .slice A2 L2.length c2] 75) = wq at *
    have HB6 : Hid (Blk wq b6 75 #[.string sn, .slice A1 L1.length c1, .slice A2 L2.length c2]) := hb6B
    obtain ⟨AT, cT, hvT, -, -⟩ := Row.of_own hOq0.T
    subst hvT
    have c3 : wq.cell? ⟨b3, 5, none⟩ = some (.slice AT k cT) := hOq0.blk.cell (k := 5) rfl
    have hQq := Lib.hid hOq0
    have hxq : Ext w1 wq := hOq0.ext
    have HI1 := Lib.hid (HI1'.out.below hxq)
    have HI2 := Lib.hid (HI2'.out.below hxq)
    have HSZ : Hid (w1.heap.size ≤ wq.heap.size) := hxq.size
    have hr60 : ∀ W, Blk W b6 75 #[.string sn, .slice A1 L1.length c1, .slice A2 L2.length c2] → W.cell? ⟨b6, 0, none⟩ = some (.string sn) := fun W h => h.cell (k := 0) rfl
    have hr61 : ∀ W, Blk W b6 75 #[.string sn, .slice A1 L1.length c1, .slice A2 L2.length c2] → W.cell? ⟨b6, 1, none⟩ = some (.slice A1 L1.length c1) := fun W h => h.cell (k := 1) rfl
    have hr62 : ∀ W, Blk W b6 75 #[.string sn, .slice A1 L1.length c1, .slice A2 L2.length c2] → W.cell? ⟨b6, 2, none⟩ = some (.slice A2 L2.length c2) := fun W h => h.cell (k := 2) rfl
    clear hb6B hOq0 hb6 qt0 qt1 qt2 hQ hx0 HI1' HI2'
    go_cut [] (fun wx => ∃ (vT' : Value) (ts' : List Value), Hid (SmS (fun b => okm b ∧ b < w.heap.size) w1 wx w1.heap.size b3 k (k + 1) N a b vF (.slice Au N cu) vT' fs ts'))
    case first =>
     refine wp_region_held_drew (S := (fun W => Ext w1 W ∧ Blk W b6 75 #[.string sn, .slice A1 L1.length c1, .slice A2 L2.length c2])) mixedA (⟨hxq.drew, HB6.out⟩) (fun hHeld => ?_)
     have hwq : Ext wq wq.drew := (Ext.refl wq).drew
     generalize wq.drew = wd at hHeld hwq ⊢
     refine wpAnyH_take (i := 0) (v := ?v12) rfl (by kernel_rfl) (by kernel_rfl) (by kernel_rfl) (fun _ _ _ h => h) (Or.inl ⟨?w12, ?y12⟩) hHeld ?r12
     case w12 => rfl
     case y12 => (intro w hSw; go_simp; try with_reducible rfl)
     simp only [rtPr, Act.put]
     refine wpAnyH_take (i := 2) (v := ?v13) rfl (by kernel_rfl) (by kernel_rfl) (by kernel_rfl) (fun _ _ _ h => h) (Or.inl ⟨?w13, ?y13⟩) hHeld ?r13
     case w13 => rfl
     case y13 => (intro w hSw; go_simp; try with_reducible rfl)
     simp only [rtPr, Act.put]
     refine wpAnyH_take (i := 3) (v := ?v14) rfl (by kernel_rfl) (by kernel_rfl) (by kernel_rfl) (fun _ _ _ h => h) (Or.inl ⟨?w14, ?y14⟩) hHeld ?r14
     case w14 => rfl
     case y14 => (intro w hSw; go_simp; try with_reducible rfl)
     simp only [rtPr, Act.put]
     refine wpAnyH_take (i := 4) (v := ?v15) rfl (by kernel_rfl) (by kernel_rfl) (by kernel_rfl) (fun _ _ _ h => h) (Or.inl ⟨?w15, ?y15⟩) hHeld ?r15
     case w15 => rfl
     case y15 => (intro w hSw; go_simp; try with_reducible rfl)
     simp only [rtPr, Act.put]
     refine wpAnyH_take (i := 5) (v := ?v16) rfl (by kernel_rfl) (by kernel_rfl) (by kernel_rfl) (fun _ _ _ h => h) (Or.inl ⟨?w16, ?y16⟩) hHeld ?r16
     case w16 => rfl
     case y16 => (intro w hSw; go_simp; try with_reducible rfl)
     simp only [rtPr, Act.put]
     refine wpAnyH_take (i := 6) (v := ?v17) rfl (by kernel_rfl) (by kernel_rfl) (by kernel_rfl) (fun _ _ _ h => h) (Or.inl ⟨?w17, ?y17⟩) hHeld ?r17
     case w17 => rfl
     case y17 => (intro w hSw; go_simp; try with_reducible rfl)
     simp only [rtPr, Act.put]
     refine wpAnyH_take (i := 8) (v := ?v18) rfl (by kernel_rfl) (by kernel_rfl) (by kernel_rfl) (fun _ _ _ h => h) (Or.inl ⟨?w18, ?y18⟩) hHeld ?r18
     case w18 => rfl
     case y18 => (intro w hSw; go_simp; try with_reducible rfl)
     simp only [rtPr, Act.put]
     refine wpAnyH_take (i := 9) (v := ?v19) rfl (by kernel_rfl) (by kernel_rfl) (by kernel_rfl) (fun _ _ _ h => h) (Or.inl ⟨?w19, ?y19⟩) hHeld ?r19
     case w19 => rfl
     case y19 => (intro w hSw; go_simp; try with_reducible rfl)
     simp only [rtPr, Act.put]
     refine wpAnyH_take (i := 10) (v := ?v20) rfl (by kernel_rfl) (by kernel_rfl) (by kernel_rfl) (fun _ _ _ h => h) (Or.inl ⟨?w20, ?y20⟩) hHeld ?r20
     case w20 => rfl
     case y20 => (intro w hSw; go_simp; try with_reducible rfl)
     simp only [rtPr, Act.put]
     refine wpAnyH_ready (rs := [1, 7]) (by kernel_rfl) (by simp) ?_
     refine AllReadyH.cons rfl (fun K hK => ?_) ?_
     ·have hcl : wd.cell? ⟨b3, 5, none⟩ = some (.slice AT k cT) := Ext.cell c3 (hwq)
      go_simp
      clear hcl
      refine hK.out _ _ (hHeld) (fun hHeld => ?_)
      clear hK K
      try simp only [rtPr, Act.put]
      refine wpAnyH_ready (rs := [7]) (by kernel_rfl) (by simp) ?_
      refine AllReadyH.cons rfl (fun K hK => ?_) ?_
      ·go_simp
       go_at_call 71
       refine (fold_calls (N : Int) wd (HI1.out.below (hwq)) (by omega) HX1.out (by omega) (by omega)).mono ?_
       rintro e wr2 ⟨v2', rfl, hM2⟩
       obtain ⟨D1, d1, hv2, -⟩ := hM2.slice
       rw [List.length_map] at hv2
       subst hv2
       have HTS1 : Hid (TS wr2 w1.heap.size N (.slice D1 L1.length d1)) := ts_fold hM2 (Nat.le_trans HSZ.out (hwq).size) HLL1.out (by omega)
       have hXM2 := hM2.ext
       clear hM2
       have hEX2 : Ext wq wr2 := (hwq).trans hXM2
       have hSS2 : Ext w1 wr2 ∧ Blk wr2 b6 75 #[.string sn, .slice A1 L1.length c1, .slice A2 L2.length c2] := ⟨hxq.trans hEX2, HB6.out.ext hEX2⟩
       refine hK.out _ _ (hSS2) (fun hHeld => ?_)
       clear hK K
       try simp only [rtPr, Act.put]
       refine wpAnyH_ready (rs := [11]) (by kernel_rfl) (by simp) ?_
       refine AllReadyH.cons rfl (fun K hK => ?_) ?_
       ·go_simp
        go_at_call 71
        refine (fold_calls (N : Int) wr2 (HI2.out.below (hEX2)) (by omega) HX2.out (by omega) (by omega)).mono ?_
        rintro e wr3 ⟨v3', rfl, hM3⟩
        obtain ⟨D2, d2, hv3, -⟩ := hM3.slice
        rw [List.length_map] at hv3
        subst hv3
        have HTS2 : Hid (TS wr3 w1.heap.size N (.slice D2 L2.length d2)) := ts_fold hM3 (Nat.le_trans HSZ.out (hEX2).size) HLL2.out (by omega)
        have hXM3 := hM3.ext
        clear hM3
        have hEX3 : Ext wq wr3 := (hEX2).trans hXM3
        have hSS3 : Ext w1 wr3 ∧ Blk wr3 b6 75 #[.string sn, .slice A1 L1.length c1, .slice A2 L2.length c2] := ⟨hxq.trans hEX3, HB6.out.ext hEX3⟩
        have HTS1 := Lib.hid (HTS1.out.keep (KeepI.of_ext hXM3))
        refine hK.out _ _ (hSS3) (fun hHeld => ?_)
        clear hK K
        try simp only [rtPr, Act.put]
        refine wpAnyH_take (i := 12) (v := ?v21) rfl (by kernel_rfl) (by kernel_rfl) (by kernel_rfl) (fun _ _ _ h => h) (Or.inl ⟨?w21, ?y21⟩) hHeld ?r21
        case w21 => rfl
        case y21 => (intro w hSw; go_simp; try with_reducible rfl)
        simp only [rtPr, Act.put]
        refine wpAnyH_ready (rs := [13]) (by kernel_rfl) (by simp) ?_
        refine AllReadyH.cons rfl (fun K hK => ?_) ?_
        ·go_simp
         have hEX4 : Ext wq (wr3.alloc (.cells #[.string sn, .slice D1 L1.length d1, .slice D2 L2.length d2] 75)) := (hEX3).alloc _
         have hSS4 : Ext w1 (wr3.alloc (.cells #[.string sn, .slice D1 L1.length d1, .slice D2 L2.length d2] 75)) ∧ Blk (wr3.alloc (.cells #[.string sn, .slice D1 L1.length d1, .slice D2 L2.length d2] 75)) b6 75 #[.string sn, .slice A1 L1.length c1, .slice A2 L2.length c2] := ⟨hxq.trans hEX4, HB6.out.ext hEX4⟩
         refine hK.out _ _ (hSS4) (fun hHeld => ?_)
         clear hK K
         try simp only [rtPr, Act.put]
         refine wpAnyH_ready (rs := [14]) (by kernel_rfl) (by simp) ?_
         refine AllReadyH.cons rfl (fun K hK => ?_) ?_
         ·have HOQ : Hid (SmS (fun b => okm b ∧ b < w.heap.size) w1 wr3 w1.heap.size b3 k k N a b vF (.slice Au N cu) (.slice AT k cT) fs ts) := hQq.out.grow (hEX3)
          refine step_append_row (ok := fun _ => True) rfl _ _ _ eTask rfl w1.heap.size k 1 ts [.string sn, .slice D1 L1.length d1, .slice D2 L2.length d2] _ _ rfl rfl ((HOQ.out.T).alloc _) (row3 wr3 _ _ _ _) (by simp [Value.oneCell']) (Nat.le_trans HOQ.out.ext.size (by simp)) (by unfold maxLen; omega) (by omega) ?_
          intro vT9 w9 hoT hgT hvT
          clear hvT
          have hO9 := HOQ.out.addT hoT hgT (fun w2 hk hs j hj => by
           have hlen : ts.length = k * 3 := HOQ.out.T.1
           rcases Nat.lt_or_ge j k with h1 | h1
           ·obtain ⟨s, u1, u2, h2, h3, h4, h5, h6⟩ := HOQ.out.td.keep hk j h1
            exact ⟨s, u1, u2, by rw [List.getElem?_append_left (by omega)]; exact h2, by rw [List.getElem?_append_left (by omega)]; exact h3, by rw [List.getElem?_append_left (by omega)]; exact h4, h5, h6⟩
           ·obtain rfl : j = k := by omega
            exact ⟨sn, .slice D1 L1.length d1, .slice D2 L2.length d2, by rw [List.getElem?_append_right (by omega), show j * 3 - ts.length = 0 from by omega]; rfl, by rw [List.getElem?_append_right (by omega), show j * 3 + 1 - ts.length = 1 from by omega]; rfl, by rw [List.getElem?_append_right (by omega), show j * 3 + 2 - ts.length = 2 from by omega]; rfl, TS.keep HTS1.out hk, TS.keep HTS2.out hk⟩)
          have HO9 := Lib.hid hO9
          have hb3w : w9.heap[b3]? = wr3.heap[b3]? := (hgT.block b3 (by have := lt_of_some HOQ.out.blk; simp; exact Nat.lt_succ_of_lt this) (fun e => own_blk_ne HOQ.out.T HOQ.out.blk (by decide) e.symm)).trans (Below.heap_alloc _ _ _ (lt_of_some HOQ.out.blk))
          have hb66 := HB6.out.ext (hEX3)
          have hb6w : w9.heap[b6]? = wr3.heap[b6]? := (hgT.block b6 (by have := lt_of_some hb66; simp; exact Nat.lt_succ_of_lt this) (fun e => HT6.out e.symm)).trans (Below.heap_alloc _ _ _ (lt_of_some hb66))
          have c39 : w9.cell? ⟨b3, 5, none⟩ = some (.slice AT k cT) := (World.cell?_of_block (a := ⟨b3, 5, none⟩) hb3w).trans (HOQ.out.blk.cell (k := 5) rfl)
          have f39 : w9.frozen? ⟨b3, 5, none⟩ = false := (World.frozen?_of_block (a := ⟨b3, 5, none⟩) hb3w).trans (HOQ.out.blk.frozen 5)
          have hx9 : Ext w1 w9 := (HOQ.out.ext.alloc _).grown hgT (Nat.le_trans HOQ.out.ext.size (by simp)) (fun k hk => (HOQ.out.T.lt k hk).1)
          have h69 : Blk w9 b6 75 #[.string sn, .slice A1 L1.length c1, .slice A2 L2.length c2] := hb6w.trans hb66
          obtain ⟨AF9, cF9, rfl, -⟩ := Row.of_own hoT
          have hSA : Ext w1 w9 ∧ Blk w9 b6 75 #[.string sn, .slice A1 L1.length c1, .slice A2 L2.length c2] := ⟨hx9, h69⟩
          have HSA := Lib.hid hSA
          clear hO9 hoT hgT hb3w hb6w hb66 hx9 h69 hSA
          refine hK.out _ _ (HSA.out) (fun hHeld => ?_)
          clear hK K
          try simp only [rtPr, Act.put]
          refine wpAnyH_take (i := 15) (v := ?v22) rfl (by kernel_rfl) (by kernel_rfl) (by kernel_rfl) (fun _ _ _ h => h) (Or.inl ⟨?w22, ?y22⟩) hHeld ?r22
          case w22 => rfl
          case y22 => (intro w hSw; go_simp; try with_reducible rfl)
          simp only [rtPr, Act.put]
          refine wpAnyH_ready (rs := [16]) (by kernel_rfl) (by simp) ?_
          refine AllReadyH.cons rfl (fun K hK => ?_) ?_
          ·go_simp
           refine hK.out _ _ (⟨HSA.out.1.setCell (p := ⟨b3, 5, none⟩) (show w1.heap.size ≤ b3 from HO9.out.h5) _, (Below.heap_setCell w9 ⟨b3, 5, none⟩ _ b6 hne63).trans HSA.out.2⟩) (fun hHeld => ?_)
           clear hK K
           try simp only [rtPr, Act.put]
           refine wpAnyH_done (by kernel_rfl) ?_ _
           clear hHeld c39 f39
           go_wp2_with fail
           go_meet
           exact ⟨_, _, HO9⟩
          exact AllReadyH.nil
         exact AllReadyH.nil
        exact AllReadyH.nil
       exact AllReadyH.nil
      exact AllReadyH.nil
     refine AllReadyH.cons rfl (fun K hK => ?_) ?_
     ·go_simp
      go_at_call 71
      refine (fold_calls (N : Int) wd (HI1.out.below (hwq)) (by omega) HX1.out (by omega) (by omega)).mono ?_
      rintro e wr7 ⟨v7', rfl, hM7⟩
      obtain ⟨D1, d1, hv7, -⟩ := hM7.slice
      rw [List.length_map] at hv7
      subst hv7
      have HTS1 : Hid (TS wr7 w1.heap.size N (.slice D1 L1.length d1)) := ts_fold hM7 (Nat.le_trans HSZ.out (hwq).size) HLL1.out (by omega)
      have hXM7 := hM7.ext
      clear hM7
      have hEX7 : Ext wq wr7 := (hwq).trans hXM7
      have hSS7 : Ext w1 wr7 ∧ Blk wr7 b6 75 #[.string sn, .slice A1 L1.length c1, .slice A2 L2.length c2] := ⟨hxq.trans hEX7, HB6.out.ext hEX7⟩
      refine hK.out _ _ (hSS7) (fun hHeld => ?_)
      clear hK K
      try simp only [rtPr, Act.put]
      refine wpAnyH_ready (rs := [1, 11]) (by kernel_rfl) (by simp) ?_
      refine AllReadyH.cons rfl (fun K hK => ?_) ?_
      ·have hcl : wr7.cell? ⟨b3, 5, none⟩ = some (.slice AT k cT) := Ext.cell c3 (hEX7)
       go_simp
       clear hcl
       refine hK.out _ _ (hSS7) (fun hHeld => ?_)
       clear hK K
       try simp only [rtPr, Act.put]
       refine wpAnyH_ready (rs := [11]) (by kernel_rfl) (by simp) ?_
       refine AllReadyH.cons rfl (fun K hK => ?_) ?_
       ·go_simp
        go_at_call 71
        refine (fold_calls (N : Int) wr7 (HI2.out.below (hEX7)) (by omega) HX2.out (by omega) (by omega)).mono ?_
        rintro e wr9 ⟨v9', rfl, hM9⟩
        obtain ⟨D2, d2, hv9, -⟩ := hM9.slice
        rw [List.length_map] at hv9
        subst hv9
        have HTS2 : Hid (TS wr9 w1.heap.size N (.slice D2 L2.length d2)) := ts_fold hM9 (Nat.le_trans HSZ.out (hEX7).size) HLL2.out (by omega)
        have hXM9 := hM9.ext
        clear hM9
        have hEX9 : Ext wq wr9 := (hEX7).trans hXM9
        have hSS9 : Ext w1 wr9 ∧ Blk wr9 b6 75 #[.string sn, .slice A1 L1.length c1, .slice A2 L2.length c2] := ⟨hxq.trans hEX9, HB6.out.ext hEX9⟩
        have HTS1 := Lib.hid (HTS1.out.keep (KeepI.of_ext hXM9))
        refine hK.out _ _ (hSS9) (fun hHeld => ?_)
        clear hK K
        try simp only [rtPr, Act.put]
        refine wpAnyH_take (i := 12) (v := ?v23) rfl (by kernel_rfl) (by kernel_rfl) (by kernel_rfl) (fun _ _ _ h => h) (Or.inl ⟨?w23, ?y23⟩) hHeld ?r23
        case w23 => rfl
        case y23 => (intro w hSw; go_simp; try with_reducible rfl)
        simp only [rtPr, Act.put]
        refine wpAnyH_ready (rs := [13]) (by kernel_rfl) (by simp) ?_
        refine AllReadyH.cons rfl (fun K hK => ?_) ?_
        ·go_simp
         have hEX10 : Ext wq (wr9.alloc (.cells #[.string sn, .slice D1 L1.length d1, .slice D2 L2.length d2] 75)) := (hEX9).alloc _
         have hSS10 : Ext w1 (wr9.alloc (.cells #[.string sn, .slice D1 L1.length d1, .slice D2 L2.length d2] 75)) ∧ Blk (wr9.alloc (.cells #[.string sn, .slice D1 L1.length d1, .slice D2 L2.length d2] 75)) b6 75 #[.string sn, .slice A1 L1.length c1, .slice A2 L2.length c2] := ⟨hxq.trans hEX10, HB6.out.ext hEX10⟩
         refine hK.out _ _ (hSS10) (fun hHeld => ?_)
         clear hK K
         try simp only [rtPr, Act.put]
         refine wpAnyH_ready (rs := [14]) (by kernel_rfl) (by simp) ?_
         refine AllReadyH.cons rfl (fun K hK => ?_) ?_
         ·have HOQ : Hid (SmS (fun b => okm b ∧ b < w.heap.size) w1 wr9 w1.heap.size b3 k k N a b vF (.slice Au N cu) (.slice AT k cT) fs ts) := hQq.out.grow (hEX9)
          refine step_append_row (ok := fun _ => True) rfl _ _ _ eTask rfl w1.heap.size k 1 ts [.string sn, .slice D1 L1.length d1, .slice D2 L2.length d2] _ _ rfl rfl ((HOQ.out.T).alloc _) (row3 wr9 _ _ _ _) (by simp [Value.oneCell']) (Nat.le_trans HOQ.out.ext.size (by simp)) (by unfold maxLen; omega) (by omega) ?_
          intro vT9 w9 hoT hgT hvT
          clear hvT
          have hO9 := HOQ.out.addT hoT hgT (fun w2 hk hs j hj => by
           have hlen : ts.length = k * 3 := HOQ.out.T.1
           rcases Nat.lt_or_ge j k with h1 | h1
           ·obtain ⟨s, u1, u2, h2, h3, h4, h5, h6⟩ := HOQ.out.td.keep hk j h1
            exact ⟨s, u1, u2, by rw [List.getElem?_append_left (by omega)]; exact h2, by rw [List.getElem?_append_left (by omega)]; exact h3, by rw [List.getElem?_append_left (by omega)]; exact h4, h5, h6⟩
           ·obtain rfl : j = k := by omega
            exact ⟨sn, .slice D1 L1.length d1, .slice D2 L2.length d2, by rw [List.getElem?_append_right (by omega), show j * 3 - ts.length = 0 from by omega]; rfl, by rw [List.getElem?_append_right (by omega), show j * 3 + 1 - ts.length = 1 from by omega]; rfl, by rw [List.getElem?_append_right (by omega), show j * 3 + 2 - ts.length = 2 from by omega]; rfl, TS.keep HTS1.out hk, TS.keep HTS2.out hk⟩)
          have HO9 := Lib.hid hO9
          have hb3w : w9.heap[b3]? = wr9.heap[b3]? := (hgT.block b3 (by have := lt_of_some HOQ.out.blk; simp; exact Nat.lt_succ_of_lt this) (fun e => own_blk_ne HOQ.out.T HOQ.out.blk (by decide) e.symm)).trans (Below.heap_alloc _ _ _ (lt_of_some HOQ.out.blk))
          have hb66 := HB6.out.ext (hEX9)
          have hb6w : w9.heap[b6]? = wr9.heap[b6]? := (hgT.block b6 (by have := lt_of_some hb66; simp; exact Nat.lt_succ_of_lt this) (fun e => HT6.out e.symm)).trans (Below.heap_alloc _ _ _ (lt_of_some hb66))
          have c39 : w9.cell? ⟨b3, 5, none⟩ = some (.slice AT k cT) := (World.cell?_of_block (a := ⟨b3, 5, none⟩) hb3w).trans (HOQ.out.blk.cell (k := 5) rfl)
          have f39 : w9.frozen? ⟨b3, 5, none⟩ = false := (World.frozen?_of_block (a := ⟨b3, 5, none⟩) hb3w).trans (HOQ.out.blk.frozen 5)
          have hx9 : Ext w1 w9 := (HOQ.out.ext.alloc _).grown hgT (Nat.le_trans HOQ.out.ext.size (by simp)) (fun k hk => (HOQ.out.T.lt k hk).1)
          have h69 : Blk w9 b6 75 #[.string sn, .slice A1 L1.length c1, .slice A2 L2.length c2] := hb6w.trans hb66
          obtain ⟨AF9, cF9, rfl, -⟩ := Row.of_own hoT
          have hSA : Ext w1 w9 ∧ Blk w9 b6 75 #[.string sn, .slice A1 L1.length c1, .slice A2 L2.length c2] := ⟨hx9, h69⟩
          have HSA := Lib.hid hSA
          clear hO9 hoT hgT hb3w hb6w hb66 hx9 h69 hSA
          refine hK.out _ _ (HSA.out) (fun hHeld => ?_)
          clear hK K
          try simp only [rtPr, Act.put]
          refine wpAnyH_take (i := 15) (v := ?v24) rfl (by kernel_rfl) (by kernel_rfl) (by kernel_rfl) (fun _ _ _ h => h) (Or.inl ⟨?w24, ?y24⟩) hHeld ?r24
          case w24 => rfl
          case y24 => (intro w hSw; go_simp; try with_reducible rfl)
          simp only [rtPr, Act.put]
          refine wpAnyH_ready (rs := [16]) (by kernel_rfl) (by simp) ?_
          refine AllReadyH.cons rfl (fun K hK => ?_) ?_
          ·go_simp
           refine hK.out _ _ (⟨HSA.out.1.setCell (p := ⟨b3, 5, none⟩) (show w1.heap.size ≤ b3 from HO9.out.h5) _, (Below.heap_setCell w9 ⟨b3, 5, none⟩ _ b6 hne63).trans HSA.out.2⟩) (fun hHeld => ?_)
           clear hK K
           try simp only [rtPr, Act.put]
           refine wpAnyH_done (by kernel_rfl) ?_ _
           clear hHeld c39 f39
           go_wp2_with fail
           go_meet
           exact ⟨_, _, HO9⟩
          exact AllReadyH.nil
         exact AllReadyH.nil
        exact AllReadyH.nil
       exact AllReadyH.nil
      refine AllReadyH.cons rfl (fun K hK => ?_) ?_
      ·go_simp
       go_at_call 71
       refine (fold_calls (N : Int) wr7 (HI2.out.below (hEX7)) (by omega) HX2.out (by omega) (by omega)).mono ?_
       rintro e wr13 ⟨v13', rfl, hM13⟩
       obtain ⟨D2, d2, hv13, -⟩ := hM13.slice
       rw [List.length_map] at hv13
       subst hv13
       have HTS2 : Hid (TS wr13 w1.heap.size N (.slice D2 L2.length d2)) := ts_fold hM13 (Nat.le_trans HSZ.out (hEX7).size) HLL2.out (by omega)
       have hXM13 := hM13.ext
       clear hM13
       have hEX13 : Ext wq wr13 := (hEX7).trans hXM13
       have hSS13 : Ext w1 wr13 ∧ Blk wr13 b6 75 #[.string sn, .slice A1 L1.length c1, .slice A2 L2.length c2] := ⟨hxq.trans hEX13, HB6.out.ext hEX13⟩
       have HTS1 := Lib.hid (HTS1.out.keep (KeepI.of_ext hXM13))
       refine hK.out _ _ (hSS13) (fun hHeld => ?_)
       clear hK K
       try simp only [rtPr, Act.put]
       refine wpAnyH_take (i := 12) (v := ?v25) rfl (by kernel_rfl) (by kernel_rfl) (by kernel_rfl) (fun _ _ _ h => h) (Or.inl ⟨?w25, ?y25⟩) hHeld ?r25
       case w25 => rfl
       case y25 => (intro w hSw; go_simp; try with_reducible rfl)
       simp only [rtPr, Act.put]
       refine wpAnyH_ready (rs := [1, 13]) (by kernel_rfl) (by simp) ?_
       refine AllReadyH.cons rfl (fun K hK => ?_) ?_
       ·have hcl : wr13.cell? ⟨b3, 5, none⟩ = some (.slice AT k cT) := Ext.cell c3 (hEX13)
        go_simp
        clear hcl
        refine hK.out _ _ (hSS13) (fun hHeld => ?_)
        clear hK K
        try simp only [rtPr, Act.put]
        refine wpAnyH_ready (rs := [13]) (by kernel_rfl) (by simp) ?_
        refine AllReadyH.cons rfl (fun K hK => ?_) ?_
        ·go_simp
         have hEX15 : Ext wq (wr13.alloc (.cells #[.string sn, .slice D1 L1.length d1, .slice D2 L2.length d2] 75)) := (hEX13).alloc _
         have hSS15 : Ext w1 (wr13.alloc (.cells #[.string sn, .slice D1 L1.length d1, .slice D2 L2.length d2] 75)) ∧ Blk (wr13.alloc (.cells #[.string sn, .slice D1 L1.length d1, .slice D2 L2.length d2] 75)) b6 75 #[.string sn, .slice A1 L1.length c1, .slice A2 L2.length c2] := ⟨hxq.trans hEX15, HB6.out.ext hEX15⟩
         refine hK.out _ _ (hSS15) (fun hHeld => ?_)
         clear hK K
         try simp only [rtPr, Act.put]
         refine wpAnyH_ready (rs := [14]) (by kernel_rfl) (by simp) ?_
         refine AllReadyH.cons rfl (fun K hK => ?_) ?_
         ·have HOQ : Hid (SmS (fun b => okm b ∧ b < w.heap.size) w1 wr13 w1.heap.size b3 k k N a b vF (.slice Au N cu) (.slice AT k cT) fs ts) := hQq.out.grow (hEX13)
          refine step_append_row (ok := fun _ => True) rfl _ _ _ eTask rfl w1.heap.size k 1 ts [.string sn, .slice D1 L1.length d1, .slice D2 L2.length d2] _ _ rfl rfl ((HOQ.out.T).alloc _) (row3 wr13 _ _ _ _) (by simp [Value.oneCell']) (Nat.le_trans HOQ.out.ext.size (by simp)) (by unfold maxLen; omega) (by omega) ?_
          intro vT9 w9 hoT hgT hvT
          clear hvT
          have hO9 := HOQ.out.addT hoT hgT (fun w2 hk hs j hj => by
           have hlen : ts.length = k * 3 := HOQ.out.T.1
           rcases Nat.lt_or_ge j k with h1 | h1
           ·obtain ⟨s, u1, u2, h2, h3, h4, h5, h6⟩ := HOQ.out.td.keep hk j h1
            exact ⟨s, u1, u2, by rw [List.getElem?_append_left (by omega)]; exact h2, by rw [List.getElem?_append_left (by omega)]; exact h3, by rw [List.getElem?_append_left (by omega)]; exact h4, h5, h6⟩
           ·obtain rfl : j = k := by omega
            exact ⟨sn, .slice D1 L1.length d1, .slice D2 L2.length d2, by rw [List.getElem?_append_right (by omega), show j * 3 - ts.length = 0 from by omega]; rfl, by rw [List.getElem?_append_right (by omega), show j * 3 + 1 - ts.length = 1 from by omega]; rfl, by rw [List.getElem?_append_right (by omega), show j * 3 + 2 - ts.length = 2 from by omega]; rfl, TS.keep HTS1.out hk, TS.keep HTS2.out hk⟩)
          have HO9 := Lib.hid hO9
          have hb3w : w9.heap[b3]? = wr13.heap[b3]? := (hgT.block b3 (by have := lt_of_some HOQ.out.blk; simp; exact Nat.lt_succ_of_lt this) (fun e => own_blk_ne HOQ.out.T HOQ.out.blk (by decide) e.symm)).trans (Below.heap_alloc _ _ _ (lt_of_some HOQ.out.blk))
          have hb66 := HB6.out.ext (hEX13)
          have hb6w : w9.heap[b6]? = wr13.heap[b6]? := (hgT.block b6 (by have := lt_of_some hb66; simp; exact Nat.lt_succ_of_lt this) (fun e => HT6.out e.symm)).trans (Below.heap_alloc _ _ _ (lt_of_some hb66))
          have c39 : w9.cell? ⟨b3, 5, none⟩ = some (.slice AT k cT) := (World.cell?_of_block (a := ⟨b3, 5, none⟩) hb3w).trans (HOQ.out.blk.cell (k := 5) rfl)
          have f39 : w9.frozen? ⟨b3, 5, none⟩ = false := (World.frozen?_of_block (a := ⟨b3, 5, none⟩) hb3w).trans (HOQ.out.blk.frozen 5)
          have hx9 : Ext w1 w9 := (HOQ.out.ext.alloc _).grown hgT (Nat.le_trans HOQ.out.ext.size (by simp)) (fun k hk => (HOQ.out.T.lt k hk).1)
          have h69 : Blk w9 b6 75 #[.string sn, .slice A1 L1.length c1, .slice A2 L2.length c2] := hb6w.trans hb66
          obtain ⟨AF9, cF9, rfl, -⟩ := Row.of_own hoT
          have hSA : Ext w1 w9 ∧ Blk w9 b6 75 #[.string sn, .slice A1 L1.length c1, .slice A2 L2.length c2] := ⟨hx9, h69⟩
          have HSA := Lib.hid hSA
          clear hO9 hoT hgT hb3w hb6w hb66 hx9 h69 hSA
          refine hK.out _ _ (HSA.out) (fun hHeld => ?_)
          clear hK K
          try simp only [rtPr, Act.put]
          refine wpAnyH_take (i := 15) (v := ?v26) rfl (by kernel_rfl) (by kernel_rfl) (by kernel_rfl) (fun _ _ _ h => h) (Or.inl ⟨?w26, ?y26⟩) hHeld ?r26
          case w26 => rfl
          case y26 => (intro w hSw; go_simp; try with_reducible rfl)
          simp only [rtPr, Act.put]
          refine wpAnyH_ready (rs := [16]) (by kernel_rfl) (by simp) ?_
          refine AllReadyH.cons rfl (fun K hK => ?_) ?_
          ·go_simp
           refine hK.out _ _ (⟨HSA.out.1.setCell (p := ⟨b3, 5, none⟩) (show w1.heap.size ≤ b3 from HO9.out.h5) _, (Below.heap_setCell w9 ⟨b3, 5, none⟩ _ b6 hne63).trans HSA.out.2⟩) (fun hHeld => ?_)
           clear hK K
           try simp only [rtPr, Act.put]
           refine wpAnyH_done (by kernel_rfl) ?_ _
           clear hHeld c39 f39
           go_wp2_with fail
           go_meet
           exact ⟨_, _, HO9⟩
          exact AllReadyH.nil
         exact AllReadyH.nil
        exact AllReadyH.nil
       refine AllReadyH.cons rfl (fun K hK => ?_) ?_
       ·go_simp
        have hEX18 : Ext wq (wr13.alloc (.cells #[.string sn, .slice D1 L1.length d1, .slice D2 L2.length d2] 75)) := (hEX13).alloc _
        have hSS18 : Ext w1 (wr13.alloc (.cells #[.string sn, .slice D1 L1.length d1, .slice D2 L2.length d2] 75)) ∧ Blk (wr13.alloc (.cells #[.string sn, .slice D1 L1.length d1, .slice D2 L2.length d2] 75)) b6 75 #[.string sn, .slice A1 L1.length c1, .slice A2 L2.length c2] := ⟨hxq.trans hEX18, HB6.out.ext hEX18⟩
        refine hK.out _ _ (hSS18) (fun hHeld => ?_)
        clear hK K
        try simp only [rtPr, Act.put]
        refine wpAnyH_ready (rs := [1]) (by kernel_rfl) (by simp) ?_
        refine AllReadyH.cons rfl (fun K hK => ?_) ?_
        ·have hcl : (wr13.alloc (.cells #[.string sn, .slice D1 L1.length d1, .slice D2 L2.length d2] 75)).cell? ⟨b3, 5, none⟩ = some (.slice AT k cT) := Ext.cell c3 (hEX18)
         go_simp
         clear hcl
         refine hK.out _ _ (hSS18) (fun hHeld => ?_)
         clear hK K
         try simp only [rtPr, Act.put]
         refine wpAnyH_ready (rs := [14]) (by kernel_rfl) (by simp) ?_
         refine AllReadyH.cons rfl (fun K hK => ?_) ?_
         ·have HOQ : Hid (SmS (fun b => okm b ∧ b < w.heap.size) w1 wr13 w1.heap.size b3 k k N a b vF (.slice Au N cu) (.slice AT k cT) fs ts) := hQq.out.grow (hEX13)
          refine step_append_row (ok := fun _ => True) rfl _ _ _ eTask rfl w1.heap.size k 1 ts [.string sn, .slice D1 L1.length d1, .slice D2 L2.length d2] _ _ rfl rfl ((HOQ.out.T).alloc _) (row3 wr13 _ _ _ _) (by simp [Value.oneCell']) (Nat.le_trans HOQ.out.ext.size (by simp)) (by unfold maxLen; omega) (by omega) ?_
          intro vT9 w9 hoT hgT hvT
          clear hvT
          have hO9 := HOQ.out.addT hoT hgT (fun w2 hk hs j hj => by
           have hlen : ts.length = k * 3 := HOQ.out.T.1
           rcases Nat.lt_or_ge j k with h1 | h1
           ·obtain ⟨s, u1, u2, h2, h3, h4, h5, h6⟩ := HOQ.out.td.keep hk j h1
            exact ⟨s, u1, u2, by rw [List.getElem?_append_left (by omega)]; exact h2, by rw [List.getElem?_append_left (by omega)]; exact h3, by rw [List.getElem?_append_left (by omega)]; exact h4, h5, h6⟩
           ·obtain rfl : j = k := by omega
            exact ⟨sn, .slice D1 L1.length d1, .slice D2 L2.length d2, by rw [List.getElem?_append_right (by omega), show j * 3 - ts.length = 0 from by omega]; rfl, by rw [List.getElem?_append_right (by omega), show j * 3 + 1 - ts.length = 1 from by omega]; rfl, by rw [List.getElem?_append_right (by omega), show j * 3 + 2 - ts.length = 2 from by omega]; rfl, TS.keep HTS1.out hk, TS.keep HTS2.out hk⟩)
          have HO9 := Lib.hid hO9
          have hb3w : w9.heap[b3]? = wr13.heap[b3]? := (hgT.block b3 (by have := lt_of_some HOQ.out.blk; simp; exact Nat.lt_succ_of_lt this) (fun e => own_blk_ne HOQ.out.T HOQ.out.blk (by decide) e.symm)).trans (Below.heap_alloc _ _ _ (lt_of_some HOQ.out.blk))
          have hb66 := HB6.out.ext (hEX13)
          have hb6w : w9.heap[b6]? = wr13.heap[b6]? := (hgT.block b6 (by have := lt_of_some hb66; simp; exact Nat.lt_succ_of_lt this) (fun e => HT6.out e.symm)).trans (Below.heap_alloc _ _ _ (lt_of_some hb66))
          have c39 : w9.cell? ⟨b3, 5, none⟩ = some (.slice AT k cT) := (World.cell?_of_block (a := ⟨b3, 5, none⟩) hb3w).trans (HOQ.out.blk.cell (k := 5) rfl)
          have f39 : w9.frozen? ⟨b3, 5, none⟩ = false := (World.frozen?_of_block (a := ⟨b3, 5, none⟩) hb3w).trans (HOQ.out.blk.frozen 5)
          have hx9 : Ext w1 w9 := (HOQ.out.ext.alloc _).grown hgT (Nat.le_trans HOQ.out.ext.size (by simp)) (fun k hk => (HOQ.out.T.lt k hk).1)
          have h69 : Blk w9 b6 75 #[.string sn, .slice A1 L1.length c1, .slice A2 L2.length c2] := hb6w.trans hb66
          obtain ⟨AF9, cF9, rfl, -⟩ := Row.of_own hoT
          have hSA : Ext w1 w9 ∧ Blk w9 b6 75 #[.string sn, .slice A1 L1.length c1, .slice A2 L2.length c2] := ⟨hx9, h69⟩
          have HSA := Lib.hid hSA
          clear hO9 hoT hgT hb3w hb6w hb66 hx9 h69 hSA
          refine hK.out _ _ (HSA.out) (fun hHeld => ?_)
          clear hK K
          try simp only [rtPr, Act.put]
          refine wpAnyH_take (i := 15) (v := ?v27) rfl (by kernel_rfl) (by kernel_rfl) (by kernel_rfl) (fun _ _ _ h => h) (Or.inl ⟨?w27, ?y27⟩) hHeld ?r27
          case w27 => rfl
          case y27 => (intro w hSw; go_simp; try with_reducible rfl)
          simp only [rtPr, Act.put]
          refine wpAnyH_ready (rs := [16]) (by kernel_rfl) (by simp) ?_
          refine AllReadyH.cons rfl (fun K hK => ?_) ?_
          ·go_simp
           refine hK.out _ _ (⟨HSA.out.1.setCell (p := ⟨b3, 5, none⟩) (show w1.heap.size ≤ b3 from HO9.out.h5) _, (Below.heap_setCell w9 ⟨b3, 5, none⟩ _ b6 hne63).trans HSA.out.2⟩) (fun hHeld => ?_)
           clear hK K
           try simp only [rtPr, Act.put]
           refine wpAnyH_done (by kernel_rfl) ?_ _
           clear hHeld c39 f39
           go_wp2_with fail
           go_meet
           exact ⟨_, _, HO9⟩
          exact AllReadyH.nil
         exact AllReadyH.nil
        exact AllReadyH.nil
       exact AllReadyH.nil
      exact AllReadyH.nil
     exact AllReadyH.nil
    case rest =>
     obtain ⟨vT, ts, hQq'⟩ := hcut
     clear hQq c3 hxq HB6 hr60 hr61 hr62 HI1 HI2 HSZ HT6 hne63 wq
     obtain ⟨wq, rfl⟩ : ∃ wq : World, wq = wc := ⟨_, rfl⟩
     have hQq := hQq'
     clear hQq'
     have hxq : Ext w1 wq := hQq.out.ext
     have hkf : k < m.free.length := by have := HMM.out.good.fl; have := HKT.out; omega
     obtain ⟨bf, off2, uk, rfl, hok, hcK, hbk⟩ := eachAt HRF.out HEF.out hkf hkf
     have hKl : ((m.free[k]).length : Int) = m.n := HMM.out.good.fn _ (List.getElem_mem hkf)
     obtain ⟨LK, hLK⟩ : ∃ LK, LK = m.free[k] := ⟨_, rfl⟩
     rw [← hLK] at hbk hKl
     have hbk0 := hbk
     obtain ⟨Ak, ck, rfl, hck, -⟩ := hbk0
     have hNK : N ≤ LK.length := by have := HAB.out.hle; have := HN.out; omega
     have HBK : Hid (FS (fun b => okm b ∧ b < w.heap.size) w1 N (.slice Ak N ck)) := ⟨LK.take N, by rw [List.length_take]; omega, (bools_takeS hbk hNK).below HEA.out⟩
     have hsK : ∀ W, (Instr.slice 28 (.slice Ak LK.length ck) none (some (.int .i64 (N : Int))) none).run Try.prog W = .ok (.slice Ak N ck) W := slice_highS 28 4 Try.underlying28 1 (by kernel_rfl) Ak LK.length ck N (by omega)
     have hsK2 : ∀ W, (Instr.sliceAt 28 (.slice Ak LK.length ck) none (some (.int .i64 (N : Int))) none).run Try.prog W = .ok (.slice Ak N ck) W := fun W => by
      rw [run_sliceAt_slice W _ _ _ _ _ Try.underlying28]; exact hsK W
     have qk : ∀ W, Ext w1 W → W.cell? ⟨bf, off2 + k, none⟩ = some (.slice Ak LK.length ck) := fun W h => Ext.rule hcK W (HEA.out.trans h)
     have hkk1 : (0 : Int) ≤ (k : Int) ∧ (k : Int) < (m.free.length : Int) := by omega
     obtain ⟨AF, cF, hvF, -, -⟩ := Row.of_own hQq.out.F
     subst hvF
     have c3 : wq.cell? ⟨b3, 3, none⟩ = some (.slice AF k cF) := hQq.out.blk.cell (k := 3) rfl
     clear hbk hLK hkf hKl hNK hcK
     go_upto_region 10 with fail
     refine wp_region_held_drew (S := (fun W => Ext w1 W)) mixedA (hxq.drew) (fun hHeld => ?_)
     have hwq : Ext wq wq.drew := (Ext.refl wq).drew
     generalize wq.drew = wd at hHeld hwq ⊢
     refine wpAnyH_take (i := 0) (v := ?v28) rfl (by kernel_rfl) (by kernel_rfl) (by kernel_rfl) (fun _ _ _ h => h) (Or.inl ⟨?w28, ?y28⟩) hHeld ?r28
     case w28 => rfl
     case y28 => (intro w hSw; go_simp; try with_reducible rfl)
     simp only [rtPr, Act.put]
     refine wpAnyH_take (i := 2) (v := ?v29) rfl (by kernel_rfl) (by kernel_rfl) (by kernel_rfl) (fun _ _ _ h => h) (Or.inl ⟨?w29, ?y29⟩) hHeld ?r29
     case w29 => rfl
     case y29 => (intro w hSw; go_simp; try with_reducible rfl)
     simp only [rtPr, Act.put]
     refine wpAnyH_take (i := 3) (v := ?v30) rfl (by kernel_rfl) (by kernel_rfl) (by kernel_rfl) (fun _ _ _ h => h) (Or.inl ⟨?w30, ?y30⟩) hHeld ?r30
     case w30 => rfl
     case y30 => (intro w hSw; go_simp; try with_reducible rfl)
     simp only [rtPr, Act.put]
     refine wpAnyH_take (i := 4) (v := ?v31) rfl (by kernel_rfl) (by kernel_rfl) (by kernel_rfl) (fun _ _ _ h => h) (Or.inl ⟨?w31, ?y31⟩) hHeld ?r31
     case w31 => rfl
     case y31 => (intro w hSw; go_simp; try with_reducible rfl)
     simp only [rtPr, Act.put]
     refine wpAnyH_take (i := 5) (v := ?v32) rfl (by kernel_rfl) (by kernel_rfl) (by kernel_rfl) (fun _ _ _ h => h) (Or.inl ⟨?w32, ?y32⟩) hHeld ?r32
     case w32 => rfl
     case y32 => (intro w hSw; go_simp; try with_reducible rfl)
     simp only [rtPr, Act.put]
     refine wpAnyH_take (i := 6) (v := ?v33) rfl (by kernel_rfl) (by kernel_rfl) (by kernel_rfl) (fun _ _ _ h => h) (Or.inl ⟨?w33, ?y33⟩) hHeld ?r33
     case w33 => rfl
     case y33 => (intro w hSw; go_simp; try with_reducible rfl)
     simp only [rtPr, Act.put]
     refine wpAnyH_take (i := 7) (v := ?v34) rfl (by kernel_rfl) (by kernel_rfl) (by kernel_rfl) (fun _ _ _ h => h) (Or.inl ⟨?w34, ?y34⟩) hHeld ?r34
     case w34 => rfl
     case y34 => (intro w hSw; go_simp; try with_reducible rfl)
     simp only [rtPr, Act.put]
     refine wpAnyH_take (i := 8) (v := ?v35) rfl (by kernel_rfl) (by kernel_rfl) (by kernel_rfl) (fun _ _ _ h => h) (Or.inl ⟨?w35, ?y35⟩) hHeld ?r35
     case w35 => rfl
     case y35 => (intro w hSw; go_simp; try with_reducible rfl)
     simp only [rtPr, Act.put]
     refine wpAnyH_ready (rs := [1, 9]) (by kernel_rfl) (by simp) ?_
     refine AllReadyH.cons rfl (fun K hK => ?_) ?_
     ·have hcl : wd.cell? ⟨b3, 3, none⟩ = some (.slice AF k cF) := Ext.cell c3 (hwq)
      go_simp
      clear hcl
      refine hK.out _ _ (hHeld) (fun hHeld => ?_)
      clear hK K
      try simp only [rtPr, Act.put]
      refine wpAnyH_ready (rs := [9]) (by kernel_rfl) (by simp) ?_
      refine AllReadyH.cons rfl (fun K hK => ?_) ?_
      ·go_simp
       have hEX2 : Ext wq (wd.alloc (.cells #[.slice Ak N ck] 28)) := (hwq).alloc _
       refine hK.out _ _ (hxq.trans hEX2) (fun hHeld => ?_)
       clear hK K
       try simp only [rtPr, Act.put]
       refine wpAnyH_ready (rs := [10]) (by kernel_rfl) (by simp) ?_
       refine AllReadyH.cons rfl (fun K hK => ?_) ?_
       ·have HOQ : Hid (SmS (fun b => okm b ∧ b < w.heap.size) w1 wd w1.heap.size b3 k (k + 1) N a b (.slice AF k cF) (.slice Au N cu) vT fs ts) := hQq.out.grow (hwq)
        refine step_append_row (ok := fun _ => True) rfl _ _ _ eBools rfl w1.heap.size k 1 fs [.slice Ak N ck] _ _ rfl rfl ((HOQ.out.F).alloc _) ⟨_, _, rfl, Nat.le_refl _, RowA.block (Blk.new _ _ _ rfl) trivial rfl⟩ (by simp [Value.oneCell']) (Nat.le_trans HOQ.out.ext.size (by simp)) (by unfold maxLen; omega) (by omega) ?_
        intro vF9 w9 hoF hgF hvF
        clear hvF
        have hO9 := HOQ.out.addF hoF hgF (fun u hu => by
         rw [List.mem_singleton] at hu
         subst hu
         exact HBK.out.keep HOQ.out.hok (KeepI.of_ext (hxq.trans (hwq))))
        have HO9 := Lib.hid hO9
        have hb3w : w9.heap[b3]? = wd.heap[b3]? := (hgF.block b3 (by have := lt_of_some HOQ.out.blk; simp; exact Nat.lt_succ_of_lt this) (fun e => own_blk_ne HOQ.out.F HOQ.out.blk (by decide) e.symm)).trans (Below.heap_alloc _ _ _ (lt_of_some HOQ.out.blk))
        have c39 : w9.cell? ⟨b3, 3, none⟩ = some (.slice AF k cF) := (World.cell?_of_block (a := ⟨b3, 3, none⟩) hb3w).trans (HOQ.out.blk.cell (k := 3) rfl)
        have f39 : w9.frozen? ⟨b3, 3, none⟩ = false := (World.frozen?_of_block (a := ⟨b3, 3, none⟩) hb3w).trans (HOQ.out.blk.frozen 3)
        have hx9 : Ext w1 w9 := (HOQ.out.ext.alloc _).grown hgF (Nat.le_trans HOQ.out.ext.size (by simp)) (fun k hk => (HOQ.out.F.lt k hk).1)
        obtain ⟨AF9, cF9, rfl, -⟩ := Row.of_own hoF
        have HSA := Lib.hid hx9
        clear hO9 hoF hgF hb3w hx9
        refine hK.out _ _ (HSA.out) (fun hHeld => ?_)
        clear hK K
        try simp only [rtPr, Act.put]
        refine wpAnyH_take (i := 11) (v := ?v36) rfl (by kernel_rfl) (by kernel_rfl) (by kernel_rfl) (fun _ _ _ h => h) (Or.inl ⟨?w36, ?y36⟩) hHeld ?r36
        case w36 => rfl
        case y36 => (intro w hSw; go_simp; try with_reducible rfl)
        simp only [rtPr, Act.put]
        refine wpAnyH_ready (rs := [12]) (by kernel_rfl) (by simp) ?_
        refine AllReadyH.cons rfl (fun K hK => ?_) ?_
        ·go_simp
         refine hK.out _ _ (HSA.out.setCell (p := ⟨b3, 3, none⟩) (show w1.heap.size ≤ b3 from HO9.out.h5) _) (fun hHeld => ?_)
         clear hK K
         try simp only [rtPr, Act.put]
         refine wpAnyH_done (by kernel_rfl) ?_ _
         clear hHeld c39 f39
         go_wp2_with fail
         go_roundg (2 - (k + 1))
         case measure => omega
         case rel => exact ⟨k + 1, _, _, _, _, by go_num, by omega, by omega, rfl, HO9.out⟩
        exact AllReadyH.nil
       exact AllReadyH.nil
      exact AllReadyH.nil
     refine AllReadyH.cons rfl (fun K hK => ?_) ?_
     ·go_simp
      have hEX5 : Ext wq (wd.alloc (.cells #[.slice Ak N ck] 28)) := (hwq).alloc _
      refine hK.out _ _ (hxq.trans hEX5) (fun hHeld => ?_)
      clear hK K
      try simp only [rtPr, Act.put]
      refine wpAnyH_ready (rs := [1]) (by kernel_rfl) (by simp) ?_
      refine AllReadyH.cons rfl (fun K hK => ?_) ?_
      ·have hcl : (wd.alloc (.cells #[.slice Ak N ck] 28)).cell? ⟨b3, 3, none⟩ = some (.slice AF k cF) := Ext.cell c3 (hEX5)
       go_simp
       clear hcl
       refine hK.out _ _ (hxq.trans hEX5) (fun hHeld => ?_)
       clear hK K
       try simp only [rtPr, Act.put]
       refine wpAnyH_ready (rs := [10]) (by kernel_rfl) (by simp) ?_
       refine AllReadyH.cons rfl (fun K hK => ?_) ?_
       ·have HOQ : Hid (SmS (fun b => okm b ∧ b < w.heap.size) w1 wd w1.heap.size b3 k (k + 1) N a b (.slice AF k cF) (.slice Au N cu) vT fs ts) := hQq.out.grow (hwq)
        refine step_append_row (ok := fun _ => True) rfl _ _ _ eBools rfl w1.heap.size k 1 fs [.slice Ak N ck] _ _ rfl rfl ((HOQ.out.F).alloc _) ⟨_, _, rfl, Nat.le_refl _, RowA.block (Blk.new _ _ _ rfl) trivial rfl⟩ (by simp [Value.oneCell']) (Nat.le_trans HOQ.out.ext.size (by simp)) (by unfold maxLen; omega) (by omega) ?_
        intro vF9 w9 hoF hgF hvF
        clear hvF
        have hO9 := HOQ.out.addF hoF hgF (fun u hu => by
         rw [List.mem_singleton] at hu
         subst hu
         exact HBK.out.keep HOQ.out.hok (KeepI.of_ext (hxq.trans (hwq))))
        have HO9 := Lib.hid hO9
        have hb3w : w9.heap[b3]? = wd.heap[b3]? := (hgF.block b3 (by have := lt_of_some HOQ.out.blk; simp; exact Nat.lt_succ_of_lt this) (fun e => own_blk_ne HOQ.out.F HOQ.out.blk (by decide) e.symm)).trans (Below.heap_alloc _ _ _ (lt_of_some HOQ.out.blk))
        have c39 : w9.cell? ⟨b3, 3, none⟩ = some (.slice AF k cF) := (World.cell?_of_block (a := ⟨b3, 3, none⟩) hb3w).trans (HOQ.out.blk.cell (k := 3) rfl)
        have f39 : w9.frozen? ⟨b3, 3, none⟩ = false := (World.frozen?_of_block (a := ⟨b3, 3, none⟩) hb3w).trans (HOQ.out.blk.frozen 3)
        have hx9 : Ext w1 w9 := (HOQ.out.ext.alloc _).grown hgF (Nat.le_trans HOQ.out.ext.size (by simp)) (fun k hk => (HOQ.out.F.lt k hk).1)
        obtain ⟨AF9, cF9, rfl, -⟩ := Row.of_own hoF
        have HSA := Lib.hid hx9
        clear hO9 hoF hgF hb3w hx9
        refine hK.out _ _ (HSA.out) (fun hHeld => ?_)
        clear hK K
        try simp only [rtPr, Act.put]
        refine wpAnyH_take (i := 11) (v := ?v37) rfl (by kernel_rfl) (by kernel_rfl) (by kernel_rfl) (fun _ _ _ h => h) (Or.inl ⟨?w37, ?y37⟩) hHeld ?r37
        case w37 => rfl
        case y37 => (intro w hSw; go_simp; try with_reducible rfl)
        simp only [rtPr, Act.put]
        refine wpAnyH_ready (rs := [12]) (by kernel_rfl) (by simp) ?_
        refine AllReadyH.cons rfl (fun K hK => ?_) ?_
        ·go_simp
         refine hK.out _ _ (HSA.out.setCell (p := ⟨b3, 3, none⟩) (show w1.heap.size ≤ b3 from HO9.out.h5) _) (fun hHeld => ?_)
         clear hK K
         try simp only [rtPr, Act.put]
         refine wpAnyH_done (by kernel_rfl) ?_ _
         clear hHeld c39 f39
         go_wp2_with fail
         go_roundg (2 - (k + 1))
         case measure => omega
         case rel => exact ⟨k + 1, _, _, _, _, by go_num, by omega, by omega, rfl, HO9.out⟩
        exact AllReadyH.nil
       exact AllReadyH.nil
      exact AllReadyH.nil
     exact AllReadyH.nil
   ·have hno : decide (k < m.tasks.length) = false ∨ (decide (k < m.tasks.length) = true ∧ decide ((k : Int) < 2) = false) := by
     by_cases h1 : k < m.tasks.length
     ·exact .inr ⟨decide_eq_true h1, decide_eq_false (by omega)⟩
     ·exact .inl (decide_eq_false h1)
    obtain ⟨m', hmz, hsm, e1, e2, e3⟩ := hQ.out.fin HAB.out.ha HAB.out.hb HN.out.symm hN9.1 hk2
    have hfin : ∃ m' vF' vU' vT', Blk w0 b3 31 #[.int .i64 m'.w, .int .i64 m'.h, .int .i64 m'.l, vF', vU', vT'] ∧ MazeV w0 (fun b => (okm b ∧ b < w.heap.size) ∨ w1.heap.size ≤ b) (.agg #[.int .i64 m'.w, .int .i64 m'.h, .int .i64 m'.l, vF', vU', vT']) m' ∧ SmallM m' ∧ Ext w1 w0 := ⟨m', _, _, _, by rw [e1, e2, e3]; exact hQ.out.blk, by rw [e1, e2, e3]; exact hmz, hsm, hQ.out.ext⟩
    have HFN := Lib.hid hfin
    clear hgo hQ hfin hmz hsm e1 e2 e3
    rcases hno with g1 | ⟨g1, g2⟩
    all_goals
     go_upto_region 11 with fail
     generalize w0 = wc at *
     have hfin := HFN.out
     obtain ⟨m', vF', vU', vT', hbk, hmz, hob, hext⟩ := hfin
     have HMZ := Lib.hid hmz
     have HOB' := Lib.hid hob
     have HEX := Lib.hid hext
     obtain ⟨f', u', t', e', ⟨_, ⟨A1, c1, rfl, -⟩, -⟩, ⟨A2, c2, rfl, -⟩, ⟨_, ⟨A3, c3, rfl, -⟩, -⟩⟩ := hmz
     injection e' with e'
     injection e' with e'
     simp only [List.cons.injEq, and_true, true_and] at e'
     obtain ⟨rfl, rfl, rfl⟩ := e'
     have m0 : wc.cell? ⟨b3, 0, none⟩ = some (.int .i64 m'.w) := hbk.cell (k := 0) rfl
     have m1 : wc.cell? ⟨b3, 1, none⟩ = some (.int .i64 m'.h) := hbk.cell (k := 1) rfl
     have m2 : wc.cell? ⟨b3, 2, none⟩ = some (.int .i64 m'.l) := hbk.cell (k := 2) rfl
     have m3 : wc.cell? ⟨b3, 3, none⟩ = some (.slice A1 m'.free.length c1) := hbk.cell (k := 3) rfl
     have m4 : wc.cell? ⟨b3, 4, none⟩ = some (.slice A2 m'.up.length c2) := hbk.cell (k := 4) rfl
     have m5 : wc.cell? ⟨b3, 5, none⟩ = some (.slice A3 m'.tasks.length c3) := hbk.cell (k := 5) rfl
     have hBZ : Blk wc b2 31 #[.int .i64 0, .int .i64 0, .int .i64 0, .slice none 0 0, .slice none 0 0, .slice none 0 0] := HB2.out.ext hext
     have z0 : wc.cell? ⟨b2, 0, none⟩ = some (.int .i64 0) := hBZ.cell (k := 0) rfl
     have z1 : wc.cell? ⟨b2, 1, none⟩ = some (.int .i64 0) := hBZ.cell (k := 1) rfl
     have z2 : wc.cell? ⟨b2, 2, none⟩ = some (.int .i64 0) := hBZ.cell (k := 2) rfl
     have z3 : wc.cell? ⟨b2, 3, none⟩ = some (.slice none 0 0) := hBZ.cell (k := 3) rfl
     have z4 : wc.cell? ⟨b2, 4, none⟩ = some (.slice none 0 0) := hBZ.cell (k := 4) rfl
     have z5 : wc.cell? ⟨b2, 5, none⟩ = some (.slice none 0 0) := hBZ.cell (k := 5) rfl
     have hfz : ∀ j, wc.frozen? ⟨b2, j, none⟩ = false := fun j => hBZ.frozen j
     have HBZ := Lib.hid hBZ
     clear hbk hob hext hBZ
     go_wp2_with fail
     refine case_fin (P := fun W => bodyPost Try.prog Try.f34 (SmallPost w okm) Exit.ret _ W) (g2 := b2) ?_ HBZ.out
     intro WZ hbz hEb hk
     have y0 : WZ.cell? ⟨b2, 0, none⟩ = some (.int .i64 m'.w) := hbz.cell (k := 0) rfl
     have y1 : WZ.cell? ⟨b2, 1, none⟩ = some (.int .i64 m'.h) := hbz.cell (k := 1) rfl
     have y2 : WZ.cell? ⟨b2, 2, none⟩ = some (.int .i64 m'.l) := hbz.cell (k := 2) rfl
     have y3 : WZ.cell? ⟨b2, 3, none⟩ = some (.slice A1 m'.free.length c1) := hbz.cell (k := 3) rfl
     have y4 : WZ.cell? ⟨b2, 4, none⟩ = some (.slice A2 m'.up.length c2) := hbz.cell (k := 4) rfl
     have y5 : WZ.cell? ⟨b2, 5, none⟩ = some (.slice A3 m'.tasks.length c3) := hbz.cell (k := 5) rfl
     exact bodyPost_ret (v := .agg #[.int .i64 m'.w, .int .i64 m'.h, .int .i64 m'.l, .slice A1 m'.free.length c1, .slice A2 m'.up.length c2, .slice A3 m'.tasks.length c3]) (by simp [results, Try.results34, go_sem, y0, y1, y2, y3, y4, y5]) rfl
      ⟨_, m', rfl, Below.trans (HEA.out.trans HEX.out) (hEb.mono HBS.out.2.1), (HMZ.out.keep (w' := WZ) (fun b hb hlt => hk b hlt (by have := HBS.out; rcases hb with hb | hb <;> omega))).weaken (fun b hb => hb.elim .inl (fun h => .inr (by have := HBS.out; omega))), HOB'.out⟩
end Go.Proofs.Ytgpjfpcjiebjiaa
