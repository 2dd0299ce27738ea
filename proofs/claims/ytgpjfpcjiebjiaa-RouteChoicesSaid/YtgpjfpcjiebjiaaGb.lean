/- Walks: the neighbours of a node. -/
import Derived.Test.YtgpjfpcjiebjiaaGa
import Derived.Deep.DeepCutAuto
import Derived.Deep.AppendLies
import Derived.Deep.Onto
namespace Go.Proofs.Ytgpjfpcjiebjiaa
open Go.RowKit
set_option linter.unusedVariables false
set_option linter.unusedSimpArgs false

theorem Try.infoInt : (Try.prog.info? 3).map (fun i => (i.zero, i.size, i.bytes)) = some (some (.int .i64 0), 1, 8) := by kernel_rfl

/-- What 'if c { l = append(l, x) }' makes of l. -/
def ap (c : Bool) (x : Int) (l : List Int) : List Int := if c then l ++ [x] else l
theorem ap_len (c : Bool) (x : Int) (l : List Int) : (ap c x l).length ≤ l.length + 1 := by
 unfold ap; split <;> simp
theorem map_snoc (l : List Int) (x : Int) : (l ++ [x]).map (Value.int .i64) = l.map (Value.int .i64) ++ [.int .i64 x] := by simp

def Blk (w : World) (g : Nat) (t : TypeId) (cs : Array Value) : Prop := w.heap[g]? = some (.cells cs t (0, 0))
theorem Blk.ne_ {w : World} {g g' : Nat} {t t' : TypeId} {cs cs' : Array Value} (h : Blk w g t cs) (h' : Blk w g' t' cs') (hne : t ≠ t') : g ≠ g' := by
 rintro rfl
 unfold Blk at h h'
 rw [h] at h'
 injection h' with h'
 injection h' with _ ht
 exact hne ht
theorem own_blk_ne {w : World} {base : Nat} {e : TypeId} {size n : Nat} {v : Value} {xs : List Value} {g : Nat} {t : TypeId} {cs : Array Value} (h : w.ownsRow base e size v n xs) (hg : Blk w g t cs) (hne : e ≠ t) : v.ownBlock ≠ some g := by
 rcases h.2 with ⟨rfl, _⟩ | ⟨g', cap, cur, rfl, _, hh, _⟩
 ·simp [Value.ownBlock]
 ·intro he
  have : g' = g := by simpa [Value.ownBlock] using he
  subst this
  exact Blk.ne_ (t := e) hh hg hne rfl

/-- A captured list that grows: the variable at gb holds a slice of the call's own. -/
def Acc (w0 w : World) (B gb : Nat) (l : List Int) : Prop :=
 ∃ v, Blk w gb 24 #[v] ∧ w.ownsRow B 3 1 v l.length (l.map (Value.int .i64)) ∧ B ≤ gb ∧ Below B w0 w

/-- 'append(l, x)' onto a slice of the call's own. -/
theorem wpApp1 {ops : Array Oper} {rest : List Oper} {o : Oper} {a : Act} {Q : Exit → Act → World → Prop} (hgd : o.guard = none) (s y : Operand)
  (ho : o.op = .call { callee := .builtin .append, args := #[s, y], argTypes := #[24, 24] }) (W : World) (l : List Int) (x : Int) (B g c : Nat) (v : Value) (hs : a.eval s = v)
  (hy : a.eval y = .slice (some ⟨g, 0, none⟩) 1 c) (hown : W.ownsRow B 3 1 v l.length (l.map (Value.int .i64))) (hc : W.cell? ⟨g, 0, none⟩ = some (.int .i64 x)) (hB : B ≤ W.heap.size) (hl : l.length ≤ 1000000000000)
  (h : ∀ v' w', w'.ownsRow B 3 1 v' (l ++ [x]).length ((l ++ [x]).map (Value.int .i64)) → W.grownBy w' v.ownBlock → wpList Try.prog ops Q rest (a.put o.dst v') w') : wpList Try.prog ops Q (o :: rest) a W := by
 obtain ⟨i0, hi, hz0, hz1, hz2⟩ := info_parts Try.infoInt
 refine wpList_append_own _ hgd _ _ 24 ho B 3 i0 (.int .i64 0) 1 8 Try.underlying24 hi hz0 hz1 hz2 rfl (by decide) _ _ _ hs hown ⟨g, 0, none⟩ 1 c [.int .i64 x] hy rfl ?_ ?_ ?_ ?_ hB ?_
 ·intro j u hu
  match j, hu with
  | 0, hu =>
   have : u = .int .i64 x := by simpa using hu.symm
   rw [this]
   exact hc
 ·intro u hu
  have : u = .int .i64 x := by simpa using hu
  rw [this]; rfl
 ·unfold maxLen; omega
 ·omega
 ·intro v' w' h1 h2 _
  refine h v' w' ?_ h2
  rw [map_snoc, List.length_append]
  exact h1

set_option maxRecDepth 100000 in
theorem add_calls (w0 w : World) (B gb : Nat) (l : List Int) (c : Bool) (x : Int) (h : Acc w0 w B gb l) (hl : l.length ≤ 1000) (hB : B ≤ w0.heap.size) :
  Calls Try.prog 83 #[.bool c, .int .i64 x, .pointer (some ⟨gb, 0, none⟩)] w fun e w' => e = .returned (.tuple #[]) ∧ Acc w0 w' B gb (ap c x l) := by
 have hacc := h
 obtain ⟨v, hg, hown, hBg, hb⟩ := h
 cases c with
 | false =>
  go_enter Try.func83, Try.ntmps83
  go_wp2
  go_end0
  exact ⟨rfl, hacc⟩
 | true =>
  have hcell : w.cell? ⟨gb, 0, none⟩ = some v := by unfold World.cell?; simp only [show w.heap[gb]? = _ from hg]; rfl
  have hne := own_blk_ne hown hg (by decide)
  have hlt : gb < w.heap.size := lt_of_some hg
  have hBs : B ≤ w.heap.size := Nat.le_trans hB hb.size
  have HG := Lib.hid hg; clear hg
  have HB := Lib.hid hb; clear hb
  clear hacc
  go_enter Try.func83, Try.ntmps83
  go_wp2_with (at_builtin; refine wpApp1 rfl _ _ rfl _ l x B w.heap.size 1 v rfl rfl (hown.alloc _) ?c1 ?c2 ?c3 ?_)
  case c1 => simp
  case c2 => simp; omega
  case c3 => omega
  intro v' w1 hown' hgrow
  obtain ⟨g', cap', rfl, hgB, hg'⟩ := hown'.form (by simp)
  have hg1 : Blk w1 gb 24 #[v] := (hgrow.block gb (by simp; omega) (fun e => hne e.symm)).trans ((Below.heap_alloc w _ gb hlt).trans HG.out)
  have hcell1 : w1.cell? ⟨gb, 0, none⟩ = some v := by unfold World.cell?; simp only [show w1.heap[gb]? = _ from hg1]; rfl
  have hfz : w1.frozen? ⟨gb, 0, none⟩ = false := by unfold World.frozen?; simp [show w1.heap[gb]? = _ from hg1]
  have HG1 := Lib.hid hg1; clear hg1
  have HGR := Lib.hid hgrow; clear hgrow
  have HO := Lib.hid hown'; clear hown'
  clear hgB hg'
  go_wp2
  go_end0
  have hbw1 : Below B w0 w1 := (HB.out.alloc hBs _).grown HGR.out (by simp; omega) (fun k hk => by
   have := (hown.lt k hk).1; omega)
  refine ⟨rfl, .slice (some ⟨g', 0, none⟩) (l ++ [x]).length cap', ?_, ?_, hBg, hbw1.setCell hBg _⟩
  ·have := HG1.out
   unfold Blk at this ⊢
   simp [World.setCell, Array.getElem?_modify, this]
  ·have h := ownsRow_setCell_other (a := ⟨gb, 0, none⟩) HO.out (own_blk_ne (t := 24) HO.out HG1.out (by decide)) (.slice (some ⟨g', 0, none⟩) (l ++ [x]).length cap')
   simpa [ap] using h

/-- .. with a bound on its length. -/
def AccK (w0 w : World) (B gb k : Nat) (l : List Int) : Prop := Acc w0 w B gb l ∧ l.length ≤ k ∧ B ≤ w0.heap.size
theorem addK (w0 w : World) (B gb k : Nat) (l : List Int) (c : Bool) (x : Int) (h : AccK w0 w B gb k l) (hk : k ≤ 1000) :
  Calls Try.prog 83 #[.bool c, .int .i64 x, .pointer (some ⟨gb, 0, none⟩)] w fun e w' => e = .returned (.tuple #[]) ∧ AccK w0 w' B gb (k + 1) (ap c x l) := by
 obtain ⟨h, hl, hB⟩ := h
 refine (add_calls w0 w B gb l c x h (by omega) hB).mono ?_
 rintro e w' ⟨rfl, h'⟩
 exact ⟨rfl, h', by have := ap_len c x l; omega, hB⟩
theorem AccK.below {w0 w : World} {B gb k : Nat} {l : List Int} (h : AccK w0 w B gb k l) : Below B w0 w := by
 obtain ⟨⟨v, _, _, _, hb⟩, _, _⟩ := h
 exact hb

theorem cells6 {w : World} {g : Nat} {t : TypeId} {a0 a1 a2 a3 a4 a5 : Value} (h : Blk w g t #[a0, a1, a2, a3, a4, a5]) :
  w.cell? ⟨g, 0, none⟩ = some a0 ∧ w.cell? ⟨g, 1, none⟩ = some a1 ∧ w.cell? ⟨g, 2, none⟩ = some a2 ∧ w.cell? ⟨g, 3, none⟩ = some a3 ∧ w.cell? ⟨g, 4, none⟩ = some a4 ∧ w.cell? ⟨g, 5, none⟩ = some a5 := by
 unfold Blk at h
 unfold World.cell?
 simp only [h]
 exact ⟨rfl, rfl, rfl, rfl, rfl, rfl⟩
theorem Blk.below {w w' : World} {g B : Nat} {t : TypeId} {cs : Array Value} (h : Blk w g t cs) (hb : Below B w w') (hg : g < B) : Blk w' g t cs := (hb.block g hg).trans h
theorem Blk.alloc {w : World} {g : Nat} {t : TypeId} {cs : Array Value} (h : Blk w g t cs) (o : Obj) : Blk (w.alloc o) g t cs := (Below.heap_alloc w o g (lt_of_some h)).trans h
theorem Acc.new (w1 : World) : AccK w1 (w1.alloc (.cells #[.slice none 0 0] 24)) w1.heap.size w1.heap.size 0 [] :=
 ⟨⟨.slice none 0 0, heap_alloc_new _ _, (World.ownsRow_nil _ _ _ _), Nat.le_refl _, (Below.refl _ _).alloc (Nat.le_refl _) _⟩, Nat.le_refl _, Nat.le_refl _⟩
theorem AccK.end_ {w0 w : World} {B gb k : Nat} {l : List Int} (h : AccK w0 w B gb k l) : ∃ v, w.cell? ⟨gb, 0, none⟩ = some v ∧ w.ownsRow B 3 1 v l.length (l.map (Value.int .i64)) := by
 obtain ⟨⟨v, hg, ho, _, _⟩, _, _⟩ := h
 refine ⟨v, ?_, ho⟩
 unfold Blk at hg
 unfold World.cell?
 simp only [hg]
 rfl

theorem AccK.more {w0 w w' : World} {B gb k : Nat} {l : List Int} (h : AccK w0 w B gb k l) (hb : Below w.heap.size w w') : AccK w0 w' B gb k l := by
 obtain ⟨⟨v, hg, ho, hBg, hbl⟩, hl, hB⟩ := h
 exact ⟨⟨v, (hb.block gb (lt_of_some hg)).trans hg, ho.kept (row := none) ⟨hb.os, hb.tape, hb.output, hb.size, fun i hi _ => hb.block i hi⟩ (by cases h : v.ownBlock <;> simp), hBg, below_tr hbl hb hB⟩, hl, hB⟩
theorem next_fin {w : World} {B : Nat} {v : Value} {l l' : List Int} (h : w.ownsRow B 3 1 v l.length (l.map (Value.int .i64))) (e : l' = l) : w.ownsRow B 3 1 v l'.length (l'.map (Value.int .i64)) := by
 rw [e]; exact h

/-- The neighbours of a node of a right maze. -/
def nextL (m : MZ) (node : Int) : List Int :=
 ap (decide (node + m.w * m.h < m.w * m.h * m.l) && m.up.getD node.toNat false) (node + m.w * m.h)
  (ap (decide (node / m.w % m.h + 1 < m.h)) (node + m.w)
   (ap (decide (node % m.w + 1 < m.w)) (node + 1)
    (ap (decide (0 < node % m.w)) (node - 1)
     (ap (decide (0 < node / m.w % m.h)) (node - m.w)
      (ap (decide (m.w * m.h ≤ node) && m.up.getD (node - m.w * m.h).toNat false) (node - m.w * m.h) [])))))

/-- A right maze's numbers. -/
structure Dim (m : MZ) : Prop where
 w1 : 1 ≤ m.w
 w2 : m.w ≤ 300
 h1 : 1 ≤ m.h
 h2 : m.h ≤ 300
 l1 : 1 ≤ m.l
 l2 : m.l ≤ 300
 n1 : m.w * m.h * m.l ≤ 300
 up : (m.up.length : Int) = m.w * m.h * m.l
theorem Dim.layer {m : MZ} (d : Dim m) : 1 ≤ m.w * m.h ∧ m.w * m.h ≤ m.w * m.h * m.l := by
 have h1 : 1 ≤ m.w * m.h := by
  have := Int.mul_le_mul d.w1 d.h1 (by omega) (by have := d.w1; omega)
  omega
 refine ⟨h1, ?_⟩
 have := Int.mul_le_mul_of_nonneg_left d.l1 (show 0 ≤ m.w * m.h by omega)
 omega

theorem next_eq (m : MZ) (node : Int) (b1 b2 : Bool) (h1 : b1 = (decide (m.w * m.h ≤ node) && m.up.getD (node - m.w * m.h).toNat false)) (h2 : b2 = (decide (node + m.w * m.h < m.w * m.h * m.l) && m.up.getD node.toNat false)) :
  nextL m node = ap b2 (node + m.w * m.h) (ap (decide (node / m.w % m.h + 1 < m.h)) (node + m.w) (ap (decide (node % m.w + 1 < m.w)) (node + 1) (ap (decide (0 < node % m.w)) (node - 1) (ap (decide (0 < node / m.w % m.h)) (node - m.w) (ap b1 (node - m.w * m.h) []))))) := by
 rw [h1, h2]; rfl
theorem up_true {p : Prop} [Decidable p] {up : List Bool} {k : Nat} (hp : p) (h : k < up.length) : up[k] = (decide p && up.getD k false) := by
 simp [hp, h]
theorem up_false {p : Prop} [Decidable p] {b : Bool} (hp : ¬ p) : false = (decide p && b) := by simp [hp]

set_option maxHeartbeats 4000000 in
set_option maxRecDepth 100000 in
theorem next_calls {ok : Nat → Prop} {v : Value} (m : MZ) (node : Int) (w : World) (hm : MazeV w ok v m) (d : Dim m) (h0 : 0 ≤ node) (h1 : node < m.w * m.h * m.l) :
  Calls Try.prog 55 #[v, .int .i64 node] w fun e w' => ∃ v', e = .returned v' ∧ Below w.heap.size w w' ∧ w'.ownsRow w.heap.size 3 1 v' (nextL m node).length ((nextL m node).map (Value.int .i64)) := by
 obtain ⟨f, u, t, rfl, _, hu, _⟩ := hm
 obtain ⟨A, c, rfl, hcc, hur⟩ := hu
 have hl := d.layer
 obtain ⟨hl1, hl2⟩ := hl
 obtain ⟨w1, w2, hh1, hh2, ll1, ll2, n1, hup⟩ := d
 obtain ⟨W, H, L, fr, up, ts⟩ := m
 simp only at *
 have HU := Lib.hid hur; clear hur
 have HUP := Lib.hid hup; clear hup
 go_enter Try.func55, Try.ntmps55
 have hq0 : 0 ≤ node / W := Int.ediv_nonneg h0 (by omega)
 have hq1 : node / W ≤ node := Int.ediv_le_self _ h0
 go_wp2_with fail
 go_quiet (fail)
 have hr0 : 0 ≤ node / W % H := Int.emod_nonneg _ (by omega)
 have hr1 : node / W % H < H := Int.emod_lt_of_pos _ (by omega)
 have hr2 : 0 ≤ node % W := Int.emod_nonneg _ (by omega)
 have hr3 : node % W < W := Int.emod_lt_of_pos _ (by omega)
 generalize hw1 : ((w.alloc (.cells #[.int .i64 W, .int .i64 H, .int .i64 L, f, .slice A up.length c, t] 31)).drewN nq) = w1
 have hb1 : Below w.heap.size w w1 := by rw [← hw1]; exact below_drewN ((Below.refl _ _).alloc (Nat.le_refl _) _) _
 have hgm : Blk w1 w.heap.size 31 #[.int .i64 W, .int .i64 H, .int .i64 L, f, .slice A up.length c, t] := by rw [← hw1]; exact heap_alloc_new _ _
 have HU1 := Lib.hid (HU.out.keep (Same.of_below hb1) : RowA w1 ok 1 A up.length (up.map Value.bool))
 clear hw1 HU
 have HM := Lib.hid hgm; clear hgm
 have HB1 := Lib.hid hb1; clear hb1
 by_cases hA : W * H ≤ node
 ·by_cases hB : node + W * H < W * H * L
  ·have hi1 : (node - W * H).toNat < up.length := by have := HUP.out; omega
   obtain ⟨b, off, hAe, _, hc1⟩ := boolsAt HU1.out hi1 hi1
   have hblt := lt_of_cell hc1
   have hi2 : node.toNat < up.length := by have := HUP.out; omega
   obtain ⟨b', off', hAe', _, hc2⟩ := boolsAt HU1.out hi2 hi2
   obtain ⟨rfl, rfl⟩ : b = b' ∧ off = off' := by rw [hAe] at hAe'; simpa using hAe'
   clear hAe'
   subst hAe
   obtain ⟨b1, hb1⟩ : ∃ b1, b1 = up[(node - W * H).toNat] := ⟨_, rfl⟩
   rw [← hb1] at hc1
   have HB1v := Lib.hid hb1; clear hb1
   obtain ⟨b2, hb2⟩ : ∃ b2, b2 = up[node.toNat] := ⟨_, rfl⟩
   rw [← hb2] at hc2
   have HB2v := Lib.hid hb2; clear hb2
   have hglt : w.heap.size < w1.heap.size := lt_of_some HM.out
   have hm6 := fun o => cells6 (HM.out.alloc o)
   obtain ⟨m0, m1, m2, m3, m4, m5⟩ : (∀ o, (w1.alloc o).cell? ⟨w.heap.size, 0, none⟩ = _) ∧ (∀ o, (w1.alloc o).cell? ⟨w.heap.size, 1, none⟩ = _) ∧ (∀ o, (w1.alloc o).cell? ⟨w.heap.size, 2, none⟩ = _) ∧ (∀ o, (w1.alloc o).cell? ⟨w.heap.size, 3, none⟩ = _) ∧ (∀ o, (w1.alloc o).cell? ⟨w.heap.size, 4, none⟩ = _) ∧ (∀ o, (w1.alloc o).cell? ⟨w.heap.size, 5, none⟩ = _) := ⟨fun o => (hm6 o).1, fun o => (hm6 o).2.1, fun o => (hm6 o).2.2.1, fun o => (hm6 o).2.2.2.1, fun o => (hm6 o).2.2.2.2.1, fun o => (hm6 o).2.2.2.2.2⟩
   clear hm6
   have u1 : ∀ o, (w1.alloc o).cell? ⟨b, off + (node - W * H).toNat, none⟩ = _ := fun o => (World.cell?_alloc_lt w1 o ⟨b, off + (node - W * H).toNat, none⟩ hblt).trans hc1
   have u2 : ∀ o, (w1.alloc o).cell? ⟨b, off + node.toNat, none⟩ = _ := fun o => (World.cell?_alloc_lt w1 o ⟨b, off + node.toNat, none⟩ hblt).trans hc2
   go_wp2_with fail
   refine (addK w1 _ w1.heap.size w1.heap.size 0 _ _ _ (Acc.new w1) (by omega)).mono ?_
   rintro e k1 ⟨rfl, a1⟩
   clear m0 m1 m2 m3 m4 m5 u1 u2
   obtain ⟨m0, m1, m2, m3, m4, m5⟩ := cells6 (HM.out.below a1.below hglt)
   have u1 := (a1.below.cell (p := ⟨b, off + (node - W * H).toNat, none⟩) hblt).trans hc1
   have u2 := (a1.below.cell (p := ⟨b, off + node.toNat, none⟩) hblt).trans hc2
   go_wp2_with fail
   refine (addK w1 _ w1.heap.size w1.heap.size 1 _ _ _ (a1) (by omega)).mono ?_
   rintro e k2 ⟨rfl, a2⟩
   clear m0 m1 m2 m3 m4 m5 u1 u2
   obtain ⟨m0, m1, m2, m3, m4, m5⟩ := cells6 (HM.out.below a2.below hglt)
   have u1 := (a2.below.cell (p := ⟨b, off + (node - W * H).toNat, none⟩) hblt).trans hc1
   have u2 := (a2.below.cell (p := ⟨b, off + node.toNat, none⟩) hblt).trans hc2
   go_wp2_with fail
   refine (addK w1 _ w1.heap.size w1.heap.size 2 _ _ _ (a2) (by omega)).mono ?_
   rintro e k3 ⟨rfl, a3⟩
   clear m0 m1 m2 m3 m4 m5 u1 u2
   obtain ⟨m0, m1, m2, m3, m4, m5⟩ := cells6 (HM.out.below a3.below hglt)
   have u1 := (a3.below.cell (p := ⟨b, off + (node - W * H).toNat, none⟩) hblt).trans hc1
   have u2 := (a3.below.cell (p := ⟨b, off + node.toNat, none⟩) hblt).trans hc2
   go_wp2_with fail
   refine (addK w1 _ w1.heap.size w1.heap.size 3 _ _ _ (a3) (by omega)).mono ?_
   rintro e k4 ⟨rfl, a4⟩
   clear m0 m1 m2 m3 m4 m5 u1 u2
   obtain ⟨m0, m1, m2, m3, m4, m5⟩ := cells6 (HM.out.below a4.below hglt)
   have u1 := (a4.below.cell (p := ⟨b, off + (node - W * H).toNat, none⟩) hblt).trans hc1
   have u2 := (a4.below.cell (p := ⟨b, off + node.toNat, none⟩) hblt).trans hc2
   go_wp2_with fail
   refine (addK w1 _ w1.heap.size w1.heap.size 4 _ _ _ (a4) (by omega)).mono ?_
   rintro e k5 ⟨rfl, a5⟩
   clear m0 m1 m2 m3 m4 m5 u1 u2
   obtain ⟨m0, m1, m2, m3, m4, m5⟩ := cells6 (HM.out.below a5.below hglt)
   have u1 := (a5.below.cell (p := ⟨b, off + (node - W * H).toNat, none⟩) hblt).trans hc1
   have u2 := (a5.below.cell (p := ⟨b, off + node.toNat, none⟩) hblt).trans hc2
   go_wp2_with fail
   refine (rnodes_calls W H L _ _ _ _ (by omega) (by omega)).mono ?_
   rintro e kn ⟨rfl, hbn⟩
   have a5 := a5.more hbn
   clear m0 m1 m2 m3 m4 m5 u1 u2
   obtain ⟨m0, m1, m2, m3, m4, m5⟩ := cells6 (HM.out.below a5.below hglt)
   have u1 := (a5.below.cell (p := ⟨b, off + (node - W * H).toNat, none⟩) hblt).trans hc1
   have u2 := (a5.below.cell (p := ⟨b, off + node.toNat, none⟩) hblt).trans hc2
   go_wp2_with fail
   refine (addK w1 _ w1.heap.size w1.heap.size 5 _ _ _ (a5) (by omega)).mono ?_
   rintro e k6 ⟨rfl, a6⟩
   clear m0 m1 m2 m3 m4 m5 u1 u2
   obtain ⟨m0, m1, m2, m3, m4, m5⟩ := cells6 (HM.out.below a6.below hglt)
   have u1 := (a6.below.cell (p := ⟨b, off + (node - W * H).toNat, none⟩) hblt).trans hc1
   have u2 := (a6.below.cell (p := ⟨b, off + node.toNat, none⟩) hblt).trans hc2
   obtain ⟨vf, hvf, hown⟩ := a6.end_
   have HO := Lib.hid hown; clear hown
   go_wp2_with fail
   go_ret
   refine ⟨vf, rfl, below_tr HB1.out (Below.mono a6.below (Nat.le_refl _)) (Nat.le_refl _), ?_⟩
   exact next_fin (HO.out.mono HB1.out.size) (next_eq _ _ _ _ (by rw [HB1v.out]; exact up_true hA hi1) (by rw [HB2v.out]; exact up_true hB hi2))
  ·have hi1 : (node - W * H).toNat < up.length := by have := HUP.out; omega
   obtain ⟨b, off, hAe, _, hc1⟩ := boolsAt HU1.out hi1 hi1
   have hblt := lt_of_cell hc1
   subst hAe
   obtain ⟨b1, hb1⟩ : ∃ b1, b1 = up[(node - W * H).toNat] := ⟨_, rfl⟩
   rw [← hb1] at hc1
   have HB1v := Lib.hid hb1; clear hb1
   have hglt : w.heap.size < w1.heap.size := lt_of_some HM.out
   have hm6 := fun o => cells6 (HM.out.alloc o)
   obtain ⟨m0, m1, m2, m3, m4, m5⟩ : (∀ o, (w1.alloc o).cell? ⟨w.heap.size, 0, none⟩ = _) ∧ (∀ o, (w1.alloc o).cell? ⟨w.heap.size, 1, none⟩ = _) ∧ (∀ o, (w1.alloc o).cell? ⟨w.heap.size, 2, none⟩ = _) ∧ (∀ o, (w1.alloc o).cell? ⟨w.heap.size, 3, none⟩ = _) ∧ (∀ o, (w1.alloc o).cell? ⟨w.heap.size, 4, none⟩ = _) ∧ (∀ o, (w1.alloc o).cell? ⟨w.heap.size, 5, none⟩ = _) := ⟨fun o => (hm6 o).1, fun o => (hm6 o).2.1, fun o => (hm6 o).2.2.1, fun o => (hm6 o).2.2.2.1, fun o => (hm6 o).2.2.2.2.1, fun o => (hm6 o).2.2.2.2.2⟩
   clear hm6
   have u1 : ∀ o, (w1.alloc o).cell? ⟨b, off + (node - W * H).toNat, none⟩ = _ := fun o => (World.cell?_alloc_lt w1 o ⟨b, off + (node - W * H).toNat, none⟩ hblt).trans hc1
   go_wp2_with fail
   refine (addK w1 _ w1.heap.size w1.heap.size 0 _ _ _ (Acc.new w1) (by omega)).mono ?_
   rintro e k1 ⟨rfl, a1⟩
   clear m0 m1 m2 m3 m4 m5 u1
   obtain ⟨m0, m1, m2, m3, m4, m5⟩ := cells6 (HM.out.below a1.below hglt)
   have u1 := (a1.below.cell (p := ⟨b, off + (node - W * H).toNat, none⟩) hblt).trans hc1
   go_wp2_with fail
   refine (addK w1 _ w1.heap.size w1.heap.size 1 _ _ _ (a1) (by omega)).mono ?_
   rintro e k2 ⟨rfl, a2⟩
   clear m0 m1 m2 m3 m4 m5 u1
   obtain ⟨m0, m1, m2, m3, m4, m5⟩ := cells6 (HM.out.below a2.below hglt)
   have u1 := (a2.below.cell (p := ⟨b, off + (node - W * H).toNat, none⟩) hblt).trans hc1
   go_wp2_with fail
   refine (addK w1 _ w1.heap.size w1.heap.size 2 _ _ _ (a2) (by omega)).mono ?_
   rintro e k3 ⟨rfl, a3⟩
   clear m0 m1 m2 m3 m4 m5 u1
   obtain ⟨m0, m1, m2, m3, m4, m5⟩ := cells6 (HM.out.below a3.below hglt)
   have u1 := (a3.below.cell (p := ⟨b, off + (node - W * H).toNat, none⟩) hblt).trans hc1
   go_wp2_with fail
   refine (addK w1 _ w1.heap.size w1.heap.size 3 _ _ _ (a3) (by omega)).mono ?_
   rintro e k4 ⟨rfl, a4⟩
   clear m0 m1 m2 m3 m4 m5 u1
   obtain ⟨m0, m1, m2, m3, m4, m5⟩ := cells6 (HM.out.below a4.below hglt)
   have u1 := (a4.below.cell (p := ⟨b, off + (node - W * H).toNat, none⟩) hblt).trans hc1
   go_wp2_with fail
   refine (addK w1 _ w1.heap.size w1.heap.size 4 _ _ _ (a4) (by omega)).mono ?_
   rintro e k5 ⟨rfl, a5⟩
   clear m0 m1 m2 m3 m4 m5 u1
   obtain ⟨m0, m1, m2, m3, m4, m5⟩ := cells6 (HM.out.below a5.below hglt)
   have u1 := (a5.below.cell (p := ⟨b, off + (node - W * H).toNat, none⟩) hblt).trans hc1
   go_wp2_with fail
   refine (rnodes_calls W H L _ _ _ _ (by omega) (by omega)).mono ?_
   rintro e kn ⟨rfl, hbn⟩
   have a5 := a5.more hbn
   clear m0 m1 m2 m3 m4 m5 u1
   obtain ⟨m0, m1, m2, m3, m4, m5⟩ := cells6 (HM.out.below a5.below hglt)
   have u1 := (a5.below.cell (p := ⟨b, off + (node - W * H).toNat, none⟩) hblt).trans hc1
   go_wp2_with fail
   refine (addK w1 _ w1.heap.size w1.heap.size 5 _ _ _ (a5) (by omega)).mono ?_
   rintro e k6 ⟨rfl, a6⟩
   clear m0 m1 m2 m3 m4 m5 u1
   obtain ⟨m0, m1, m2, m3, m4, m5⟩ := cells6 (HM.out.below a6.below hglt)
   have u1 := (a6.below.cell (p := ⟨b, off + (node - W * H).toNat, none⟩) hblt).trans hc1
   obtain ⟨vf, hvf, hown⟩ := a6.end_
   have HO := Lib.hid hown; clear hown
   go_wp2_with fail
   go_ret
   refine ⟨vf, rfl, below_tr HB1.out (Below.mono a6.below (Nat.le_refl _)) (Nat.le_refl _), ?_⟩
   exact next_fin (HO.out.mono HB1.out.size) (next_eq _ _ _ _ (by rw [HB1v.out]; exact up_true hA hi1) (up_false (Int.not_lt.2 hB)))
 ·by_cases hB : node + W * H < W * H * L
  ·have hi2 : node.toNat < up.length := by have := HUP.out; omega
   obtain ⟨b, off, hAe, _, hc2⟩ := boolsAt HU1.out hi2 hi2
   have hblt := lt_of_cell hc2
   subst hAe
   obtain ⟨b2, hb2⟩ : ∃ b2, b2 = up[node.toNat] := ⟨_, rfl⟩
   rw [← hb2] at hc2
   have HB2v := Lib.hid hb2; clear hb2
   have hglt : w.heap.size < w1.heap.size := lt_of_some HM.out
   have hm6 := fun o => cells6 (HM.out.alloc o)
   obtain ⟨m0, m1, m2, m3, m4, m5⟩ : (∀ o, (w1.alloc o).cell? ⟨w.heap.size, 0, none⟩ = _) ∧ (∀ o, (w1.alloc o).cell? ⟨w.heap.size, 1, none⟩ = _) ∧ (∀ o, (w1.alloc o).cell? ⟨w.heap.size, 2, none⟩ = _) ∧ (∀ o, (w1.alloc o).cell? ⟨w.heap.size, 3, none⟩ = _) ∧ (∀ o, (w1.alloc o).cell? ⟨w.heap.size, 4, none⟩ = _) ∧ (∀ o, (w1.alloc o).cell? ⟨w.heap.size, 5, none⟩ = _) := ⟨fun o => (hm6 o).1, fun o => (hm6 o).2.1, fun o => (hm6 o).2.2.1, fun o => (hm6 o).2.2.2.1, fun o => (hm6 o).2.2.2.2.1, fun o => (hm6 o).2.2.2.2.2⟩
   clear hm6
   have u2 : ∀ o, (w1.alloc o).cell? ⟨b, off + node.toNat, none⟩ = _ := fun o => (World.cell?_alloc_lt w1 o ⟨b, off + node.toNat, none⟩ hblt).trans hc2
   go_wp2_with fail
   refine (addK w1 _ w1.heap.size w1.heap.size 0 _ _ _ (Acc.new w1) (by omega)).mono ?_
   rintro e k1 ⟨rfl, a1⟩
   clear m0 m1 m2 m3 m4 m5 u2
   obtain ⟨m0, m1, m2, m3, m4, m5⟩ := cells6 (HM.out.below a1.below hglt)
   have u2 := (a1.below.cell (p := ⟨b, off + node.toNat, none⟩) hblt).trans hc2
   go_wp2_with fail
   refine (addK w1 _ w1.heap.size w1.heap.size 1 _ _ _ (a1) (by omega)).mono ?_
   rintro e k2 ⟨rfl, a2⟩
   clear m0 m1 m2 m3 m4 m5 u2
   obtain ⟨m0, m1, m2, m3, m4, m5⟩ := cells6 (HM.out.below a2.below hglt)
   have u2 := (a2.below.cell (p := ⟨b, off + node.toNat, none⟩) hblt).trans hc2
   go_wp2_with fail
   refine (addK w1 _ w1.heap.size w1.heap.size 2 _ _ _ (a2) (by omega)).mono ?_
   rintro e k3 ⟨rfl, a3⟩
   clear m0 m1 m2 m3 m4 m5 u2
   obtain ⟨m0, m1, m2, m3, m4, m5⟩ := cells6 (HM.out.below a3.below hglt)
   have u2 := (a3.below.cell (p := ⟨b, off + node.toNat, none⟩) hblt).trans hc2
   go_wp2_with fail
   refine (addK w1 _ w1.heap.size w1.heap.size 3 _ _ _ (a3) (by omega)).mono ?_
   rintro e k4 ⟨rfl, a4⟩
   clear m0 m1 m2 m3 m4 m5 u2
   obtain ⟨m0, m1, m2, m3, m4, m5⟩ := cells6 (HM.out.below a4.below hglt)
   have u2 := (a4.below.cell (p := ⟨b, off + node.toNat, none⟩) hblt).trans hc2
   go_wp2_with fail
   refine (addK w1 _ w1.heap.size w1.heap.size 4 _ _ _ (a4) (by omega)).mono ?_
   rintro e k5 ⟨rfl, a5⟩
   clear m0 m1 m2 m3 m4 m5 u2
   obtain ⟨m0, m1, m2, m3, m4, m5⟩ := cells6 (HM.out.below a5.below hglt)
   have u2 := (a5.below.cell (p := ⟨b, off + node.toNat, none⟩) hblt).trans hc2
   go_wp2_with fail
   refine (rnodes_calls W H L _ _ _ _ (by omega) (by omega)).mono ?_
   rintro e kn ⟨rfl, hbn⟩
   have a5 := a5.more hbn
   clear m0 m1 m2 m3 m4 m5 u2
   obtain ⟨m0, m1, m2, m3, m4, m5⟩ := cells6 (HM.out.below a5.below hglt)
   have u2 := (a5.below.cell (p := ⟨b, off + node.toNat, none⟩) hblt).trans hc2
   go_wp2_with fail
   refine (addK w1 _ w1.heap.size w1.heap.size 5 _ _ _ (a5) (by omega)).mono ?_
   rintro e k6 ⟨rfl, a6⟩
   clear m0 m1 m2 m3 m4 m5 u2
   obtain ⟨m0, m1, m2, m3, m4, m5⟩ := cells6 (HM.out.below a6.below hglt)
   have u2 := (a6.below.cell (p := ⟨b, off + node.toNat, none⟩) hblt).trans hc2
   obtain ⟨vf, hvf, hown⟩ := a6.end_
   have HO := Lib.hid hown; clear hown
   go_wp2_with fail
   go_ret
   refine ⟨vf, rfl, below_tr HB1.out (Below.mono a6.below (Nat.le_refl _)) (Nat.le_refl _), ?_⟩
   exact next_fin (HO.out.mono HB1.out.size) (next_eq _ _ _ _ (up_false (Int.not_le.2 hA)) (by rw [HB2v.out]; exact up_true hB hi2))
  ·have hglt : w.heap.size < w1.heap.size := lt_of_some HM.out
   have hm6 := fun o => cells6 (HM.out.alloc o)
   obtain ⟨m0, m1, m2, m3, m4, m5⟩ : (∀ o, (w1.alloc o).cell? ⟨w.heap.size, 0, none⟩ = _) ∧ (∀ o, (w1.alloc o).cell? ⟨w.heap.size, 1, none⟩ = _) ∧ (∀ o, (w1.alloc o).cell? ⟨w.heap.size, 2, none⟩ = _) ∧ (∀ o, (w1.alloc o).cell? ⟨w.heap.size, 3, none⟩ = _) ∧ (∀ o, (w1.alloc o).cell? ⟨w.heap.size, 4, none⟩ = _) ∧ (∀ o, (w1.alloc o).cell? ⟨w.heap.size, 5, none⟩ = _) := ⟨fun o => (hm6 o).1, fun o => (hm6 o).2.1, fun o => (hm6 o).2.2.1, fun o => (hm6 o).2.2.2.1, fun o => (hm6 o).2.2.2.2.1, fun o => (hm6 o).2.2.2.2.2⟩
   clear hm6
   go_wp2_with fail
   refine (addK w1 _ w1.heap.size w1.heap.size 0 _ _ _ (Acc.new w1) (by omega)).mono ?_
   rintro e k1 ⟨rfl, a1⟩
   clear m0 m1 m2 m3 m4 m5
   obtain ⟨m0, m1, m2, m3, m4, m5⟩ := cells6 (HM.out.below a1.below hglt)
   go_wp2_with fail
   refine (addK w1 _ w1.heap.size w1.heap.size 1 _ _ _ (a1) (by omega)).mono ?_
   rintro e k2 ⟨rfl, a2⟩
   clear m0 m1 m2 m3 m4 m5
   obtain ⟨m0, m1, m2, m3, m4, m5⟩ := cells6 (HM.out.below a2.below hglt)
   go_wp2_with fail
   refine (addK w1 _ w1.heap.size w1.heap.size 2 _ _ _ (a2) (by omega)).mono ?_
   rintro e k3 ⟨rfl, a3⟩
   clear m0 m1 m2 m3 m4 m5
   obtain ⟨m0, m1, m2, m3, m4, m5⟩ := cells6 (HM.out.below a3.below hglt)
   go_wp2_with fail
   refine (addK w1 _ w1.heap.size w1.heap.size 3 _ _ _ (a3) (by omega)).mono ?_
   rintro e k4 ⟨rfl, a4⟩
   clear m0 m1 m2 m3 m4 m5
   obtain ⟨m0, m1, m2, m3, m4, m5⟩ := cells6 (HM.out.below a4.below hglt)
   go_wp2_with fail
   refine (addK w1 _ w1.heap.size w1.heap.size 4 _ _ _ (a4) (by omega)).mono ?_
   rintro e k5 ⟨rfl, a5⟩
   clear m0 m1 m2 m3 m4 m5
   obtain ⟨m0, m1, m2, m3, m4, m5⟩ := cells6 (HM.out.below a5.below hglt)
   go_wp2_with fail
   refine (rnodes_calls W H L _ _ _ _ (by omega) (by omega)).mono ?_
   rintro e kn ⟨rfl, hbn⟩
   have a5 := a5.more hbn
   clear m0 m1 m2 m3 m4 m5
   obtain ⟨m0, m1, m2, m3, m4, m5⟩ := cells6 (HM.out.below a5.below hglt)
   go_wp2_with fail
   refine (addK w1 _ w1.heap.size w1.heap.size 5 _ _ _ (a5) (by omega)).mono ?_
   rintro e k6 ⟨rfl, a6⟩
   clear m0 m1 m2 m3 m4 m5
   obtain ⟨m0, m1, m2, m3, m4, m5⟩ := cells6 (HM.out.below a6.below hglt)
   obtain ⟨vf, hvf, hown⟩ := a6.end_
   have HO := Lib.hid hown; clear hown
   go_wp2_with fail
   go_ret
   refine ⟨vf, rfl, below_tr HB1.out (Below.mono a6.below (Nat.le_refl _)) (Nat.le_refl _), ?_⟩
   exact next_fin (HO.out.mono HB1.out.size) (next_eq _ _ _ _ (up_false (Int.not_le.2 hA)) (up_false (Int.not_lt.2 hB)))
end Go.Proofs.Ytgpjfpcjiebjiaa
