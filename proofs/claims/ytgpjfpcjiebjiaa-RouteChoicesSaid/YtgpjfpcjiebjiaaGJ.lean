/- Walks: DeleteFunc at lists of lists; the program's Paths. -/
import Derived.Test.YtgpjfpcjiebjiaaGp
import Derived.Test.YtgpjfpcjiebjiaaGt
namespace Go.Proofs.Ytgpjfpcjiebjiaa
open Go.RowKit Go.Shelf Go.Sort
set_option linter.unusedVariables false
set_option linter.unusedSimpArgs false
attribute [local go_sem ↓] Go.wp_at_zero Go.wp_at_succ

def dfLA_ren : Go.Shelf.Ren := ⟨fun | 10 => 73 | 6 => 94 | n => n, fun | 22 => 22 | 23 => 24 | 25 => 100 | 3 => 3 | 4 => 4 | 0 => 0 | n => n, fun | n => n⟩
theorem dfLA : Go.Proofs.SlLaysH.n10 Try.prog dfLA_ren := {
 mixed := by kernel_rfl
 f6 := ⟨Try.f94.name, by decide, Try.func94.trans (congrArg some (by kernel_rfl))⟩
 f10 := ⟨Try.f73.name, by decide, Try.func73.trans (congrArg some (by kernel_rfl))⟩
 t0 := Try.underlying0
 a0 := Try.isAgg0
 z0 := Try.sizeOf0
 v0 := Try.zeroValue0
 t3 := Try.underlying3
 a3 := Try.isAgg3
 z3 := Try.sizeOf3
 v3 := Try.zeroValue3
 t4 := Try.underlying4
 a4 := Try.isAgg4
 z4 := Try.sizeOf4
 v4 := Try.zeroValue4
 t22 := Try.underlying22
 a22 := Try.isAgg22
 z22 := Try.sizeOf22
 v22 := Try.zeroValue22
 a23 := Try.isAgg24
 z23 := Try.sizeOf24
 t25 := Try.underlying100
 a25 := Try.isAgg100
 z25 := Try.sizeOf100
 v25 := Try.zeroValue100 }
/-- A slice value. -/
abbrev SlV := { v : Value // ∃ A n c, v = .slice A n c }
def slLen (v : Value) : Nat := match v with | .slice _ n _ => n | _ => 0
theorem holds_sl {w : World} {B g cap : Nat} {l : List SlV} [Inhabited SlV] (h : OwnL w B (.slice (some ⟨g, 0, none⟩) (l.map (·.1)).length cap) (l.map (·.1))) : Holds (fun x : SlV => x.1) w g 0 l.toArray := by
 intro j hj
 have hj' : j < l.length := by simpa using hj
 refine ⟨?_, by have := World.ownsRow.frozenAt h j; simpa using this⟩
 have := World.ownsRow.cellAt h j (by simpa using hj')
 rw [Nat.zero_add, this]
 simp [getElem!_pos, hj']
theorem cf75 (a : Array Value) (w : World) : (callFunc 75 a).run Try.prog w = .ok (.enter 75 a) w := callFunc_run Try.func75 (by kernel_rfl) (by kernel_rfl) a w
set_option maxRecDepth 100000 in
theorem paths1_sl (x : SlV) (w : World) : Calls Try.prog 75 (#[x.1] ++ #[]) w fun e w' => e = .returned (.bool (decide (slLen x.1 = 0))) ∧ w = w' := by
 obtain ⟨_, A, n, c, rfl⟩ := x
 show Calls Try.prog 75 #[.slice A n c] w _
 by_cases hn : n = 0
 ·subst hn
  go_enter Try.func75, Try.ntmps75
  go_wp2
  go_ret
  exact ⟨rfl, rfl⟩
 ·have hd : ((n : Int) == 0) = false := by rw [beq_eq_false_iff_ne]; omega
  have H : Hid (decide (slLen (.slice A n c) = 0) = false) := decide_eq_false hn
  clear hn
  go_enter Try.func75, Try.ntmps75
  go_wp2
  go_ret
  exact ⟨ret_bool H.out.symm, rfl⟩
theorem deleteFuncL_calls {w : World} {B g cap : Nat} {l : List SlV} (hO : OwnL w B (.slice (some ⟨g, 0, none⟩) (l.map (·.1)).length cap) (l.map (·.1))) (hl : l.length ≤ 1000000) :
  Calls Try.prog 73 #[.slice (some ⟨g, 0, none⟩) (l.map (·.1)).length cap, .func (.func 75) #[] #[]] w fun e w' => ∃ v', e = .returned v' ∧ OwnL w' B v' ((l.filter fun x => !decide (slLen x.1 = 0)).map (·.1)) ∧ Below B w w' := by
 letI : Inhabited SlV := ⟨⟨.slice none 0 0, _, _, _, rfl⟩⟩
 have hcap := own_cap hO
 have hg : B ≤ g := (World.ownsRow.lt hO g rfl).1
 have hll : (l.map (·.1)).length = l.toArray.size := by simp
 have hc := AnyE.slices_DeleteFunc dfLA (fun x : SlV => x.1) (fun x => by obtain ⟨_, A, n, c, rfl⟩ := x; rfl) (fun x => decide (slLen x.1 = 0)) 75 #[] cf75 ⟨.slice none 0 0, _, _, _, rfl⟩ Try.zeroValue24 g 0 cap l.toArray w
  (fun W x hb => by
   refine Calls.mono (paths1_sl x W) ?_
   rintro e w' ⟨rfl, rfl⟩
   exact ⟨rfl, 0, rfl⟩)
  (fun n os dk x _ => by
   refine Calls.mono (paths1_sl x _) ?_
   rintro e w' ⟨rfl, rfl⟩
   exact ⟨rfl, 0, rfl⟩)
  (holds_sl hO) (by rw [← hll]; simp; omega) (by rw [← hll]; exact hcap)
 change Calls Try.prog 73 _ _ _ at hc
 rw [← hll] at hc
 refine Calls.mono hc ?_
 rintro e w' ⟨rfl, q, rfl⟩
 have hfl : (l.filter fun x => !decide (slLen x.1 = 0)).length ≤ l.length := List.length_filter_le _ _
 have ho : w.ownsRow B 24 1 (.slice (some ⟨g, 0, none⟩) (l.map (·.1)).length cap) (l.map (·.1)).length (l.map fun x : SlV => x.1) := hO
 refine ⟨_, rfl, ?_, Lib.below_putRow (Below.refl _ _) hg⟩
 have := Lib.ownsRow_putRow (enc := fun x : SlV => x.1) (q := q) (k := (l.filter fun x => !decide (slLen x.1 = 0)).length) (ys := (l.filter fun x => !decide (slLen x.1 = 0)) ++ List.replicate (l.length - (l.filter fun x => !decide (slLen x.1 = 0)).length) ⟨.slice none 0 0, _, _, _, rfl⟩) ho (by simp; omega) (by simpa using hfl)
 rw [List.take_left' rfl] at this
 unfold OwnL
 rw [List.length_map]
 simpa using this

set_option maxHeartbeats 1000000 in
set_option maxRecDepth 100000 in
theorem deleteFuncL_nil (A : Option Addr) (c : Nat) (w : World) :
  Calls Try.prog 73 #[.slice A 0 c, .func (.func 75) #[] #[]] w fun e w' => e = .returned (.slice A 0 c) ∧ Ext w w' := by
 have hI : Hid (∀ w, Calls Try.prog 94 #[.slice A 0 c, .func (.func 75) #[] #[]] w fun e w' => e = .returned (.int .i64 (-1)) ∧ Ext w w') := fun w => by
  go_enter Try.func94, Try.ntmps94
  go_wp2_with fail
  go_loopg [8] 0 (fun gk v wr => v = .int .i64 0 ∧ gk = 0 ∧ Hid (Ext w wr))
  case atStart => exact ⟨rfl, rfl, Ext.refl _⟩
  case round =>
   obtain ⟨rfl, rfl, hX⟩ := hrel
   go_wp2_with fail
   go_ret
   exact ⟨rfl, hX.out⟩
 go_enter Try.func73, Try.ntmps73
 go_wp2_with fail
 refine (hI.out w).mono ?_
 rintro e w2 ⟨rfl, hE⟩
 go_wp2_with fail
 go_ret
 exact ⟨rfl, hE⟩

/-- What Paths returns, wherever it lies. -/
def PathsPostT (w : World) (m : MZ) (ch : List Int) (e : Ending) (w' : World) : Prop :=
 ∃ v, e = .returned (.tuple #[v, .bool (okC m ch)]) ∧ Ext w w' ∧ Intss w' (fun _ => True) v (pathsO m ch)
theorem filter_pair {w : World} {ok : Nat → Prop} : ∀ (l : List SlV) (ps : List (List Int)), l.length = ps.length → (∀ (i : Nat) x, ps[i]? = some x → ∃ u, (l.map (·.1))[i]? = some u ∧ Ints w ok u x) →
  ((l.filter fun x => !decide (slLen x.1 = 0)).length = (ps.filter fun p => decide (p.length ≠ 0)).length) ∧ ∀ (i : Nat) x, (ps.filter fun p => decide (p.length ≠ 0))[i]? = some x → ∃ u, ((l.filter fun x => !decide (slLen x.1 = 0)).map (·.1))[i]? = some u ∧ Ints w ok u x
 | [], [], _, _ => ⟨rfl, fun i x hx => by simp at hx⟩
 | a :: l, p :: ps, hl, h => by
  obtain ⟨h1, h2⟩ := filter_pair l ps (by simpa using hl) (fun i x hx => by simpa using h (i + 1) x (by simpa using hx))
  obtain ⟨u, hu, hi⟩ := h 0 p rfl
  have hau : a.1 = u := by simpa using hu
  have hlen : slLen a.1 = p.length := by
   obtain ⟨A, c, e, _⟩ := id hi
   rw [hau, e]; rfl
  by_cases hp : p.length = 0
  ·rw [List.filter_cons_of_neg (by simp [hlen, hp]), List.filter_cons_of_neg (by simp [hp])]
   exact ⟨h1, h2⟩
  ·rw [List.filter_cons_of_pos (by simp [hlen, hp]), List.filter_cons_of_pos (by simp [hp])]
   refine ⟨by simp [h1], fun i x hx => ?_⟩
   match i, hx with
   | 0, hx =>
    have : p = x := by simpa using hx
    subst this
    exact ⟨u, by simp [hau], hi⟩
   | i + 1, hx => simpa using h2 i x (by simpa using hx)
set_option maxHeartbeats 4000000 in
set_option maxRecDepth 100000 in
theorem rPaths_calls {okc Y : Nat → Prop} {v vc : Value} {m : MZ} {ch : List Int} (w : World) (hm : MazeV w Y v m) (hl : Lens m) (hch : Ints w okc vc ch) (hlc : ch.length ≤ 20000000000000) :
  Calls Try.prog 39 #[v, vc] w (PathsPostT w m ch) := by
 have HMZ := Lib.hid hm
 obtain ⟨vfr, vup, vts, rfl, -, -, -⟩ := hm
 have HCH := Lib.hid hch
 obtain ⟨A, c, rfl, hcc, -⟩ := hch
 have HL := Lib.hid hl
 clear hl
 go_enter Try.func39, Try.ntmps39
 go_wp2_with fail
 generalize hwa : w.alloc (.cells #[.int .i64 m.w, .int .i64 m.h, .int .i64 m.l, vfr, vup, vts] 31) = wa
 have hEa : Ext w wa := by rw [← hwa]; exact (Ext.refl w).alloc _
 clear hwa
 refine (stateOf_calls wa (HMZ.out.below hEa) HL.out (HCH.out.below hEa) hlc).mono ?_
 rintro e w1 ⟨v1, rfl, hx1, h1⟩
 have H1 := Lib.hid h1
 have hE1 : Ext w w1 := hEa.trans hx1
 clear h1 hx1
 obtain ⟨bb, hbb⟩ : ∃ bb, bb = okC m ch := ⟨_, rfl⟩
 rw [← hbb] at H1 ⊢
 have HBB := Lib.hid hbb; clear hbb
 cases bb
 ·have HFIN : Hid (PathsPostT w m ch (.returned (.tuple #[.slice none 0 0, .bool false])) w1) := ⟨_, by rw [← HBB.out], hE1, by unfold pathsO; rw [← HBB.out]; exact ⟨[], ⟨none, 0, rfl, Nat.le_refl _, RowA.nil _ _ _ _⟩, fun i x hx => by simp at hx⟩⟩
  go_wp2_with fail
  go_ret2
  exact HFIN.out
 ·have hst : ∃ p, v1 = .pointer (some ⟨p, 0, none⟩) ∧ StC w1 (fun b => Y b ∨ wa.heap.size ≤ b) p m ch := by
   rcases H1.out with ⟨h, _⟩ | ⟨_, h⟩
   ·cases h
   ·exact h
  obtain ⟨p, rfl, us, f, u, t, vc', vp, gu, hus, hst⟩ := hst
  obtain ⟨r0, r1, r2, r3, r4, r5, r6, r7, r8⟩ := hst.rules
  obtain ⟨hg, hc⟩ := okC_true HBB.out.symm
  obtain ⟨vs, ⟨Ap, cp, rfl, hcp, hrp⟩, hep⟩ := hst.ps
  have hvl : vs.length = (psOf m ch).length := by have := hrp.1; omega
  have hpl6 : (psOf m ch).length ≤ 6 := Nat.le_trans hc.psOk.pl hg.tk
  have HROW : Hid (Row w1 (fun b => Y b ∨ wa.heap.size ≤ b) 1 (.slice Ap (psOf m ch).length cp) vs.length vs) := by
   show Row _ _ _ _ _ _
   rw [hvl]
   exact ⟨Ap, cp, rfl, hcp, hrp⟩
  have HEP := Lib.hid hep
  have h1c : ∀ u ∈ vs, ∃ A n c, u = .slice A n c := fun u hu => by
   obtain ⟨i, hi, rfl⟩ := List.getElem_of_mem hu
   obtain ⟨u', h1, A', c', e, _⟩ := hep i _ (List.getElem?_eq_getElem (by omega))
   rw [List.getElem?_eq_getElem hi] at h1
   injection h1 with h1
   exact ⟨_, _, _, h1.trans e⟩
  have HS1 := Lib.hid h1c
  have HVL := Lib.hid hvl
  have HPO : Hid (pathsO m ch = (psOf m ch).filter fun p => decide (p.length ≠ 0)) := by show _ = _; unfold pathsO; rw [if_pos HBB.out.symm]
  clear hst hus hg hc H1 hep hrp h1c hvl
  have hx11 := Ext.refl w1
  go_wp2_with fail
  refine (cloneL_calls w1 HROW.out (fun u hu => by obtain ⟨A, n, c, rfl⟩ := HS1.out u hu; rfl) (by have := HVL.out; omega)).mono ?_
  rintro e w2 ⟨v2, rfl, hx2, hO2⟩
  obtain ⟨l, hl⟩ : ∃ l : List SlV, l.map (·.1) = vs := ⟨vs.attachWith _ HS1.out, by simp⟩
  have hll : l.length = (psOf m ch).length := by have := congrArg List.length hl; have := HVL.out; simp at *; omega
  have hFP := filter_pair (w := w1) (ok := fun b => Y b ∨ wa.heap.size ≤ b) l (psOf m ch) hll (by rw [hl]; exact HEP.out)
  have HFP := Lib.hid hFP
  have hE2 : Ext w w2 := hE1.trans hx2
  have hcl : ∃ v3 w3, Calls Try.prog 73 #[v2, .func (.func 75) #[] #[]] w2 (fun e w' => ∃ v', e = .returned v' ∧ OwnL w' w1.heap.size v' ((l.filter fun x => !decide (slLen x.1 = 0)).map (·.1)) ∧ Ext w1 w') ∧ v3 = v2 ∧ w3 = w2 := by
   refine ⟨v2, w2, ?_, rfl, rfl⟩
   rcases Nat.eq_zero_or_pos vs.length with h0 | h0
   ·have hv0 := List.eq_nil_of_length_eq_zero h0
    subst hv0
    have hl0 : l = [] := List.eq_nil_of_length_eq_zero (by have := congrArg List.length hl; simpa using this)
    subst hl0
    obtain ⟨A', c', rfl, hc', -⟩ := Row.of_own hO2
    refine (deleteFuncL_nil A' c' w2).mono ?_
    rintro e w3 ⟨rfl, hE⟩
    exact ⟨_, rfl, OwnL.ext hO2 hE, hx2.trans hE⟩
   ·have hO2' := hO2
    unfold OwnL at hO2'
    obtain ⟨g, cap, rfl, hg, hlt⟩ := World.ownsRow.form hO2' h0
    subst hl
    refine (deleteFuncL_calls hO2 (by omega)).mono ?_
    rintro e w3 ⟨v3, rfl, hO3, hb3⟩
    exact ⟨_, rfl, hO3, Below.trans hx2 hb3⟩
  obtain ⟨_, _, hcl, _, _⟩ := hcl
  have HCL := Lib.hid hcl
  clear hO2 hcl hx2 hl hll hFP
  go_wp2_with fail
  refine HCL.out.mono ?_
  rintro e w3 ⟨v3, rfl, hO3, hx3⟩
  have HFIN : Hid (PathsPostT w m ch (.returned (.tuple #[v3, .bool true])) w3) := by
   refine ⟨v3, by rw [← HBB.out], hE1.trans hx3, ?_⟩
   rw [HPO.out]
   obtain ⟨h1, h2⟩ := HFP.out
   have h3 : Row w3 (fun _ => True) 1 v3 (((l.filter fun x => !decide (slLen x.1 = 0)).map (·.1)).length) ((l.filter fun x => !decide (slLen x.1 = 0)).map (·.1)) := (Row.of_own hO3).weaken fun _ _ => trivial
   rw [List.length_map, h1] at h3
   exact ⟨_, h3, fun i x hx => by
    obtain ⟨u, hu, hi⟩ := h2 i x hx
    exact ⟨u, hu, (hi.weaken fun _ _ => trivial).below hx3⟩⟩
  clear hO3 hx3
  go_wp2_with fail
  go_ret2
  exact HFIN.out
end Go.Proofs.Ytgpjfpcjiebjiaa
