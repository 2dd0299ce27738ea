/- Walks: the law RouteFinds; before it, plain: the paths of complete choices do all tasks. -/
import Derived.Test.YtgpjfpcjiebjiaaRtMc
import Derived.Test.YtgpjfpcjiebjiaaRtTw
import Derived.Test.YtgpjfpcjiebjiaaRtRi
import Derived.Test.YtgpjfpcjiebjiaaRtGp
import Derived.Test.YtgpjfpcjiebjiaaRtOp
namespace Go.Proofs.Ytgpjfpcjiebjiaa
open Go.RowKit
set_option linter.unusedVariables false
set_option linter.unusedSimpArgs false

/-- A path that may go on. -/
structure PathR (m : MZ) (t : Nat) (p : List Int) : Prop where
  hd : ∀ x, p.head? = some x → x ∈ (m.tasks.getD t ([], [])).1
  fr : ∀ x ∈ p, freeAt m t x = true
  nb : ∀ k x y, p[k]? = some x → p[k + 1]? = some y → y ∈ nextL m x
def FinP (m : MZ) (t : Nat) (p : List Int) : Prop := ∃ x, p.getLast? = some x ∧ x ∈ (m.tasks.getD t ([], [])).2
theorem PathR.nil (m : MZ) (t : Nat) : PathR m t [] := ⟨(fun x h => by cases h), (fun x h => by cases h), (fun k x y h => by simp at h)⟩
theorem PathR.snoc {m : MZ} {t : Nat} {p : List Int} {n : Int} (h : PathR m t p) (hf : freeAt m t n = true) (h0 : p = [] → n ∈ (m.tasks.getD t ([], [])).1) (h1 : ∀ x, p.getLast? = some x → n ∈ nextL m x) : PathR m t (p ++ [n]) := by
  refine ⟨fun x hx => ?_, fun x hx => ?_, fun k x y hx hy => ?_⟩
  · cases p with
    | nil =>
      have : n = x := by simpa using hx
      subst this
      exact h0 rfl
    | cons a p => exact h.hd x (by simpa using hx)
  · rcases List.mem_append.1 hx with hx | hx
    · exact h.fr x hx
    · rw [List.mem_singleton] at hx; subst hx; exact hf
  · rcases Nat.lt_or_ge (k + 1) p.length with hk | hk
    · rw [List.getElem?_append_left (by omega)] at hx
      rw [List.getElem?_append_left hk] at hy
      exact h.nb k x y hx hy
    · have hlt : k + 1 < (p ++ [n]).length := by
        rcases Nat.lt_or_ge (k + 1) (p ++ [n]).length with h2 | h2
        · exact h2
        · rw [List.getElem?_eq_none h2] at hy; cases hy
      have hkp : k + 1 = p.length := by simp at hlt; omega
      rw [List.getElem?_append_right (by omega), show k + 1 - p.length = 0 from by omega] at hy
      have : n = y := by simpa using hy
      subst this
      rw [List.getElem?_append_left (by omega)] at hx
      refine h1 x ?_
      rw [List.getLast?_eq_getElem?, show p.length - 1 = k from by omega]
      exact hx
/-- What holds of the paths of choices. -/
structure PsR (m : MZ) (ps : List (List Int)) : Prop where
  one : ∀ t p, ps[t]? = some p → PathR m t p
  fin : ∀ t p, ps[t]? = some p → t + 1 < ps.length → FinP m t p
theorem cand_step {m : MZ} {ps : List (List Int)} {us : List Int} {n : Int} (h : n ∈ candL m ps us) : freeAt m (ps.length - 1) n = true ∧ ((ps.getD (ps.length - 1) []) = [] → n ∈ (m.tasks.getD (ps.length - 1) ([], [])).1) ∧ (∀ x, (ps.getD (ps.length - 1) []).getLast? = some x → n ∈ nextL m x) := by
  unfold candL at h
  split at h
  · cases h
  · split at h
    · rename_i hl
      obtain ⟨h1, h2⟩ := List.mem_filter.1 h
      simp only [Bool.and_eq_true] at h2
      exact ⟨h2.1, fun _ => mem_sortL.1 (mem_compact h1), fun x hx => by rw [hl] at hx; cases hx⟩
    · rename_i x hl
      obtain ⟨h1, h2⟩ := List.mem_filter.1 h
      unfold followsB at h2
      simp only [Bool.and_eq_true] at h2
      refine ⟨h2.1.1.1, (fun h0 => by rw [h0] at hl; cases hl), fun y hy => ?_⟩
      rw [hl] at hy
      injection hy with hy
      subst hy
      exact h1
theorem PsR.add {m : MZ} {ps : List (List Int)} {us : List Int} {n : Int} (h : PsR m ps) (hp : 0 < ps.length) (hn : n ∈ candL m ps us) : PsR m (addN ps n) := by
  obtain ⟨h1, h2, h3⟩ := cand_step hn
  obtain ⟨qs, p, rfl, he⟩ := addN_eq hp n
  rw [he]
  have hl : (qs ++ [p]).length - 1 = qs.length := by simp
  have hg : (qs ++ [p]).getD qs.length [] = p := by simp
  rw [hl] at h1 h2 h3
  rw [hg] at h2 h3
  refine ⟨fun t q hq => ?_, fun t q hq ht => ?_⟩
  · rcases Nat.lt_or_ge t qs.length with hlt | hge
    · rw [List.getElem?_append_left hlt] at hq
      exact h.one t q (by rw [List.getElem?_append_left hlt]; exact hq)
    · have hte : t = qs.length := by
        rcases Nat.lt_or_ge t (qs ++ [p ++ [n]]).length with h4 | h4
        · simp at h4; omega
        · rw [List.getElem?_eq_none h4] at hq; cases hq
      subst hte
      rw [List.getElem?_append_right (Nat.le_refl _), Nat.sub_self] at hq
      have : p ++ [n] = q := by simpa using hq
      subst this
      exact (h.one qs.length p (by simp)).snoc h1 h2 h3
  · have hlt : t < qs.length := by simp at ht; omega
    rw [List.getElem?_append_left hlt] at hq
    exact h.fin t q (by rw [List.getElem?_append_left hlt]; exact hq) (by simp; omega)
theorem PsR.with {m : MZ} {ps : List (List Int)} {us : List Int} {n : Int} (h : PsR m ps) (hp : 0 < ps.length) (hn : n ∈ candL m ps us) : PsR m (withPs m ps n) := by
  have h1 := h.add hp hn
  unfold withPs
  split
  · rename_i hf
    have hlen : (addN ps n).length = ps.length := addN_len
    have hF : ∀ t p, (addN ps n)[t]? = some p → t + 1 = ps.length → FinP m t p := fun t p ht he => by
      have h2 := hf.1
      unfold finB at h2
      rw [hlen, show ps.length - 1 = t from by omega, List.getD_eq_getElem?_getD, ht] at h2
      simp only [Option.getD_some] at h2
      split at h2
      · cases h2
      · rename_i x hx
        exact ⟨x, hx, of_decide_eq_true h2⟩
    refine ⟨fun t p ht => ?_, fun t p ht hlt => ?_⟩
    · rcases Nat.lt_or_ge t (addN ps n).length with h2 | h2
      · rw [List.getElem?_append_left h2] at ht; exact h1.one t p ht
      · rw [List.getElem?_append_right h2] at ht
        have hp0 : p = [] := by
          cases hk : t - (addN ps n).length with
          | zero => rw [hk] at ht; simpa using ht.symm
          | succ j => rw [hk] at ht; simp at ht
        subst hp0
        exact PathR.nil m t
    · have h2 : t < (addN ps n).length := by simp at hlt; omega
      rw [List.getElem?_append_left h2] at ht
      rcases Nat.lt_or_ge (t + 1) (addN ps n).length with h3 | h3
      · exact h1.fin t p ht h3
      · exact hF t p ht (by omega)
  · exact h1
theorem IsCh.psR {m : MZ} {ch : List Int} (h : IsCh m ch) : PsR m (psOf m ch) := by
  induction h with
  | nil =>
    rw [psOf_nil]
    unfold ps0
    split
    · exact ⟨fun t p h => by simp at h, fun t p h => by simp at h⟩
    · refine ⟨fun t p h => ?_, fun t p h hl => by simp at hl⟩
      match t, h with
      | 0, h =>
        have : p = [] := by simpa using h.symm
        subst this
        exact PathR.nil m 0
  | @snoc ch n h hn ih =>
    rw [psOf_snoc]
    exact ih.with (h.psOk.pn (ncmp_tasks (cand_ncmp hn))) hn
/-- The paths of complete choices do all tasks. -/
theorem right_of {m : MZ} {ch : List Int} (g : Good m) (hc : chk m = 0) (h : IsCh m ch) (hcm : cmpC m ch = true) : rightB m (psOf m ch) = true := by
  have hR := h.psR
  have hO := h.psOk
  have hr := h.range g
  have hfl := hO.fl
  have hall : (psOf m ch).length = m.tasks.length ∧ ∀ t p, (psOf m ch)[t]? = some p → FinP m t p := by
    unfold cmpC cmpB at hcm
    rw [Bool.or_eq_true, decide_eq_true_eq, Bool.and_eq_true, decide_eq_true_eq] at hcm
    rcases hcm with h0 | ⟨h0, h1⟩
    · have := hO.pl
      refine ⟨by omega, fun t p ht => ?_⟩
      rw [List.getElem?_eq_none (by omega)] at ht; cases ht
    · refine ⟨h0, fun t p ht => ?_⟩
      have htl : t < (psOf m ch).length := by
        rcases Nat.lt_or_ge t (psOf m ch).length with h2 | h2
        · exact h2
        · rw [List.getElem?_eq_none h2] at ht; cases ht
      rcases Nat.lt_or_ge (t + 1) (psOf m ch).length with h2 | h2
      · exact hR.fin t p ht h2
      · unfold finB at h1
        rw [show (psOf m ch).length - 1 = t from by omega, List.getD_eq_getElem?_getD, ht] at h1
        simp only [Option.getD_some] at h1
        split at h1
        · cases h1
        · rename_i x hx
          exact ⟨x, hx, of_decide_eq_true h1⟩
  refine rightB_ok hc hall.1 fun t ht => ?_
  have hpt : (psOf m ch).getD t [] = (psOf m ch)[t] := by rw [List.getD_eq_getElem?_getD, List.getElem?_eq_getElem ht]; rfl
  rw [hpt]
  obtain ⟨p, hp⟩ : ∃ p, p = (psOf m ch)[t] := ⟨_, rfl⟩
  have hpg : (psOf m ch)[t]? = some p := by rw [List.getElem?_eq_getElem ht, hp]
  rw [← hp]
  have hsplit : ch = ((psOf m ch).take t).flatten ++ (p ++ ((psOf m ch).drop (t + 1)).flatten) := by
    have h1 : (psOf m ch) = (psOf m ch).take t ++ p :: (psOf m ch).drop (t + 1) := by rw [hp, List.getElem_cons_drop ht, List.take_append_drop]
    conv => lhs; rw [← hfl, h1]
    rw [List.flatten_append, List.flatten_cons]
  obtain ⟨pre, hpre⟩ : ∃ pre, pre = ((psOf m ch).take t).flatten := ⟨_, rfl⟩
  rw [← hpre] at hsplit ⊢
  have hP := hR.one t p hpg
  obtain ⟨xl, hxl, hxt⟩ := hall.2 t p hpg
  have hne : p ≠ [] := by rintro rfl; cases hxl
  have hpos : 0 < p.length := List.length_pos_iff.2 hne
  have hgd : ∀ k, (hk : k < p.length) → p.getD k 0 = p[k] := fun k hk => by rw [List.getD_eq_getElem?_getD, List.getElem?_eq_getElem hk]; rfl
  refine pathB_ok hne ?_ ?_ fun k hk => ?_
  · rw [hgd 0 hpos]
    refine hP.hd _ ?_
    rw [List.head?_eq_getElem?, List.getElem?_eq_getElem hpos]
  · rw [hgd _ (by omega)]
    rw [List.getLast?_eq_getElem?, List.getElem?_eq_getElem (by omega)] at hxl
    injection hxl with hxl
    rw [hxl]; exact hxt
  · have hmem : p[k] ∈ ch := by rw [hsplit]; exact List.mem_append_right _ (List.mem_append_left _ (List.getElem_mem hk))
    have hnin : p[k] ∉ pre ++ p.take k := by
      have h1 : ch = (pre ++ p.take k) ++ (p[k] :: (p.drop (k + 1) ++ ((psOf m ch).drop (t + 1)).flatten)) := by
        have hp2 : p.take k ++ (p[k] :: p.drop (k + 1)) = p := by rw [List.getElem_cons_drop hk, List.take_append_drop]
        have h4 : p ++ ((psOf m ch).drop (t + 1)).flatten = p.take k ++ (p[k] :: (p.drop (k + 1) ++ ((psOf m ch).drop (t + 1)).flatten)) := by
          have h5 : (p.take k ++ (p[k] :: p.drop (k + 1))) ++ ((psOf m ch).drop (t + 1)).flatten = p.take k ++ (p[k] :: (p.drop (k + 1) ++ ((psOf m ch).drop (t + 1)).flatten)) := by rw [List.append_assoc, List.cons_append]
          rwa [hp2] at h5
        rw [List.append_assoc, ← h4]
        exact hsplit
      have h2 := hr.2
      rw [h1] at h2
      intro h3
      exact (List.nodup_append.1 h2).2.2 _ h3 _ (List.mem_cons_self ..) rfl
    unfold nodeB
    rw [hgd k hk, decide_eq_true (hr.1 _ hmem).1, decide_eq_true (hr.1 _ hmem).2, decide_eq_false hnin, hP.fr _ (List.getElem_mem hk)]
    rcases Nat.eq_zero_or_pos k with h0 | h0
    · rw [decide_eq_true h0]; rfl
    · rw [hgd (k - 1) (by omega), decide_eq_true (hP.nb (k - 1) p[k - 1] p[k] (List.getElem?_eq_getElem _) (by rw [show k - 1 + 1 = k from by omega, List.getElem?_eq_getElem hk]))]
      simp
attribute [local go_sem ↓] Go.wp_at_zero Go.wp_at_succ

set_option maxHeartbeats 8000000 in
set_option maxRecDepth 100000 in
theorem finds_calls {ok ok2 okp : Nat → Prop} {v vn vp : Value} {bs : List Int} {ls : List (List Int)} {ns : List Int} (o0 o1 o2 : Int) (w : World) (hl : Intss w ok v ls) (hll : ls.length ≤ 9223372036854775807) (hlx : ∀ l ∈ ls, l.length ≤ 9223372036854775807) (hn : Ints w ok2 vn ns) (hnl : ns.length ≤ 9223372036854775807) (hbs : U8s w okp vp bs) (hbl : bs.length ≤ 9223372036854775807) :
    Calls Try.prog 9 #[.agg #[v, .int .i64 o0, .int .i64 o1, .int .i64 o2, vn], vp] w fun e w' => e = .returned (.bool true) ∧ Ext w w' := by
  have HLS := Lib.hid hl
  have HNS := Lib.hid hn
  obtain ⟨vs, ⟨A, c, rfl, hc, -⟩, -⟩ := hl
  obtain ⟨A2, c2, rfl, hc2, -⟩ := hn
  have HLX := Lib.hid hlx
  have HBS := Lib.hid hbs
  obtain ⟨⟨Ap, cp, rfl, hcp, -⟩, -⟩ := hbs
  clear hlx
  go_enter Try.func9, Try.ntmps9
  go_wp2_with fail
  generalize hwa : w.alloc (.cells #[.slice A ls.length c, .int .i64 o0, .int .i64 o1, .int .i64 o2, .slice A2 ns.length c2] 26) = wa
  have hEa : Ext w wa := by rw [← hwa]; exact (Ext.refl _).alloc _
  have hBa : Blk wa w.heap.size 26 #[.slice A ls.length c, .int .i64 o0, .int .i64 o1, .int .i64 o2, .slice A2 ns.length c2] := by rw [← hwa]; exact Blk.new _ _ _ rfl
  clear hwa
  have r0 : ∀ W, Ext wa W → W.cell? ⟨w.heap.size, 0, none⟩ = some (.slice A ls.length c) := Ext.rule (hBa.cell (k := 0) rfl)
  have r1 : ∀ W, Ext wa W → W.cell? ⟨w.heap.size, 1, none⟩ = some (.int .i64 o0) := Ext.rule (hBa.cell (k := 1) rfl)
  have r2 : ∀ W, Ext wa W → W.cell? ⟨w.heap.size, 2, none⟩ = some (.int .i64 o1) := Ext.rule (hBa.cell (k := 2) rfl)
  have r3 : ∀ W, Ext wa W → W.cell? ⟨w.heap.size, 3, none⟩ = some (.int .i64 o2) := Ext.rule (hBa.cell (k := 3) rfl)
  have r4 : ∀ W, Ext wa W → W.cell? ⟨w.heap.size, 4, none⟩ = some (.slice A2 ns.length c2) := Ext.rule (hBa.cell (k := 4) rfl)
  clear hBa
  refine (sanity_calls wa).mono ?_
  rintro e w1 ⟨rfl, hE1⟩
  have hx1 : Ext wa w1 := hE1
  go_wp2_with fail
  refine (caseMade_calls o0 o1 o2 w1 (HLS.out.below (hEa.trans hx1)) hll HLX.out (HNS.out.below (hEa.trans hx1)) hnl).mono ?_
  rintro e w2 ⟨v2, m, vl, l, rfl, hE2, hm, hMM, hMk, hl12, hlr⟩
  have HM := Lib.hid hm
  obtain ⟨vfr, vup, vts, rfl, ⟨_, ⟨Af, cf, rfl, -⟩, -⟩, ⟨Au, cu, rfl, -⟩, ⟨_, ⟨At, ct, rfl, -⟩, -⟩⟩ := hm
  have HI := Lib.hid hMk.ints
  obtain ⟨Al, cl, rfl, hcl⟩ := hMk.slice
  have HMM := Lib.hid hMM
  have HLR := Lib.hid hlr
  have HEW := Lib.hid ((hEa.trans hx1).trans hE2)
  have HMK := Lib.hid hMk.own
  clear hMk hMM hlr r0 r1 r2 r3 r4 hx1 hE1 hEa hE2
  go_wp2_with fail
  obtain ⟨gm, hgm⟩ : ∃ gm, gm = w2.heap.size := ⟨_, rfl⟩
  have hg := HMM.out.good
  have hdimWH : 2 ≤ m.w * m.h ∧ m.w * m.h ≤ 16 := by
    have h0 := HMM.out.w
    have h1 := hg.dim.layer
    have h2 : m.n = m.w * m.h * m.l := rfl
    have h3 := Int.mul_le_mul_of_nonneg_left HMM.out.h.1 (show 0 ≤ m.w by omega)
    have := HMM.out.n
    omega
  have hdimN : 2 ≤ m.w * m.h * m.l ∧ m.w * m.h * m.l ≤ 16 := HMM.out.n
  have HG := Lib.hid hg
  clear hg
  obtain ⟨hd1, hd2⟩ := hdimWH
  obtain ⟨hd3, hd4⟩ := hdimN
  go_upto_region 3 with fail
  rw [← hgm]
  generalize hw5 : w2.alloc (.cells #[.int .i64 m.w, .int .i64 m.h, .int .i64 m.l, .slice Af m.free.length cf, .slice Au m.up.length cu, .slice At m.tasks.length ct] 31) = w5
  have hE5 : Ext w2 w5 := by rw [← hw5]; exact (Ext.refl _).alloc _
  have hBm : Blk w5 gm 31 #[.int .i64 m.w, .int .i64 m.h, .int .i64 m.l, .slice Af m.free.length cf, .slice Au m.up.length cu, .slice At m.tasks.length ct] := by rw [← hw5, hgm]; exact Blk.new _ _ _ rfl
  clear hw5 hgm
  obtain ⟨m0, m1, m2, m3, m4, m5⟩ := cells6 hBm
  have q0 := Ext.rule m0
  have q1 := Ext.rule m1
  have q2 := Ext.rule m2
  have q3 := Ext.rule m3
  have q4 := Ext.rule m4
  have q5 := Ext.rule m5
  clear m0 m1 m2 m3 m4 m5 hBm hd1 hd2 hd3 hd4
  have HM5 := Lib.hid (HM.out.below hE5)
  have HEW5 : Hid (Ext w w5) := HEW.out.trans hE5
  have HB5 := Lib.hid (HBS.out.below HEW5.out)
  clear hE5
  have hck : Hid (chk m = 0) := good_chk HG.out
  have hx5 := Ext.refl w5
  go_wp2_with fail
  refine (new1 w5 w5 (Ext.refl _) HM5.out HMM.out.lens hck.out).mono ?_
  rintro e w6 ⟨gr, rfl, hE6, hR6⟩
  have HR6 := Lib.hid hR6
  clear hR6 hE6 hx5
  go_wp2_with fail
  go_loopg [10] 8 (fun gk v wr => ∃ (k : Nat) (s : RS), v = .int .i64 k ∧ k ≤ 8 ∧ gk = 8 - k ∧ s.steps ≤ 40 * k ∧ Hid (OneR w5 wr gr m s))
  case atStart => exact ⟨0, _, rfl, by omega, rfl, by exact Int.le_refl _, HR6.out⟩
  clear HR6
  case round =>
    obtain ⟨k, s, rfl, hk8, rfl, hst, hT⟩ := hrel
    have hx : Ext w5 wr := hT.out.ext
    by_cases hgo : k < bs.length ∧ k < 8
    · obtain ⟨hkb, hk8'⟩ := hgo
      have hk1 : decide ((k : Int) < (bs.length : Int)) = true := decide_eq_true (by omega)
      have hk2 : decide ((k : Int) < 8) = true := decide_eq_true (by omega)
      have hk3 : decide (k < bs.length) = true := decide_eq_true hkb
      have hk5 : decide (k < 8) = true := decide_eq_true hk8'
      obtain ⟨bb, off, rfl, hcell, hb0, hb1⟩ := u8At HB5.out hkb
      obtain ⟨y, hy⟩ : ∃ y, y = bs[k] := ⟨_, rfl⟩
      rw [← hy] at hcell hb0 hb1
      have qy := Ext.rule hcell
      obtain ⟨n, hn⟩ : ∃ n : Nat, (n : Int) = y.tmod 40 := ⟨(y.tmod 40).toNat, by have := Int.tmod_nonneg 40 hb0; omega⟩
      have hn60 : n < 40 := by have := Int.tmod_lt_of_pos y (show (0:Int) < 40 by omega); omega
      have hyw : IntKind.i64.wrap y = y := by rw [IntKind.wrap_i64]; omega
      clear hcell hy
      have hmod : y.tmod 40 = (n : Int) := hn.symm
      have HSS : Hid (s.steps ≤ 40 * k) := hst
      clear hn
      have hnw : IntKind.i64.wrap (n : Int) = (n : Int) := by rw [IntKind.wrap_i64]; omega
      go_wp2_with fail
      refine (hT.out.step n (by omega) (by have := HSS.out; omega)).mono ?_
      rintro e w8 ⟨rfl, hT8⟩
      obtain ⟨s1, hs1⟩ : ∃ s1, s1 = RS.run m n s := ⟨_, rfl⟩
      have HSB : Hid (s1.steps ≤ 40 * (k + 1)) := by
        have h1 := (run_steps (m := m) n hT.out.inv.ch).2
        rw [← hs1] at h1
        have := HSS.out
        show _ ≤ _
        omega
      rw [← hs1] at hT8 ⊢
      have HT8 := Lib.hid hT8
      have HIV : Hid (RInv m s1) := hT8.inv
      have HRU : Hid (∀ j, s1.done = true → RS.run m j s1 = s1) := fun j h => RS.run_done h j
      have hx8 : Ext w5 w8 := hT8.ext
      clear hT8 hs1 hst hk1 hk2 hk3 hk5 hmod hnw hyw qy
      obtain ⟨d, hd⟩ : ∃ d, d = s1.done := ⟨_, rfl⟩
      rw [← hd]
      have HDD := Lib.hid hd
      obtain ⟨cb, hcb⟩ : ∃ cb, cb = cmpC m s1.ch := ⟨_, rfl⟩
      have HCB := Lib.hid hcb
      clear hd hcb
      go_wp2_with fail
      refine HT8.out.found.mono ?_
      rintro e wd ⟨vf, rfl, hed, hpd⟩
      rw [← HCB.out]
      have HTd := Lib.hid (HT8.out.more hed)
      have hxd : Ext w5 wd := HTd.out.ext
      have HPD := Lib.hid hpd
      clear hed hpd hx8
      go_wp2_with fail
      refine HTd.out.choices.mono ?_
      rintro e we ⟨vl9, rfl, hMe⟩
      have HTe := Lib.hid (HTd.out.more hMe.ext)
      have hxe : Ext w5 we := HTe.out.ext
      have HIe := Lib.hid hMe.ints
      obtain ⟨Ae, ce, rfl, hce⟩ := hMe.slice
      have HPE := Lib.hid (HPD.out.below hMe.ext)
      have HEDE : Hid (Ext wd we) := hMe.ext
      have hsl := HTe.out.len
      have hpf := HPE.out
      obtain ⟨_, ⟨Apf, cpf, rfl, -⟩, -⟩ := hpf
      clear hMe HPD hxd
      go_upto_region 12 with fail
      go_cut [91] (fun v wx => v = .bool false ∧ Hid (Ext we wx))
      case first =>
        have hEe := Ext.refl we
        have hps : (foundL m s1.ch).length ≤ 1000 ∧ ∀ x ∈ foundL m s1.ch, x.length ≤ 1000 := found_len HTe.out.good.1 HTe.out.good.2 HIV.out.ch
        have HPS := Lib.hid hps
        clear hps
        have HOPC : Hid (∀ W, Ext we W → s1.ch ≠ [] → Calls Try.prog 38 #[.agg #[.int .i64 m.w, .int .i64 m.h, .int .i64 m.l, .slice Af m.free.length cf, .slice Au m.up.length cu, .slice At m.tasks.length ct], .slice Ae s1.ch.length ce] W fun e w' => e = .returned (.bool true) ∧ Ext W w') := fun W hW hne => by
          have h1 := rOpen_calls W (HM5.out.below (hxe.trans hW)) HMM.out.lens (HIe.out.below hW) (by omega)
          rwa [HIV.out.open hck.out hne] at h1
        cases cb with
        | true =>
          have hdt : d = true := by rw [HDD.out]; exact HIV.out.cmp HCB.out.symm
          subst hdt
          have HRT : Hid (rightB m (foundL m s1.ch) = true) := by
            show _ = _
            unfold foundL
            rw [if_pos HCB.out.symm]
            exact right_of HG.out hck.out HIV.out.ch HCB.out.symm
          have HRC : Hid (∀ W, Ext we W → Calls Try.prog 37 #[.agg #[.int .i64 m.w, .int .i64 m.h, .int .i64 m.l, .slice Af m.free.length cf, .slice Au m.up.length cu, .slice At m.tasks.length ct], .slice Apf (foundL m s1.ch).length cpf] W fun e w' => e = .returned (.bool true) ∧ Ext W w') := fun W hW => by
            have h1 := right_calls W (HM5.out.below (hxe.trans hW)) HMM.out.lens (HPE.out.below hW) (by have := HPS.out.1; omega) (fun x hx => by have := HPS.out.2 x hx; omega)
            rw [HRT.out] at h1
            exact h1
          rcases Nat.eq_zero_or_pos s1.ch.length with hz | hz
          · have hz1 : decide ((0 : Int) < (s1.ch.length : Int)) = false := decide_eq_false (by omega)
            have hz2 : decide (0 < s1.ch.length) = false := decide_eq_false (by omega)
            clear hz
            go_wp2_with fail
            refine (HRC.out we hEe).mono ?_
            rintro e wg ⟨rfl, hEg⟩
            have HEg := Lib.hid hEg
            clear hEg
            go_wp2_with fail
            go_meet
            exact ⟨rfl, HEg.out⟩
          · have hz1 : decide ((0 : Int) < (s1.ch.length : Int)) = true := decide_eq_true (by omega)
            have hz2 : decide (0 < s1.ch.length) = true := decide_eq_true hz
            have HNE : Hid (s1.ch ≠ []) := fun h => by rw [h] at hz; simp at hz
            go_wp2_with fail
            refine (HRC.out we hEe).mono ?_
            rintro e wg ⟨rfl, hEg⟩
            have HEg := Lib.hid hEg
            have hxg : Ext w5 wg := hxe.trans hEg
            clear hEg
            go_wp2_with fail
            refine (HOPC.out wg HEg.out HNE.out).mono ?_
            rintro e wh ⟨rfl, hEh⟩
            have HEh := Lib.hid (HEg.out.trans hEh)
            clear hEh
            go_wp2_with fail
            go_meet
            exact ⟨rfl, HEh.out⟩
        | false =>
          by_cases hne : s1.ch = []
          · have hz : s1.ch.length = 0 := by rw [hne]; rfl
            have hz1 : decide ((0 : Int) < (s1.ch.length : Int)) = false := decide_eq_false (by omega)
            have hz2 : decide (0 < s1.ch.length) = false := decide_eq_false (by omega)
            clear hne hz
            cases d with
            | true =>
              go_wp2_with fail
              go_meet
              exact ⟨rfl, Ext.refl _⟩
            | false =>
              go_wp2_with fail
              go_meet
              exact ⟨rfl, Ext.refl _⟩
          · have hdf : d = false := by
              cases d
              · rfl
              · exact absurd (HIV.out.done HDD.out.symm HCB.out.symm) hne
            subst hdf
            have hz : 0 < s1.ch.length := List.length_pos_iff.2 hne
            have hz1 : decide ((0 : Int) < (s1.ch.length : Int)) = true := decide_eq_true (by omega)
            have hz2 : decide (0 < s1.ch.length) = true := decide_eq_true hz
            have HNE := Lib.hid hne
            clear hne
            go_wp2_with fail
            refine (HOPC.out we hEe HNE.out).mono ?_
            rintro e wh ⟨rfl, hEh⟩
            have HEh := Lib.hid hEh
            clear hEh
            go_wp2_with fail
            go_meet
            exact ⟨rfl, HEh.out⟩
      case rest =>
        obtain ⟨rfl, hEc⟩ := hcut
        obtain ⟨wc2, hwc⟩ : ∃ wc2 : World, wc2 = wc := ⟨_, rfl⟩
        subst hwc
        have HTc := Lib.hid (HTe.out.more hEc.out)
        have HIc := Lib.hid (HIe.out.below hEc.out)
        have HEDC : Hid (Ext wd wc2) := HEDE.out.trans hEc.out
        clear HTe HIe HPE hEc hxe
        cases d with
        | false =>
          go_wp2_with fail
          go_roundg (8 - (k + 1))
          case measure => omega
          case rel => exact ⟨k + 1, s1, by go_num, by omega, rfl, by have := HSB.out; simpa using this, HTc.out⟩
        | true =>
          obtain ⟨st, hst⟩ : ∃ st, st = s1.steps := ⟨_, rfl⟩
          have HST := Lib.hid hst
          clear hst
          have hss : (st == st) = true := by simp
          clear q0 q1 q2 q3 q4 q5 hx
          go_wp2_with fail
          refine HTc.out.stepsC.mono ?_
          rintro e wg ⟨rfl, rfl⟩
          rw [← HST.out]
          go_wp2_with fail
          refine (HTd.out.stepKeep HEDC.out 7 (by omega) (by have := HSB.out; omega)).mono ?_
          rintro e wh ⟨rfl, hTh, hSm⟩
          rw [HRU.out 7 HDD.out.symm] at hTh ⊢
          rw [← HDD.out]
          have HTh := Lib.hid hTh
          have HIh := Lib.hid (HIc.out.keep hSm)
          clear hTh hSm
          go_wp2_with fail
          refine HTh.out.stepsC.mono ?_
          rintro e wi ⟨rfl, rfl⟩
          rw [← HST.out]
          go_wp2_with fail
          refine HTh.out.choices.mono ?_
          rintro e wj ⟨vj, rfl, hMj⟩
          have HTj := Lib.hid (HTh.out.more hMj.ext)
          have HIj := Lib.hid hMj.ints
          have HIh := Lib.hid (HIh.out.below hMj.ext)
          clear hMj HTh
          go_wp2_with fail
          refine (is_t wj rfl HIj.out HIh.out (by omega)).mono ?_
          rintro e wk ⟨rfl, hdk⟩
          have HFIN : Hid (Ext w wk) := HEW5.out.trans (HTj.out.more (hdk.below _)).ext
          clear hdk HTj HIj HIh
          go_wp2_with fail
          go_ret
          exact ⟨rfl, HFIN.out⟩
    · have hno : decide (k < bs.length) = false ∨ (decide (k < bs.length) = true ∧ decide ((k : Int) < 8) = false) := by
        by_cases h1 : k < bs.length
        · exact .inr ⟨decide_eq_true h1, decide_eq_false (by omega)⟩
        · exact .inl (decide_eq_false h1)
      have HFIN : Hid (Ext w wr) := HEW5.out.trans hx
      clear hgo q0 q1 q2 q3 q4 q5 hx
      rcases hno with h1 | ⟨h1, h2⟩
      all_goals
        go_wp2_with fail
        go_ret
        exact ⟨rfl, HFIN.out⟩
set_option maxRecDepth 100000 in
theorem routeFinds_walk {H : Type} {enc : TypeId × Value → H} {base : Nat} {v0 v1 : Value} {d0 d1 : DataW H} {p0 p1 : List MemPlace} (W : World) (hv0 : Value.okWide Try.prog W .any base 26 v0) (h0 : DataW.Trod enc Try.prog W 0 (fun _ => true) true 26 v0 d0 p0)
    (hv1 : Value.okWide Try.prog W .any base 45 v1) (h1 : DataW.Trod enc Try.prog W 0 (fun _ => true) true 45 v1 d1 p1) :
    Calls Try.prog 9 #[v0, v1] W fun e w' => e = .returned (.bool true) ∧ Below W.heap.size W w' := by
  obtain ⟨va, o0, o1, o2, vb, ls, ns, rfl, h2, h3, h4, h5, h6, -⟩ := caseOpen h0 (caseAgg hv0)
  obtain ⟨bs, h7, h8⟩ := bytesOpen hv1 h1
  exact finds_calls o0 o1 o2 W h2 h3 h4 h5 h6 h7 h8
end Go.Proofs.Ytgpjfpcjiebjiaa
