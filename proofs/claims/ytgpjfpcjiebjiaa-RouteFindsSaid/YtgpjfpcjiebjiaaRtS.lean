/- Walks: the state of choices: its task, whether its last path is finished, whether it is complete. -/
import Derived.Test.YtgpjfpcjiebjiaaRtJ
namespace Go.Proofs.Ytgpjfpcjiebjiaa
open Go.RowKit
set_option linter.unusedVariables false
set_option linter.unusedSimpArgs false
attribute [local go_sem ↓] Go.wp_at_zero Go.wp_at_succ

/-- The cells of a state. -/
def stCells (m : MZ) (f u t vc vp : Value) (gu : Nat) : Array Value := #[.int .i64 m.w, .int .i64 m.h, .int .i64 m.l, f, u, t, vc, vp, .map (some gu)]
/-- The memory of a state at g: the maze, the choices, the paths, the set of used nodes. -/
structure StAt (w : World) (ok : Nat → Prop) (g : Nat) (m : MZ) (ch : List Int) (ps : List (List Int)) (us : List Int) (f u t vc vp : Value) (gu : Nat) : Prop where
  blk : Blk w g 91 (stCells m f u t vc vp gu)
  okg : ok g
  maze : MazeV w ok (.agg #[.int .i64 m.w, .int .i64 m.h, .int .i64 m.l, f, u, t]) m
  ch : Ints w ok vc ch
  ps : Intss w ok vp ps
  oku : ok gu
  us : SetIs w gu us
/-- The value v is a pointer to such a state. -/
def StateV (w : World) (ok : Nat → Prop) (v : Value) (m : MZ) (ch : List Int) (ps : List (List Int)) (us : List Int) : Prop :=
  ∃ g f u t vc vp gu, v = .pointer (some ⟨g, 0, none⟩) ∧ StAt w ok g m ch ps us f u t vc vp gu
section
variable {w w' : World} {ok ok' : Nat → Prop} {v f u t vc vp : Value} {m : MZ} {ch us : List Int} {ps : List (List Int)} {g gu : Nat}
theorem StAt.keep (h : StAt w ok g m ch ps us f u t vc vp gu) (hk : Same ok w w') : StAt w' ok g m ch ps us f u t vc vp gu :=
  ⟨(hk g h.okg (lt_of_some h.blk)).trans h.blk, h.okg, h.maze.keep hk, h.ch.keep hk, h.ps.keep hk, h.oku, h.us.keep hk h.oku⟩
theorem StAt.weaken (h : StAt w ok g m ch ps us f u t vc vp gu) (hk : ∀ b, ok b → ok' b) : StAt w ok' g m ch ps us f u t vc vp gu :=
  ⟨h.blk, hk _ h.okg, h.maze.weaken hk, h.ch.weaken hk, h.ps.weaken hk, hk _ h.oku, h.us⟩
theorem StateV.keep (h : StateV w ok v m ch ps us) (hk : Same ok w w') : StateV w' ok v m ch ps us := by
  obtain ⟨g, f, u, t, vc, vp, gu, e, h⟩ := h
  exact ⟨g, f, u, t, vc, vp, gu, e, h.keep hk⟩
theorem StateV.weaken (h : StateV w ok v m ch ps us) (hk : ∀ b, ok b → ok' b) : StateV w ok' v m ch ps us := by
  obtain ⟨g, f, u, t, vc, vp, gu, e, h⟩ := h
  exact ⟨g, f, u, t, vc, vp, gu, e, h.weaken hk⟩
theorem StateV.below (h : StateV w ok v m ch ps us) (hb : Below w.heap.size w w') : StateV w' ok v m ch ps us := h.keep (Same.of_below hb)
theorem StAt.ext (h : StAt w ok g m ch ps us f u t vc vp gu) (hb : Ext w w') : StAt w' ok g m ch ps us f u t vc vp gu := h.keep (Same.of_below hb)
/-- The cells of a state, in every world that has them. -/
theorem StAt.rules (h : StAt w ok g m ch ps us f u t vc vp gu) :
    (∀ W, Ext w W → W.cell? ⟨g, 0, none⟩ = some (.int .i64 m.w)) ∧ (∀ W, Ext w W → W.cell? ⟨g, 1, none⟩ = some (.int .i64 m.h)) ∧ (∀ W, Ext w W → W.cell? ⟨g, 2, none⟩ = some (.int .i64 m.l)) ∧
    (∀ W, Ext w W → W.cell? ⟨g, 3, none⟩ = some f) ∧ (∀ W, Ext w W → W.cell? ⟨g, 4, none⟩ = some u) ∧ (∀ W, Ext w W → W.cell? ⟨g, 5, none⟩ = some t) ∧
    (∀ W, Ext w W → W.cell? ⟨g, 6, none⟩ = some vc) ∧ (∀ W, Ext w W → W.cell? ⟨g, 7, none⟩ = some vp) ∧ (∀ W, Ext w W → W.cell? ⟨g, 8, none⟩ = some (.map (some gu))) := by
  have hb := h.blk
  unfold Blk stCells at hb
  have hc : ∀ k x, (#[Value.int .i64 m.w, .int .i64 m.h, .int .i64 m.l, f, u, t, vc, vp, .map (some gu)] : Array Value)[k]? = some x → w.cell? ⟨g, k, none⟩ = some x := by
    intro k x hk
    unfold World.cell?
    simp only [hb]
    exact hk
  exact ⟨Ext.rule (hc 0 _ rfl), Ext.rule (hc 1 _ rfl), Ext.rule (hc 2 _ rfl), Ext.rule (hc 3 _ rfl), Ext.rule (hc 4 _ rfl), Ext.rule (hc 5 _ rfl), Ext.rule (hc 6 _ rfl), Ext.rule (hc 7 _ rfl), Ext.rule (hc 8 _ rfl)⟩
end

/-- A state's paths, in bounds. -/
structure SOk (m : MZ) (ch : List Int) (ps : List (List Int)) : Prop where
  good : Good m
  lens : Lens m
  pl : ps.length ≤ m.tasks.length
  pn : 0 < m.tasks.length → 0 < ps.length
  pp : ∀ p ∈ ps, p.length ≤ 1000
  pr : ∀ p ∈ ps, ∀ x ∈ p, 0 ≤ x ∧ x < m.n
  cl : ch.length ≤ 1000

/-- Is the last path finished? -/
def finB (m : MZ) (ps : List (List Int)) : Bool :=
  match (ps.getD (ps.length - 1) []).getLast? with
  | none => false
  | some x => decide (x ∈ (m.tasks.getD (ps.length - 1) ([], [])).2)
/-- Are all paths finished? -/
def cmpB (m : MZ) (ps : List (List Int)) : Bool := decide (m.tasks.length = 0) || (decide (ps.length = m.tasks.length) && finB m ps)

theorem held1_drew {w : World} : Ext w w.drew := (Ext.refl w).drew
theorem held1 {w a b : World} (h : Ext w a) (hb : Below a.heap.size a b) : Ext w b := h.trans hb

set_option maxRecDepth 100000 in
theorem task_calls {ok : Nat → Prop} {m : MZ} {ch us : List Int} {ps : List (List Int)} {g gu : Nat} {f u t vc vp : Value} (w : World) (h : StAt w ok g m ch ps us f u t vc vp gu) (hl : ps.length ≤ 20000000000000) :
    Calls Try.prog 87 #[.pointer (some ⟨g, 0, none⟩)] w fun e w' => e = .returned (.int .i64 ((ps.length : Int) - 1)) ∧ w = w' := by
  obtain ⟨r0, r1, r2, r3, r4, r5, r6, r7, r8⟩ := h.rules
  obtain ⟨vs, ⟨Ap, cp, rfl, hcp, _⟩, _⟩ := h.ps
  clear h
  have hx := Ext.refl w
  go_enter Try.func87, Try.ntmps87
  go_wp2
  go_ret
  exact ⟨rfl, rfl⟩

set_option maxHeartbeats 4000000 in
set_option maxRecDepth 100000 in
theorem finished_calls {ok : Nat → Prop} {m : MZ} {ch us : List Int} {ps : List (List Int)} {g gu : Nat} {f u t vc vp : Value} (w : World) (h : StAt w ok g m ch ps us f u t vc vp gu) (so : SOk m ch ps) (hp : 0 < ps.length) :
    Calls Try.prog 85 #[.pointer (some ⟨g, 0, none⟩)] w fun e w' => e = .returned (.bool (finB m ps)) ∧ Drew w w' := by
  obtain ⟨r0, r1, r2, r3, r4, r5, r6, r7, r8⟩ := h.rules
  have hps := h.ps
  have hmz := h.maze
  have HS := Lib.hid h; clear h
  obtain ⟨vs, ⟨Ap, cp, rfl, hcp, hrp⟩, hep⟩ := hps
  obtain ⟨fr', up', ts', he, _, _, hts⟩ := hmz
  injection he with he
  injection he with he
  simp only [List.cons.injEq, and_true, true_and] at he
  obtain ⟨rfl, rfl, rfl⟩ := he
  have htt := hts
  obtain ⟨vst, ⟨At, ct, rfl, hct, _⟩, _⟩ := htt
  have hk : ps.length - 1 < ps.length := by omega
  obtain ⟨b, off, up, rfl, _, hcp0, hup⟩ := eachAt hrp hep hk hk
  have hkt : ps.length - 1 < m.tasks.length := by have := so.pl; omega
  obtain ⟨bt, offt, sn, u1, u2, rfl, _, hc0, hc1, hc2, hi1, hi2⟩ := tasksAt hts hkt
  have hto := so.lens
  have hpl := so.pl
  have htk := so.good.tk
  have hlp := so.pp _ (List.getElem_mem hk)
  have hlt2 := (hto.tl _ (List.getElem_mem hkt)).2
  clear hto hrp hep hts
  have hfin : finB m ps = match (ps[ps.length - 1]).getLast? with | none => false | some x => decide (x ∈ (m.tasks[ps.length - 1]).2) := by
    unfold finB
    simp [hk, hkt]
  obtain ⟨p, hpp⟩ : ∃ p, p = ps[ps.length - 1] := ⟨_, rfl⟩
  obtain ⟨tk, htkk⟩ : ∃ tk, tk = m.tasks[ps.length - 1] := ⟨_, rfl⟩
  rw [← hpp] at hup hlp hfin
  rw [← htkk] at hi1 hi2 hlt2 hfin
  clear hpp htkk hi1
  have HI2 := Lib.hid hi2; clear hi2
  have HF := Lib.hid hfin; clear hfin
  obtain ⟨Aq, cq, rfl, hcq, hrq⟩ := hup
  obtain ⟨k, hkk⟩ : ∃ k, ps.length - 1 = k := ⟨_, rfl⟩
  rw [hkk] at hcp0 hc1 hc2 hkt
  have hki : (ps.length : Int) - 1 = (k : Int) := by omega
  have HKI := Lib.hid hki; clear hki
  have hk1 : (k : Int) < (ps.length : Int) := by omega
  have hk0 : (0 : Int) ≤ (k : Int) := by omega
  have hkt1 : (k : Int) < (m.tasks.length : Int) := by omega
  have rp := Ext.rule hcp0
  have rt := Ext.rule hc2
  clear hcp0 hc0 hc1 hc2 hkk hk hkt
  have hx := Ext.refl w
  rcases List.eq_nil_or_concat p with rfl | ⟨q, x, rfl⟩
  · have hz : ([] : List Int).length = 0 := rfl
    rw [hz] at hcq
    go_enter Try.func85, Try.ntmps85
    go_wp2_with fail
    go_quiet ((go_at_call 87; refine (task_calls _ (HS.out.ext ((Ext.refl w).drewN _)) (by omega)).mono ?_; rintro e w9 ⟨he9, rfl⟩; rw [HKI.out] at he9; exact ⟨he9, ⟨_, rfl⟩⟩))
    go_wp2_with fail
    go_quiet (fail)
    go_wp2
    go_ret
    exact ⟨ret_bool (by rw [HF.out]; rfl), (Drew.refl w).more _ |>.more _⟩
  · rw [List.concat_eq_append] at hrq hlp hcq HF
    have hql : (q ++ [x]).length = q.length + 1 := by simp
    rw [hql] at hcq hlp
    have hcx : ∃ bq offq, Aq = some ⟨bq, offq, none⟩ ∧ w.cell? ⟨bq, offq + q.length, none⟩ = some (.int .i64 x) := by
      obtain ⟨bq, offq, e, _, hc⟩ := intsAt hrq (k := q.length) (by omega) (by omega)
      exact ⟨bq, offq, e, by rw [hc]; simp⟩
    obtain ⟨bq, offq, rfl, hcx⟩ := hcx
    have rx := Ext.rule hcx
    clear hcx hrq
    have hlast : (q ++ [x]).getLast? = some x := by simp
    rw [hlast] at HF
    have hlen : (q.concat x).length = q.length + 1 := by simp
    rw [hlen] at rp
    clear hlast hql hlen
    generalize q.length = n at *
    obtain ⟨N, hN⟩ : ∃ N, N = n + 1 := ⟨_, rfl⟩
    rw [← hN] at rp hcq hlp
    have hq0 : (0 : Int) ≤ (n : Int) := by omega
    have hq1 : (n : Int) < (N : Int) := by omega
    have hq2 : (N : Int) - 1 = (n : Int) := by omega
    have hq3 : (0 : Int) < (N : Int) := by omega
    have hq4 : 0 < N := by omega
    have hqw : IntKind.i64.wrap ((N : Int) - 1) = (n : Int) := by rw [IntKind.wrap_i64]; omega
    clear hN hq2
    go_enter Try.func85, Try.ntmps85
    go_wp2_with fail
    go_quiet ((go_at_call 87; refine (task_calls _ (HS.out.ext ((Ext.refl w).drewN _)) (by omega)).mono ?_; rintro e w9 ⟨he9, rfl⟩; rw [HKI.out] at he9; exact ⟨he9, ⟨_, rfl⟩⟩))
    generalize hw1 : w.drewN nq = w1
    have hd1 : Drew w w1 := ⟨nq, hw1.symm⟩
    have hx1 : Ext w w1 := hd1.below _
    clear hw1
    go_wp2_with fail
    go_quiet (first | ((go_at_call 87; refine (task_calls _ (HS.out.ext (hx1.drewN _)) (by omega)).mono ?_; rintro e w9 ⟨he9, rfl⟩; rw [HKI.out] at he9; exact ⟨he9, ⟨_, rfl⟩⟩)) | ((go_at_call 67; refine (contains_calls x _ (HI2.out.below (hx1.drewN _)) (by omega)).mono ?_; rintro e w8 ⟨he8, rfl⟩; exact ⟨he8, ⟨_, rfl⟩⟩)))
    go_wp2
    go_ret
    exact ⟨ret_bool (by rw [HF.out]), hd1.more _⟩

set_option maxHeartbeats 4000000 in
set_option maxRecDepth 100000 in
theorem complete_calls {ok : Nat → Prop} {m : MZ} {ch us : List Int} {ps : List (List Int)} {g gu : Nat} {f u t vc vp : Value} (w : World) (h : StAt w ok g m ch ps us f u t vc vp gu) (so : SOk m ch ps) :
    Calls Try.prog 63 #[.pointer (some ⟨g, 0, none⟩)] w fun e w' => e = .returned (.bool (cmpB m ps)) ∧ Drew w w' := by
  obtain ⟨r0, r1, r2, r3, r4, r5, r6, r7, r8⟩ := h.rules
  have hps := h.ps
  have hmz := h.maze
  have HS := Lib.hid h; clear h
  obtain ⟨vs, ⟨Ap, cp, rfl, hcp, hrp⟩, hep⟩ := hps
  obtain ⟨fr', up', ts', he, _, _, hts⟩ := hmz
  injection he with he
  injection he with he
  simp only [List.cons.injEq, and_true, true_and] at he
  obtain ⟨rfl, rfl, rfl⟩ := he
  obtain ⟨vst, ⟨At, ct, rfl, hct, _⟩, _⟩ := hts
  have hpl := so.pl
  have hpn := so.pn
  have htk := so.good.tk
  have SO := Lib.hid so; clear so
  clear hrp hep
  have hx := Ext.refl w
  obtain ⟨cb, hcb⟩ : ∃ cb, cb = cmpB m ps := ⟨_, rfl⟩
  have HCB := Lib.hid hcb
  rw [← hcb]
  clear hcb
  unfold cmpB at HCB
  obtain ⟨T, hT⟩ : ∃ T, T = m.tasks.length := ⟨_, rfl⟩
  obtain ⟨Pn, hP⟩ : ∃ Pn, Pn = ps.length := ⟨_, rfl⟩
  rw [← hT] at r5 hct HCB hpl hpn htk
  rw [← hP] at r7 hcp HCB hpl hpn
  have HT := Lib.hid hT; clear hT
  have HP := Lib.hid hP; clear hP
  by_cases h0 : T = 0
  · have HC : Hid (cb = true) := by have := HCB.out; rw [decide_eq_true h0] at this; simpa [Hid] using this
    have hd1 : decide ((T : Int) = 0) = true := decide_eq_true (by omega)
    have hd2 : ((T : Int) == 0) = true := by rw [beq_iff_eq]; omega
    clear h0 hpn
    go_enter Try.func63, Try.ntmps63
    go_wp2_with fail
    go_quiet (fail)
    go_wp2
    go_ret
    exact ⟨ret_bool HC.out.symm, (Drew.refl w).more _⟩
  · have hd1 : decide ((T : Int) = 0) = false := decide_eq_false (by omega)
    have hd2 : ((T : Int) == 0) = false := by rw [beq_eq_false_iff_ne]; omega
    by_cases h1 : Pn = T
    · have HC : Hid (cb = finB m ps) := by have := HCB.out; rw [decide_eq_false h0, decide_eq_true h1] at this; simpa [Hid] using this
      have h1' : Hid (0 < ps.length) := (by have := HP.out; omega : 0 < ps.length)
      subst h1
      have he2 : ((Pn : Int) == (Pn : Int)) = true := by rw [beq_iff_eq]
      clear h0
      go_enter Try.func63, Try.ntmps63
      go_wp2_with fail
      go_quiet ((go_at_call 85; refine (finished_calls _ (HS.out.ext ((Ext.refl w).drewN _)) SO.out h1'.out).mono ?_; rintro e w9 ⟨he9, nd, rfl⟩; exact ⟨he9, ⟨_, World.drewN_drewN _ _ _⟩⟩))
      go_wp2
      go_ret
      exact ⟨ret_bool HC.out.symm, (Drew.refl w).more _⟩
    · have HC : Hid (cb = false) := by have := HCB.out; rw [decide_eq_false h0, decide_eq_false h1] at this; simpa [Hid] using this
      have he1 : decide ((Pn : Int) = (T : Int)) = false := decide_eq_false (by omega)
      have he2 : ((Pn : Int) == (T : Int)) = false := by rw [beq_eq_false_iff_ne]; omega
      clear h1 h0
      go_enter Try.func63, Try.ntmps63
      go_wp2_with fail
      go_quiet (fail)
      go_wp2
      go_ret
      exact ⟨ret_bool HC.out.symm, (Drew.refl w).more _⟩
end Go.Proofs.Ytgpjfpcjiebjiaa
