/- Walks: some steps of the router; what it has found. -/
import Derived.Test.YtgpjfpcjiebjiaaRtSt
namespace Go.Proofs.Ytgpjfpcjiebjiaa
open Go.RowKit
set_option linter.unusedVariables false
set_option linter.unusedSimpArgs false
attribute [local go_sem ↓] Go.wp_at_zero Go.wp_at_succ

theorem one_isCh {m : MZ} {s : RS} (h : IsCh m s.ch) : IsCh m (s.one m).ch ∧ (s.one m).steps = s.steps + 1 := by
  unfold RS.one
  split
  · rename_i c hc; exact ⟨(stepC_some h hc).1, rfl⟩
  · exact ⟨.nil, rfl⟩
theorem run_isCh {m : MZ} : ∀ (n : Nat) {s : RS}, IsCh m s.ch → IsCh m (RS.run m n s).ch
  | 0, s, h => h
  | n + 1, s, h => by
    unfold RS.run
    split
    · exact h
    · exact run_isCh n (one_isCh h).1
theorem run_steps {m : MZ} : ∀ (n : Nat) {s : RS}, IsCh m s.ch → s.steps ≤ (RS.run m n s).steps ∧ (RS.run m n s).steps ≤ s.steps + n
  | 0, s, h => ⟨Int.le_refl _, by simp [RS.run]⟩
  | n + 1, s, h => by
    unfold RS.run
    split
    · exact ⟨Int.le_refl _, by omega⟩
    · have h1 := one_isCh h
      have h2 := run_steps n h1.1
      omega
/-- The router in the middle of a run. -/
structure RunR (w wr : World) (X Y : Nat → Prop) (g gr cap : Nat) (m : MZ) (s0 : RS) (n : Nat) (s : RS) (pt : List Nat) (k : Nat) : Prop where
  rt : RtAt wr X Y g gr cap m s pt
  chg : Chg X w wr
  run : RS.run m k s = RS.run m n s0
  ch : IsCh m s.ch
  st : 0 ≤ s.steps ∧ s.steps + k ≤ 4000000000000000000
def RunPost (w : World) (X Y : Nat → Prop) (g : Nat) (m : MZ) (s : RS) (e : Ending) (w' : World) : Prop :=
  e = .returned (.bool s.done) ∧ ∃ gr' cap' ptrs', RtAt w' X Y g gr' cap' m s ptrs' ∧ Chg X w w'

set_option maxHeartbeats 4000000 in
set_option maxRecDepth 100000 in
theorem stepN_calls {X Y : Nat → Prop} {g gr cap : Nat} {m : MZ} {s : RS} {ptrs : List Nat} (n : Nat) (w : World) (h : RtAt w X Y g gr cap m s ptrs) (gd : Good m) (hl : Lens m) (hc : IsCh m s.ch) (hn : n ≤ 1000000) (hs0 : 0 ≤ s.steps) (hs1 : s.steps ≤ 3000000000000000000)
    (hXn : ∀ b, w.heap.size ≤ b → X b) (hYb : ∀ b, Y b → b < w.heap.size) :
    Calls Try.prog 24 #[.pointer (some ⟨g, 0, none⟩), .int .i64 n] w (RunPost w X Y g m (RS.run m n s)) := by
  have H0 : Hid (RunR w w X Y g gr cap m s n s ptrs n) := ⟨h, Chg.refl _ _, rfl, hc, hs0, by omega⟩
  have GD := Lib.hid gd
  have HL := Lib.hid hl
  have HXN := Lib.hid hXn
  have HYB := Lib.hid hYb
  have hc0 : w.cell? ⟨g, 0, none⟩ = some (.slice (some ⟨gr, 0, none⟩) ptrs.length cap) := h.blk.cell (k := 0) rfl
  have hpl : ptrs.length = s.ch.length + 1 := h.row.2.1
  have hP1 : ((ptrs.length : Int) == 0) = false := by rw [beq_eq_false_iff_ne]; omega
  obtain ⟨R, hR⟩ : ∃ R, R = RS.run m n s := ⟨_, rfl⟩
  rw [← hR]
  have HR := Lib.hid hR
  clear h gd hl hc hXn hYb hs0 hs1 hpl hR
  go_enter Try.func24, Try.ntmps24
  go_wp2_with fail
  clear hc0 hP1
  go_loopg [1] n (fun gk v wr => ∃ gr cap s' pt, v = .int .i64 gk ∧ gk ≤ n ∧ Hid (RunR w wr X Y g gr cap m s n s' pt gk))
  case atStart => exact ⟨gr, cap, s, ptrs, rfl, Nat.le_refl _, H0⟩
  clear H0
  case round =>
    obtain ⟨gr, cap, s', pt, rfl, hkn, hR⟩ := hrel
    have hrt := hR.out.rt
    have hc1 : wr.cell? ⟨g, 1, none⟩ = some (.bool s'.done) := hrt.blk.cell (k := 1) rfl
    have HRT := Lib.hid hrt; clear hrt
    obtain ⟨d, hd⟩ : ∃ d, d = s'.done := ⟨_, rfl⟩
    rw [← hd] at hc1
    have HD := Lib.hid hd; clear hd
    cases gk with
    | zero =>
      have hlt : decide ((0 : Int) < ((0 : Nat) : Int)) = false := by simp
      have hfin : RunPost w X Y g m R (.returned (.bool d)) wr := by
        have h1 := hR.out.run
        rw [← HR.out] at h1
        rw [← h1, HD.out]
        exact ⟨rfl, gr, cap, pt, HRT.out, hR.out.chg⟩
      have HFIN := Lib.hid hfin; clear hfin
      go_wp2_with fail
      go_ret
      exact HFIN.out
    | succ k =>
      have hlt : decide ((0 : Int) < ((k + 1 : Nat) : Int)) = true := decide_eq_true (by omega)
      have hlt2 : (0 : Int) < ((k + 1 : Nat) : Int) := by omega
      cases d with
      | true =>
        have hfin : RunPost w X Y g m R (.returned (.bool true)) wr := by
          have h1 := hR.out.run
          rw [RS.run_done HD.out.symm, ← HR.out] at h1
          rw [← h1]
          exact ⟨by rw [← HD.out], gr, cap, pt, HRT.out, hR.out.chg⟩
        have HFIN := Lib.hid hfin; clear hfin
        go_wp2_with fail
        go_ret
        exact HFIN.out
      | false =>
        go_wp2_with fail
        refine (stepX_calls wr HRT.out GD.out HL.out hR.out.ch hR.out.st.1 (by have := hR.out.st.2; omega) (fun b hb => HXN.out b (Nat.le_trans hR.out.chg.size hb)) (fun b hb => Nat.lt_of_lt_of_le (HYB.out b hb) hR.out.chg.size)).mono ?_
        rintro e w5 ⟨rfl, gr', cap', pt', hrt5, hch5⟩
        have HN : Hid (RunR w w5 X Y g gr' cap' m s n (s'.one m) pt' k) := by
          have h1 := one_isCh hR.out.ch
          have h2 := hR.out.st
          have h3 := hR.out.run
          unfold RS.run at h3
          rw [← HD.out, if_neg (by simp)] at h3
          exact ⟨hrt5, hR.out.chg.tr hch5, h3.trans (by cases n <;> rfl), h1.1, by omega⟩
        clear hrt5 hch5 hc1
        go_wp2_with fail
        go_roundg k
        case measure => omega
        case rel => exact ⟨gr', cap', _, pt', by go_num, by omega, HN⟩


/-- The clones of paths, as far as they are made. -/
structure FL (w wr : World) (v : Value) (vs : List Value) (l : List (List Int)) : Prop where
  ext : Ext w wr
  own : OwnL wr w.heap.size v vs
  len : vs.length = l.length
  each : ∀ (j : Nat) x, l[j]? = some x → ∃ u, vs[j]? = some u ∧ OwnI wr w.heap.size u x
theorem FL.nil (w wr : World) (h : Ext w wr) : FL w wr (.slice none 0 0) [] [] := ⟨h, World.ownsRow_nil _ _ _ _, rfl, fun j x h => by simp at h⟩
theorem FL.more {w wr w' : World} {v : Value} {vs : List Value} {l : List (List Int)} (h : FL w wr v vs l) (hE : Ext wr w') : FL w w' v vs l := by
  have hg : wr.grownBy w' none := ⟨hE.os, hE.tape, hE.output, hE.size, fun i hi _ => hE.block i hi⟩
  refine ⟨h.ext.trans hE, h.own.kept hg (by cases h : v.ownBlock <;> simp), h.len, fun j x hj => ?_⟩
  obtain ⟨u, hu, ho⟩ := h.each j x hj
  exact ⟨u, hu, ho.kept hg (by cases h : u.ownBlock <;> simp)⟩
theorem own_neT {w : World} {B B' : Nat} {e e' : TypeId} {sz sz' n n' : Nat} {v v' : Value} {xs xs' : List Value} (h : w.ownsRow B e sz v n xs) (h' : w.ownsRow B' e' sz' v' n' xs') (hne : e ≠ e') : v.ownBlock = none ∨ v.ownBlock ≠ v'.ownBlock := by
  rcases h.2 with ⟨rfl, _⟩ | ⟨g, cap, cur, rfl, _, hh, _⟩
  · left; rfl
  · right
    rcases h'.2 with ⟨rfl, _⟩ | ⟨g', cap', cur', rfl, _, hh', _⟩
    · simp [Value.ownBlock]
    · intro he
      have he2 : g = g' := by simpa [Value.ownBlock] using he
      subst he2
      rw [hh] at hh'
      injection hh' with hh'
      injection hh' with _ ht
      exact hne ht
/-- One clone more. -/
theorem FL.app {w wr w' : World} {v v' u : Value} {vs : List Value} {l : List (List Int)} {x : List Int} {o : Obj} (h : FL w wr v vs l) (hu : OwnI wr w.heap.size u x) (ho : w'.ownsRow w.heap.size 24 1 v' (vs.length + 1) (vs ++ [u])) (hg : (wr.alloc o).grownBy w' v.ownBlock) : FL w w' v' (vs ++ [u]) (l ++ [x]) := by
  have hE : Ext wr (wr.alloc o) := (Ext.refl _).alloc _
  have h1 := h.more hE
  have hk : ∀ {u' : Value} {x' : List Int}, OwnI wr w.heap.size u' x' → OwnI w' w.heap.size u' x' := fun hu' => (World.ownsRow.alloc hu' o).kept hg (own_neT hu' h.own (by decide))
  refine ⟨below_app h1.ext hg h1.ext.size (fun k hk => (h1.own.lt k hk).1), ?_, by simp [h.len], fun j y hj => ?_⟩
  · show w'.ownsRow _ _ _ _ (vs ++ [u]).length _
    rw [List.length_append, List.length_singleton]
    exact ho
  · rcases Nat.lt_or_ge j l.length with hjl | hjl
    · rw [List.getElem?_append_left hjl] at hj
      obtain ⟨u', hu', ho'⟩ := h.each j y hj
      exact ⟨u', by rw [List.getElem?_append_left (by rw [h.len]; exact hjl)]; exact hu', hk ho'⟩
    · have hj2 : j = l.length := by
        rcases Nat.lt_or_ge j (l ++ [x]).length with h1 | h1
        · simp at h1; omega
        · rw [List.getElem?_eq_none h1] at hj; cases hj
      subst hj2
      rw [List.getElem?_append_right (Nat.le_refl _)] at hj
      have hy : x = y := by simpa using hj
      subst hy
      exact ⟨u, by rw [← h.len, List.getElem?_append_right (Nat.le_refl _)]; simp, hk hu⟩
theorem FL.intss {w wr : World} {v : Value} {vs : List Value} {l : List (List Int)} (h : FL w wr v vs l) : Intss wr (fun b => w.heap.size ≤ b) v l :=
  ⟨vs, by rw [← h.len]; exact Row.of_own h.own, fun j x hj => by
    obtain ⟨u, hu, ho⟩ := h.each j x hj
    exact ⟨u, hu, Row.of_own ho⟩⟩

/-- What Found returns. -/
def foundL (m : MZ) (ch : List Int) : List (List Int) := if cmpC m ch = true then psOf m ch else []
def FoundPost (w : World) (m : MZ) (ch : List Int) (e : Ending) (w' : World) : Prop :=
  ∃ v, e = .returned (.tuple #[v, .bool (cmpC m ch)]) ∧ Ext w w' ∧ Intss w' (fun b => w.heap.size ≤ b) v (foundL m ch)

set_option maxHeartbeats 4000000 in
set_option maxRecDepth 100000 in
theorem found_c {X Y : Nat → Prop} {g gr cap : Nat} {m : MZ} {s : RS} {ptrs : List Nat} (w : World) (h : RtAt w X Y g gr cap m s ptrs) (gd : Good m) (hl : Lens m) (hc : IsCh m s.ch) :
    Calls Try.prog 26 #[.pointer (some ⟨g, 0, none⟩)] w (FoundPost w m s.ch) := by
  obtain ⟨p, hp, hst, hc1⟩ := h.row.last
  have hn := hc.len300 gd
  have HL1 := Lib.hid (last_c (w' := w) h hp (by omega))
  have HLX : Hid (∀ w2, Ext w w2 → Calls Try.prog 62 #[.pointer (some ⟨g, 0, none⟩)] w2 fun e w' => e = .returned (.pointer (some ⟨p, 0, none⟩)) ∧ Drew w2 w') := fun w2 hE => last_c (w' := w2) (h.ext hE) hp (by omega)
  have hc0 : w.cell? ⟨g, 0, none⟩ = some (.slice (some ⟨gr, 0, none⟩) ptrs.length cap) := h.blk.cell (k := 0) rfl
  have hpl : ptrs.length = s.ch.length + 1 := h.row.2.1
  have hP1 : ((ptrs.length : Int) == 0) = false := by rw [beq_eq_false_iff_ne]; omega
  have HST := Lib.hid hst
  have GD := Lib.hid gd
  have HL := Lib.hid hl
  have HC := Lib.hid hc
  obtain ⟨i0, hi, hz0, hz1, hz2⟩ := info_parts Try.infoInts
  have IF := Lib.hid hi
  have IZ0 := Lib.hid hz0
  have IZ1 := Lib.hid hz1
  have IZ2 := Lib.hid hz2
  clear hi hz0 hz1 hz2
  clear h gd hl hc hpl hp hc1 hst hn
  obtain ⟨cb, hcb⟩ : ∃ cb, cb = cmpC m s.ch := ⟨_, rfl⟩
  have HCB := Lib.hid hcb; clear hcb
  go_enter Try.func26, Try.ntmps26
  go_wp2_with fail
  refine HL1.out.mono ?_
  rintro e w1 ⟨rfl, hd1⟩
  have hx1 : Ext w w1 := hd1.below _
  clear hd1
  go_wp2_with fail
  refine (complete_c w1 (HST.out.ext hx1) GD.out HL.out HC.out).mono ?_
  rintro e w2 ⟨rfl, hd2⟩
  have hx2 : Ext w w2 := hx1.trans (hd2.below _)
  rw [← HCB.out]
  clear hd2 hx1 hP1
  cases cb with
  | false =>
    have hfin : FoundPost w m s.ch (.returned (.tuple #[.slice none 0 0, .bool false])) w2 := ⟨_, by rw [HCB.out], hx2, by unfold foundL; rw [← HCB.out]; exact Intss.nil _ _⟩
    have HFIN := Lib.hid hfin; clear hfin
    go_wp2_with fail
    go_ret2
    exact HFIN.out
  | true =>
    go_wp2_with fail
    refine (HLX.out w2 hx2).mono ?_
    rintro e w3 ⟨rfl, hd3⟩
    have hx3 : Ext w w3 := hx2.trans (hd3.below _)
    clear hd3 hx2
    obtain ⟨us, f, u, t, vc, vp, gu, _, hst2⟩ := HST.out
    obtain ⟨_, _, _, _, _, _, _, r7, _⟩ := hst2.rules
    have hps := hst2.ps
    clear hst2
    have hpp : Hid (∀ p ∈ psOf m s.ch, p.length ≤ 1000) := (HC.out.sok GD.out HL.out).pp
    have hpl : (psOf m s.ch).length ≤ 6 := by have := (HC.out.sok GD.out HL.out).pl; have := GD.out.tk; omega
    obtain ⟨ps, hpsn⟩ : ∃ ps, ps = psOf m s.ch := ⟨_, rfl⟩
    rw [← hpsn] at hps hpp hpl
    have HPS := Lib.hid hpsn; clear hpsn
    have HP := Lib.hid hps
    obtain ⟨vs, ⟨Ap, cp, rfl, hcp, hrp⟩, hep⟩ := hps
    have HRP := Lib.hid hrp
    have HEP := Lib.hid hep
    clear hrp hep
    have H0 := Lib.hid (FL.nil w w3 hx3)
    go_wp2_with fail
    go_loopg [4, 29] ps.length (fun gk v vi wr => ∃ (i : Nat) (vs : List Value), vi = .int .i64 i ∧ i ≤ ps.length ∧ gk = ps.length - i ∧ Hid (FL w wr v vs (ps.take i)))
    case atStart => exact ⟨0, [], rfl, Nat.zero_le _, rfl, H0⟩
    clear H0
    case round =>
      obtain ⟨i, vl, rfl, hi, rfl, hF⟩ := hrel
      have hxr := hF.out.ext
      rcases Nat.lt_or_ge i ps.length with hlt | hge
      · obtain ⟨bp, op, up, rfl, _, hcell, hup⟩ := eachAt HRP.out HEP.out hlt hlt
        have q0 := Ext.rule hcell
        clear hcell
        have hlp := hpp.out _ (List.getElem_mem hlt)
        have HUP := Lib.hid hup; clear hup
        obtain ⟨As, cs, rfl, hcs⟩ : ∃ A c, u4 = .slice A vl.length c ∧ vl.length ≤ c := by
          obtain ⟨A, c, e, hc, _⟩ := Row.of_own hF.out.own
          exact ⟨A, c, e, hc⟩
        have hvl := hF.out.len
        have HLP := Lib.hid hlp; clear hlp
        have HVL := Lib.hid hvl
        have hvl6 : vl.length ≤ 6 := by rw [hvl, List.length_take]; omega
        clear hvl
        go_wp2_with fail
        refine (cloneJ_calls _ (HUP.out.below hxr) (by have := HLP.out; omega)).mono ?_
        rintro e w4 ⟨v4, rfl, hM⟩
        have hF4 := Lib.hid (hF.out.more hM.ext)
        have HO4 : Hid (OwnI w4 w.heap.size v4 ps[i]) := World.ownsRow.mono hM.own hxr.size
        obtain ⟨A4, c4, rfl, _⟩ := hM.slice
        have hsz : w.heap.size ≤ w4.heap.size := hF4.out.ext.size
        clear hM
        go_wp2_with (at_builtin; refine wpList_append_own_at _ rfl _ _ 22 rfl w.heap.size 24 i0 (.slice none 0 0) 1 24 Try.underlying22 IF.out IZ0.out IZ1.out IZ2.out rfl (by decide) (.slice As vl.length cs) vl.length _ rfl (hF4.out.own.alloc _) ⟨w4.heap.size, 0, none⟩ 1 1 [.slice A4 ps[i].length c4] rfl rfl (cell_one_new _ _ _) (by simp [Value.oneCell']) (by unfold maxLen; omega) (by omega) (by simp; omega) ?_)
        intro v' w5 hown hg _ hv'
        have hF5 := Lib.hid (hF4.out.app HO4.out hown hg)
        clear hown hg hv'
        go_wp2_with fail
        go_roundg (ps.length - (i + 1))
        case measure => omega
        case rel => exact ⟨i + 1, _, by go_num, hlt, rfl, by rw [List.take_succ_eq_append_getElem hlt]; exact hF5⟩
      · have hil : i = ps.length := by omega
        subst hil
        have hfin : FoundPost w m s.ch (.returned (.tuple #[u4, .bool true])) wr := by
          refine ⟨u4, by rw [HCB.out], hF.out.ext, ?_⟩
          unfold foundL
          rw [← HCB.out, if_pos rfl, ← HPS.out]
          have := hF.out.intss
          rwa [List.take_length] at this
        have HFIN := Lib.hid hfin; clear hfin
        go_wp2_with fail
        go_ret2
        exact HFIN.out
end Go.Proofs.Ytgpjfpcjiebjiaa
