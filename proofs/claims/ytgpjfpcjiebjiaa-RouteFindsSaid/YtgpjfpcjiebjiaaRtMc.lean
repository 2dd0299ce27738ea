/- Walks: the maze and the nodes of a case. -/
import Derived.Test.YtgpjfpcjiebjiaaRtMk
namespace Go.Proofs.Ytgpjfpcjiebjiaa
open Go.RowKit
set_option linter.unusedVariables false
set_option linter.unusedSimpArgs false
attribute [local go_sem ↓] Go.wp_at_zero Go.wp_at_succ

def CasePost (w : World) (e : Ending) (w' : World) : Prop :=
  ∃ v m vl l, e = .returned (.tuple #[v, vl]) ∧ Ext w w' ∧ MazeV w' (fun b => w.heap.size ≤ b) v m ∧ MadeM m ∧ Mk w w' vl l ∧ l.length ≤ 12 ∧ ∀ x ∈ l, 0 ≤ x ∧ x ≤ m.n

theorem mk_app1 {w5 w w9 : World} {v v' : Value} {l : List Int} {x : Int} {o : Obj} (h : Mk w5 w v l) (ho : w9.ownsRow w5.heap.size 3 1 v' (l.length + 1) (l.map (Value.int .i64) ++ [.int .i64 x])) (hg : (w.alloc o).grownBy w9 v.ownBlock) : Mk w5 w9 v' (l ++ [x]) := by
  refine Mk.app (h.alloc o) ?_ hg
  show World.ownsRow _ _ _ _ _ (l ++ [x]).length _
  rw [List.length_append, List.length_singleton, List.map_append]
  exact ho
theorem ran_app {m : MZ} {l : List Int} {x : Int} (h : ∀ x ∈ l, 0 ≤ x ∧ x ≤ m.n) (hn : 2 ≤ m.w * m.h * m.l) : ∀ y ∈ l ++ [x % (m.w * m.h * m.l + 1)], 0 ≤ y ∧ y ≤ m.n := by
  intro y hy
  rcases List.mem_append.1 hy with hy | hy
  · exact h y hy
  · rw [List.mem_singleton] at hy
    subst hy
    have h2 : m.n = m.w * m.h * m.l := rfl
    have h3 := Int.emod_nonneg x (show m.w * m.h * m.l + 1 ≠ 0 by omega)
    have h4 := Int.emod_lt_of_pos x (show 0 < m.w * m.h * m.l + 1 by omega)
    omega

set_option maxHeartbeats 4000000 in
set_option maxRecDepth 100000 in
theorem caseMade_calls {ok ok2 : Nat → Prop} {v vn : Value} {ls : List (List Int)} {ns : List Int} (o0 o1 o2 : Int) (w : World) (hl : Intss w ok v ls) (hll : ls.length ≤ 9223372036854775807) (hlx : ∀ l ∈ ls, l.length ≤ 9223372036854775807) (hn : Ints w ok2 vn ns) (hnl : ns.length ≤ 9223372036854775807) :
    Calls Try.prog 12 #[.agg #[v, .int .i64 o0, .int .i64 o1, .int .i64 o2, vn]] w (CasePost w) := by
  have HLS := Lib.hid hl
  have HNS := Lib.hid hn
  obtain ⟨vs, ⟨A, c, rfl, hc, -⟩, -⟩ := hl
  obtain ⟨A2, c2, rfl, hc2, hr2⟩ := hn
  have HR2 := Lib.hid hr2
  have HLX := Lib.hid hlx
  clear hr2 hlx
  obtain ⟨iI, ji, jz0, jz1, jz2⟩ := info_parts Try.infoInt
  have JF := Lib.hid ji
  have JZ0 := Lib.hid jz0
  have JZ1 := Lib.hid jz1
  have JZ2 := Lib.hid jz2
  clear ji jz0 jz1 jz2
  go_enter Try.func12, Try.ntmps12
  go_wp2_with fail
  obtain ⟨wa, hwa⟩ : ∃ wa, wa = w.alloc (.cells #[.slice A ls.length c, .int .i64 o0, .int .i64 o1, .int .i64 o2, .slice A2 ns.length c2] 26) := ⟨_, rfl⟩
  rw [← hwa]
  have hEa : Ext w wa := by rw [hwa]; exact (Ext.refl _).alloc _
  have hBa : Blk wa w.heap.size 26 #[.slice A ls.length c, .int .i64 o0, .int .i64 o1, .int .i64 o2, .slice A2 ns.length c2] := by rw [hwa]; exact Blk.new _ _ _ rfl
  have hza : wa.heap.size = w.heap.size + 1 := by rw [hwa]; simp
  clear hwa
  generalize hwb : wa.alloc (.cells #[.int .i64 0, .int .i64 0, .int .i64 0, .slice none 0 0, .slice none 0 0, .slice none 0 0] 31) = wb
  have hEb : Ext wa wb := by rw [← hwb]; exact (Ext.refl _).alloc _
  have hBb : Blk wb (w.heap.size + 1) 31 #[.int .i64 0, .int .i64 0, .int .i64 0, .slice none 0 0, .slice none 0 0, .slice none 0 0] := by rw [← hwb, ← hza]; exact Blk.new _ _ _ rfl
  have hzb : wb.heap.size = w.heap.size + 2 := by rw [← hwb]; simp [hza]
  clear hwb
  refine (made_calls wb (HLS.out.below (hEa.trans hEb)) hll HLX.out).mono ?_
  rintro e w3 ⟨v3, m, rfl, hE3, hm3, hMM⟩
  have HM3 := Lib.hid hm3
  obtain ⟨vfr, vup, vts, rfl, ⟨_, ⟨Af, cf, rfl, -⟩, -⟩, ⟨Au, cu, rfl, -⟩, ⟨_, ⟨At, ct, rfl, -⟩, -⟩⟩ := hm3
  have HMM := Lib.hid hMM; clear hMM
  have HB2 := Lib.hid (hBb.ext hE3)
  have HE0 := Lib.hid ((hEa.trans hEb).trans hE3)
  have HZB := Lib.hid hzb
  have HS3 := Lib.hid hE3.size
  have rn : ∀ W, Ext wa W → W.cell? ⟨w.heap.size, 4, none⟩ = some (.slice A2 ns.length c2) := Ext.rule (hBa.cell (k := 4) rfl)
  have hEa3 : Ext wa w3 := hEb.trans hE3
  clear hBa hBb hEa hEb hza hzb hE3
  go_wp2_with fail
  obtain ⟨gm, hgm⟩ : ∃ gm, gm = w3.heap.size := ⟨_, rfl⟩
  rw [← hgm]
  generalize hw5 : w3.alloc (.cells #[.int .i64 m.w, .int .i64 m.h, .int .i64 m.l, .slice Af m.free.length cf, .slice Au m.up.length cu, .slice At m.tasks.length ct] 31) = w5
  have hE5 : Ext w3 w5 := by rw [← hw5]; exact (Ext.refl _).alloc _
  have hBm : Blk w5 gm 31 #[.int .i64 m.w, .int .i64 m.h, .int .i64 m.l, .slice Af m.free.length cf, .slice Au m.up.length cu, .slice At m.tasks.length ct] := by rw [← hw5, hgm]; exact Blk.new _ _ _ rfl
  clear hw5 hgm
  obtain ⟨m0, m1, m2, m3, m4, m5⟩ := cells6 hBm
  have q0 := Ext.rule m0
  have q1 := Ext.rule m1
  have q2 := Ext.rule m2
  have q3 := Ext.rule m3
  have q4 := Ext.rule m4
  have q5 := Ext.rule m5
  clear m0 m1 m2 m3 m4 m5 hBm
  have HE5 := Lib.hid hE5
  have hEa5 : Ext wa w5 := hEa3.trans hE5
  have hdimW := HMM.out.w
  have hdimn := HMM.out.n
  have hdimWH : 2 ≤ m.w * m.h ∧ m.w * m.h ≤ 16 := by
    have h1 := HMM.out.good.dim.layer
    have h2 : m.n = m.w * m.h * m.l := rfl
    have h3 := Int.mul_le_mul_of_nonneg_left HMM.out.h.1 (show 0 ≤ m.w by omega)
    omega
  have hdimN : 2 ≤ m.w * m.h * m.l ∧ m.w * m.h * m.l ≤ 16 := hdimn
  have HDN := Lib.hid hdimN
  clear hEa3 hE5
  go_loopg [5, 6] 12 (fun gk v5 v wr => ∃ (k : Nat) (l : List Int), v = .int .i64 k ∧ k ≤ 12 ∧ gk = 12 - k ∧ Hid (l.length = k ∧ (∀ x ∈ l, 0 ≤ x ∧ x ≤ m.n) ∧ Mk w5 wr v5 l))
  case atStart => exact ⟨0, [], rfl, by omega, rfl, rfl, fun x hx => absurd hx List.not_mem_nil, Mk.nil _⟩
  case round =>
    obtain ⟨k, l, rfl, hk, rfl, hM⟩ := hrel
    have hxr : Ext w5 wr := hM.out.2.2.ext
    have hxar : Ext wa wr := hEa5.trans hxr
    obtain ⟨A5, c5, rfl, hc5⟩ := own_slice hM.out.2.2.own
    by_cases hgo : k < ns.length ∧ k < 12
    · obtain ⟨hk1, hk2⟩ := hgo
      have hd1 : decide ((k : Int) < (ns.length : Int)) = true := decide_eq_true (by omega)
      have hd2 : decide (k < ns.length) = true := decide_eq_true hk1
      have hd3 : decide ((k : Int) < 12) = true := decide_eq_true (by omega)
      obtain ⟨bn, on, rfl, -, hcell⟩ := intsAt HR2.out hk1 hk1
      obtain ⟨x, hx⟩ : ∃ x, x = ns[k] := ⟨_, rfl⟩
      rw [← hx] at hcell
      have rx : ∀ W, Ext w W → W.cell? ⟨bn, on + k, none⟩ = some (.int .i64 x) := Ext.rule hcell
      clear hcell hx
      have hxw : Ext w wr := (HE0.out.trans HE5.out).trans hxr
      have hk0 : (0 : Int) ≤ (k : Int) ∧ (k : Int) < (ns.length : Int) := by omega
      have hp1 : IntKind.i64.wrap (m.w * m.h) = m.w * m.h := by rw [IntKind.wrap_i64]; omega
      have hp2 : IntKind.i64.wrap (m.w * m.h * m.l) = m.w * m.h * m.l := by rw [IntKind.wrap_i64]; omega
      have hp3 : IntKind.i64.wrap (m.w * m.h * m.l + 1) = m.w * m.h * m.l + 1 := by rw [IntKind.wrap_i64]; omega
      have HMk := Lib.hid hM.out.2.2
      have hl20 : l.length ≤ 20 := by have := hM.out.1; omega
      go_wp2_with fail
      refine wp_region_held_drew (S := fun W' => Ext wa W' ∧ Ext w5 W' ∧ Ext w W') mixedA ⟨hxar.drew, hxr.drew, hxw.drew⟩ (fun hHeld => ?_)
      refine wpAnyH_take (i := 0) (v := ?v201) rfl (by kernel_rfl) (by kernel_rfl) (by kernel_rfl) (fun _ _ _ h => h) (Or.inl ⟨?w201, ?y201⟩) hHeld ?r201
      case w201 => rfl
      case y201 => (intro w hSw; (obtain ⟨s1, s2, s3⟩ := hSw; go_simp); try with_reducible rfl)
      simp only [List.getElem_toArray, List.getElem_cons_zero, Act.put, List.setIfInBounds_toArray, List.set_cons_zero, List.set_cons_succ]
      refine wpAnyH_take (i := 1) (v := ?v202) rfl (by kernel_rfl) (by kernel_rfl) (by kernel_rfl) (fun _ _ _ h => h) (Or.inl ⟨?w202, ?y202⟩) hHeld ?r202
      case w202 => rfl
      case y202 => (intro w hSw; (obtain ⟨s1, s2, s3⟩ := hSw; go_simp); try with_reducible rfl)
      simp only [List.getElem_toArray, List.getElem_cons_succ, List.getElem_cons_zero, Act.put, List.setIfInBounds_toArray, List.set_cons_zero, List.set_cons_succ]
      refine wpAnyH_take (i := 2) (v := ?v203) rfl (by kernel_rfl) (by kernel_rfl) (by kernel_rfl) (fun _ _ _ h => h) (Or.inl ⟨?w203, ?y203⟩) hHeld ?r203
      case w203 => rfl
      case y203 => (intro w hSw; (obtain ⟨s1, s2, s3⟩ := hSw; go_simp); try with_reducible rfl)
      simp only [List.getElem_toArray, List.getElem_cons_succ, List.getElem_cons_zero, Act.put, List.setIfInBounds_toArray, List.set_cons_zero, List.set_cons_succ]
      refine wpAnyH_take (i := 3) (v := ?v204) rfl (by kernel_rfl) (by kernel_rfl) (by kernel_rfl) (fun _ _ _ h => h) (Or.inl ⟨?w204, ?y204⟩) hHeld ?r204
      case w204 => rfl
      case y204 => (intro w hSw; (obtain ⟨s1, s2, s3⟩ := hSw; go_simp); try with_reducible rfl)
      simp only [List.getElem_toArray, List.getElem_cons_succ, List.getElem_cons_zero, Act.put, List.setIfInBounds_toArray, List.set_cons_zero, List.set_cons_succ]
      refine wpAnyH_take (i := 4) (v := ?v205) rfl (by kernel_rfl) (by kernel_rfl) (by kernel_rfl) (fun _ _ _ h => h) (Or.inl ⟨?w205, ?y205⟩) hHeld ?r205
      case w205 => rfl
      case y205 => (intro w hSw; (obtain ⟨s1, s2, s3⟩ := hSw; go_simp); try with_reducible rfl)
      simp only [List.getElem_toArray, List.getElem_cons_succ, List.getElem_cons_zero, Act.put, List.setIfInBounds_toArray, List.set_cons_zero, List.set_cons_succ]
      refine wpAnyH_take (i := 5) (v := ?v206) rfl (by kernel_rfl) (by kernel_rfl) (by kernel_rfl) (fun _ _ _ h => h) (Or.inl ⟨?w206, ?y206⟩) hHeld ?r206
      case w206 => rfl
      case y206 => (intro w hSw; (obtain ⟨s1, s2, s3⟩ := hSw; go_simp); try with_reducible rfl)
      simp only [List.getElem_toArray, List.getElem_cons_succ, List.getElem_cons_zero, Act.put, List.setIfInBounds_toArray, List.set_cons_zero, List.set_cons_succ]
      refine wpAnyH_take (i := 6) (v := ?v207) rfl (by kernel_rfl) (by kernel_rfl) (by kernel_rfl) (fun _ _ _ h => h) (Or.inl ⟨?w207, ?y207⟩) hHeld ?r207
      case w207 => rfl
      case y207 => (intro w hSw; (obtain ⟨s1, s2, s3⟩ := hSw; go_simp); try with_reducible rfl)
      simp only [List.getElem_toArray, List.getElem_cons_succ, List.getElem_cons_zero, Act.put, List.setIfInBounds_toArray, List.set_cons_zero, List.set_cons_succ]
      refine wpAnyH_take (i := 7) (v := ?v208) rfl (by kernel_rfl) (by kernel_rfl) (by kernel_rfl) (fun _ _ _ h => h) (Or.inl ⟨?w208, ?y208⟩) hHeld ?r208
      case w208 => rfl
      case y208 => (intro w hSw; (obtain ⟨s1, s2, s3⟩ := hSw; go_simp); try with_reducible rfl)
      simp only [List.getElem_toArray, List.getElem_cons_succ, List.getElem_cons_zero, Act.put, List.setIfInBounds_toArray, List.set_cons_zero, List.set_cons_succ]
      refine wpAnyH_take (i := 8) (v := ?v209) rfl (by kernel_rfl) (by kernel_rfl) (by kernel_rfl) (fun _ _ _ h => h) (Or.inl ⟨?w209, ?y209⟩) hHeld ?r209
      case w209 => rfl
      case y209 => (intro w hSw; (obtain ⟨s1, s2, s3⟩ := hSw; go_simp); try with_reducible rfl)
      simp only [List.getElem_toArray, List.getElem_cons_succ, List.getElem_cons_zero, Act.put, List.setIfInBounds_toArray, List.set_cons_zero, List.set_cons_succ]
      refine wpAnyH_take (i := 9) (v := ?v210) rfl (by kernel_rfl) (by kernel_rfl) (by kernel_rfl) (fun _ _ _ h => h) (Or.inl ⟨?w210, ?y210⟩) hHeld ?r210
      case w210 => rfl
      case y210 => (intro w hSw; (obtain ⟨s1, s2, s3⟩ := hSw; go_simp); try with_reducible rfl)
      simp only [List.getElem_toArray, List.getElem_cons_succ, List.getElem_cons_zero, Act.put, List.setIfInBounds_toArray, List.set_cons_zero, List.set_cons_succ]
      refine wpAnyH_take (i := 10) (v := ?v211) rfl (by kernel_rfl) (by kernel_rfl) (by kernel_rfl) (fun _ _ _ h => h) (Or.inl ⟨?w211, ?y211⟩) hHeld ?r211
      case w211 => rfl
      case y211 => (intro w hSw; (obtain ⟨s1, s2, s3⟩ := hSw; go_simp); try with_reducible rfl)
      simp only [List.getElem_toArray, List.getElem_cons_succ, List.getElem_cons_zero, Act.put, List.setIfInBounds_toArray, List.set_cons_zero, List.set_cons_succ]
      refine wpAnyH_take (i := 11) (v := ?v212) rfl (by kernel_rfl) (by kernel_rfl) (by kernel_rfl) (fun _ _ _ h => h) (Or.inl ⟨?w212, ?y212⟩) hHeld ?r212
      case w212 => rfl
      case y212 => (intro w hSw; (obtain ⟨s1, s2, s3⟩ := hSw; go_simp); try with_reducible rfl)
      simp only [List.getElem_toArray, List.getElem_cons_succ, List.getElem_cons_zero, Act.put, List.setIfInBounds_toArray, List.set_cons_zero, List.set_cons_succ]
      refine wpAnyH_take (i := 12) (v := ?v213) rfl (by kernel_rfl) (by kernel_rfl) (by kernel_rfl) (fun _ _ _ h => h) (Or.inl ⟨?w213, ?y213⟩) hHeld ?r213
      case w213 => rfl
      case y213 => (intro w hSw; (obtain ⟨s1, s2, s3⟩ := hSw; go_simp); try with_reducible rfl)
      simp only [List.getElem_toArray, List.getElem_cons_succ, List.getElem_cons_zero, Act.put, List.setIfInBounds_toArray, List.set_cons_zero, List.set_cons_succ]
      refine wpAnyH_take (i := 13) (v := ?v214) rfl (by kernel_rfl) (by kernel_rfl) (by kernel_rfl) (fun _ _ _ h => h) (Or.inl ⟨?w214, ?y214⟩) hHeld ?r214
      case w214 => rfl
      case y214 => (intro w hSw; (obtain ⟨s1, s2, s3⟩ := hSw; go_simp); try with_reducible rfl)
      simp only [List.getElem_toArray, List.getElem_cons_succ, List.getElem_cons_zero, Act.put, List.setIfInBounds_toArray, List.set_cons_zero, List.set_cons_succ]
      refine wpAnyH_take (i := 14) (v := ?v215) rfl (by kernel_rfl) (by kernel_rfl) (by kernel_rfl) (fun _ _ _ h => h) (Or.inl ⟨?w215, ?y215⟩) hHeld ?r215
      case w215 => rfl
      case y215 => (intro w hSw; (obtain ⟨s1, s2, s3⟩ := hSw; go_simp); try with_reducible rfl)
      simp only [List.getElem_toArray, List.getElem_cons_succ, List.getElem_cons_zero, Act.put, List.setIfInBounds_toArray, List.set_cons_zero, List.set_cons_succ]
      refine wpAnyH_ready (rs := [15]) (by kernel_rfl) (by simp) ?_
      refine AllReadyH.cons rfl (fun K hK => ?_) ?_
      · go_simp
        go_at_call 47
        refine (mod_calls x (m.w * m.h * m.l + 1) _ (by omega) (by omega)).mono ?_
        rintro e w9 ⟨rfl, rfl⟩
        go_simp
        refine hK.out _ _ hHeld (fun hHeld => ?_)
        clear hK K
        try simp only [List.getElem_toArray, List.getElem_cons_succ, List.getElem_cons_zero, Act.put, List.setIfInBounds_toArray, List.set_cons_zero, List.set_cons_succ]
        refine wpAnyH_ready (rs := [16]) (by kernel_rfl) (by simp) ?_
        refine AllReadyH.cons rfl (fun K hK => ?_) ?_
        · go_simp
          refine hK.out _ _ ⟨hHeld.1.alloc _, hHeld.2.1.alloc _, hHeld.2.2.alloc _⟩ (fun hHeld => ?_)
          clear hK K
          try simp only [List.getElem_toArray, List.getElem_cons_succ, List.getElem_cons_zero, Act.put, List.setIfInBounds_toArray, List.set_cons_zero, List.set_cons_succ]
          refine wpAnyH_ready (rs := [17]) (by kernel_rfl) (by simp) ?_
          refine AllReadyH.cons rfl (fun K hK => ?_) ?_
          · refine step_append_lies (P := Try.prog) _ (by rfl) _ _ 24 (by rfl) w5.heap.size 3 iI (.int .i64 0) 1 8 Try.underlying24 JF.out JZ0.out JZ1.out JZ2.out rfl (by decide) (.slice A5 l.length c5) l.length _ (by rfl) (World.ownsRow.alloc (HMk.out.drew).own _) ⟨wr.heap.size, 0, none⟩ 1 1 [.int .i64 (x % (m.w * m.h * m.l + 1))] (by rfl) rfl (cell_one_new wr.drew _ _) (by simp [Value.oneCell']) (by decide) (by unfold maxLen; omega) (by omega) (by have := hxr.size; simp; omega) (wr.heap.size + 1) (by simp) ?_
            intro gq cq w9 hown hg hv _
            have HM9 := Lib.hid (mk_app1 (HMk.out.drew) hown hg)
            clear hown hg hv
            refine hK.out _ _ ⟨hEa5.trans HM9.out.ext, HM9.out.ext, (HE0.out.trans HE5.out).trans HM9.out.ext⟩ (fun hHeld => ?_)
            clear hK K
            try simp only [List.getElem_toArray, List.getElem_cons_succ, List.getElem_cons_zero, Act.put, List.setIfInBounds_toArray, List.set_cons_zero, List.set_cons_succ]
            refine wpAnyH_ready (rs := [18]) (by kernel_rfl) (by simp) ?_
            refine AllReadyH.cons rfl (fun K hK => ?_) ?_
            · go_simp
              refine hK.out _ _ hHeld (fun hHeld => ?_)
              clear hK K
              try simp only [List.getElem_toArray, List.getElem_cons_succ, List.getElem_cons_zero, Act.put, List.setIfInBounds_toArray, List.set_cons_zero, List.set_cons_succ]
              refine wpAnyH_done (by kernel_rfl) ?_ _
              go_wp2_with fail
              go_roundg (12 - (k + 1))
              case measure => omega
              case rel => exact ⟨k + 1, l ++ [x % (m.w * m.h * m.l + 1)], by go_num, hk2, rfl, by have := hM.out.1; simp; omega, ran_app hM.out.2.1 (by have := HDN.out; exact HDN.out.1), HM9.out⟩
            exact AllReadyH.nil
          exact AllReadyH.nil
        exact AllReadyH.nil
      exact AllReadyH.nil
    · have hno : decide (k < ns.length) = false ∨ (decide (k < ns.length) = true ∧ decide ((k : Int) < 12) = false) := by
        by_cases h1 : k < ns.length
        · exact .inr ⟨decide_eq_true h1, decide_eq_false (by omega)⟩
        · exact .inl (decide_eq_false h1)
      have HMk := Lib.hid hM.out.2.2
      have HRG := Lib.hid hM.out.2.1
      have hl12 : Hid (l.length ≤ 12) := by have := hM.out.1; show _ ≤ _; omega
      have hB2 : Blk wr (w.heap.size + 1) 31 #[.int .i64 0, .int .i64 0, .int .i64 0, .slice none 0 0, .slice none 0 0, .slice none 0 0] := (HB2.out.ext HE5.out).ext hxr
      have z0 : wr.cell? ⟨w.heap.size + 1, 0, none⟩ = some (.int .i64 0) := hB2.cell (k := 0) rfl
      have z1 : wr.cell? ⟨w.heap.size + 1, 1, none⟩ = some (.int .i64 0) := hB2.cell (k := 1) rfl
      have z2 : wr.cell? ⟨w.heap.size + 1, 2, none⟩ = some (.int .i64 0) := hB2.cell (k := 2) rfl
      have z3 : wr.cell? ⟨w.heap.size + 1, 3, none⟩ = some (.slice none 0 0) := hB2.cell (k := 3) rfl
      have z4 : wr.cell? ⟨w.heap.size + 1, 4, none⟩ = some (.slice none 0 0) := hB2.cell (k := 4) rfl
      have z5 : wr.cell? ⟨w.heap.size + 1, 5, none⟩ = some (.slice none 0 0) := hB2.cell (k := 5) rfl
      have hfz : ∀ j, wr.frozen? ⟨w.heap.size + 1, j, none⟩ = false := fun j => hB2.frozen j
      have HBZ := Lib.hid hB2
      have HX := Lib.hid hxr
      clear hgo hB2
      rcases hno with h1 | ⟨h1, h2⟩
      all_goals
        go_wp2_with fail
        refine case_fin (P := fun W => bodyPost Try.prog Try.f12 (CasePost w) Exit.ret _ W) (g2 := w.heap.size + 1) ?_ HBZ.out
        intro WZ hbz hEb hk
        have hEz : Below w.heap.size wr WZ := hEb.mono (Nat.le_succ _)
        have y0 : WZ.cell? ⟨w.heap.size + 1, 0, none⟩ = some (.int .i64 m.w) := hbz.cell (k := 0) rfl
        have y1 : WZ.cell? ⟨w.heap.size + 1, 1, none⟩ = some (.int .i64 m.h) := hbz.cell (k := 1) rfl
        have y2 : WZ.cell? ⟨w.heap.size + 1, 2, none⟩ = some (.int .i64 m.l) := hbz.cell (k := 2) rfl
        have y3 : WZ.cell? ⟨w.heap.size + 1, 3, none⟩ = some (.slice Af m.free.length cf) := hbz.cell (k := 3) rfl
        have y4 : WZ.cell? ⟨w.heap.size + 1, 4, none⟩ = some (.slice Au m.up.length cu) := hbz.cell (k := 4) rfl
        have y5 : WZ.cell? ⟨w.heap.size + 1, 5, none⟩ = some (.slice At m.tasks.length ct) := hbz.cell (k := 5) rfl
        have hxw : Ext w wr := (HE0.out.trans HE5.out).trans HX.out
        have hm' := (HM3.out.below (HE5.out.trans HX.out)).keep (w' := WZ) (fun b hb hlt => hk b hlt (by have := HZB.out; omega))
        have hmk' : Mk w WZ (.slice A5 l.length c5) l := ⟨World.ownsRow.mono (own_keep HMk.out.own fun g hg => by
          have h1 := World.ownsRow.lt HMk.out.own g hg
          have h2 := (HE0.out.trans HE5.out).size
          have h3 := HE5.out.size
          have h4 := HS3.out
          have h5 := HZB.out
          exact hk g h1.2 (by omega)) (HE0.out.trans HE5.out).size, Below.trans hxw hEz⟩
        exact bodyPost_ret (v := .tuple #[.agg #[.int .i64 m.w, .int .i64 m.h, .int .i64 m.l, .slice Af m.free.length cf, .slice Au m.up.length cu, .slice At m.tasks.length ct], .slice A5 l.length c5]) (by simp [results, Try.results12, go_sem, y0, y1, y2, y3, y4, y5]) rfl
          ⟨_, m, _, l, rfl, Below.trans hxw hEz, hm'.weaken (fun b hb => by have := HZB.out; omega), HMM.out, hmk', hl12.out, HRG.out⟩
end Go.Proofs.Ytgpjfpcjiebjiaa
