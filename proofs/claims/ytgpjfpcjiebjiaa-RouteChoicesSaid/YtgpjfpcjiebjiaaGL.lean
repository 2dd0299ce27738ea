/- Walks: two regions of RouteChoices as theorems of their own. -/
import Derived.Test.YtgpjfpcjiebjiaaGo
import Derived.Test.YtgpjfpcjiebjiaaGr
import Derived.Test.YtgpjfpcjiebjiaaGz
import Derived.Test.YtgpjfpcjiebjiaaGJ
namespace Go.Proofs.Ytgpjfpcjiebjiaa
open Go.RowKit
set_option linter.unusedVariables false
set_option linter.unusedSimpArgs false
attribute [local go_sem ↓] Go.wp_at_zero Go.wp_at_succ

theorem pair_intss {ok1 ok2 : Nat → Prop} (W : World) {v1 v2 : Value} {x1 x2 : List Int} (h1 : Ints W ok1 v1 x1) (h2 : Ints W ok2 v2 x2) : Intss (W.alloc (.cells #[v1, v2] 24)) (fun _ => True) (.slice (some ⟨W.heap.size, 0, none⟩) 2 2) [x1, x2] := by
 have hE : Ext W (W.alloc (.cells #[v1, v2] 24)) := (Ext.refl W).alloc _
 have hR : Row (W.alloc (.cells #[v1, v2] 24)) (fun b => W.heap.size ≤ b) 1 (.slice (some ⟨W.heap.size, 0, none⟩) 2 2) 2 [v1, v2] := Row.of_own (e := 24) ⟨rfl, .inr ⟨W.heap.size, 2, #[v1, v2], rfl, Nat.le_refl _, heap_alloc_new W _, Nat.le_refl _, by decide, rfl, rfl⟩⟩
 refine ⟨[v1, v2], hR.weaken fun _ _ => trivial, fun i x hx => ?_⟩
 match i, hx with
 | 0, hx => injection hx with hx; subst hx; exact ⟨v1, rfl, (h1.weaken fun _ _ => trivial).below hE⟩
 | 1, hx => injection hx with hx; subst hx; exact ⟨v2, rfl, (h2.weaken fun _ _ => trivial).below hE⟩
theorem one_intss {ok1 : Nat → Prop} (W : World) {v1 : Value} {x1 : List Int} (h1 : Ints W ok1 v1 x1) : Intss (W.alloc (.cells #[v1] 24)) (fun _ => True) (.slice (some ⟨W.heap.size, 0, none⟩) 1 1) [x1] := by
 have hE : Ext W (W.alloc (.cells #[v1] 24)) := (Ext.refl W).alloc _
 have hR : Row (W.alloc (.cells #[v1] 24)) (fun b => W.heap.size ≤ b) 1 (.slice (some ⟨W.heap.size, 0, none⟩) 1 1) 1 [v1] := Row.of_own (e := 24) ⟨rfl, .inr ⟨W.heap.size, 1, #[v1], rfl, Nat.le_refl _, heap_alloc_new W _, Nat.le_refl _, by decide, rfl, rfl⟩⟩
 refine ⟨[v1], hR.weaken fun _ _ => trivial, fun i x hx => ?_⟩
 match i, hx with
 | 0, hx => injection hx with hx; subst hx; exact ⟨v1, rfl, (h1.weaken fun _ _ => trivial).below hE⟩
theorem candO_300 (m : MZ) (ch : List Int) : (candO m ch).length ≤ 1000 := by
 unfold candO
 split
 ·rename_i h
  unfold okC at h
  rw [Bool.and_eq_true, decide_eq_true_eq] at h
  have g := Good.of h.1
  have hI := isChB_iff.1 h.2
  have h1 := g.dim.n1
  have h2 : m.n = m.w * m.h * m.l := rfl
  cases hc : cmpC m ch
  ·obtain ⟨qs, p, h3, h4, -⟩ := ps_form hI hc
   rcases List.eq_nil_or_concat p with rfl | ⟨q, y, rfl⟩
   ·rw [cand_beg g h3 hc h4]
    unfold begL
    refine Nat.le_trans (List.length_filter_le _ _) ?_
    simp
    omega
   ·rw [List.concat_eq_append] at h3
    rw [cand_on h3 hc]
    exact Nat.le_trans (List.length_filter_le _ _) (Nat.le_trans (nextL_len _ _) (by omega))
  ·rw [cand_cmp hc]; simp
 ·simp
theorem pathsO_small (m : MZ) (ch : List Int) : (pathsO m ch).length ≤ 1000 ∧ ∀ x ∈ pathsO m ch, x.length ≤ 1000 := by
 unfold pathsO
 split
 ·rename_i h
  unfold okC at h
  rw [Bool.and_eq_true, decide_eq_true_eq] at h
  have g := Good.of h.1
  have hI := isChB_iff.1 h.2
  have h1 := hI.psOk
  have h2 := hI.len300 g
  refine ⟨Nat.le_trans (List.length_filter_le _ _) ?_, fun x hx => ?_⟩
  ·have := h1.pl; have := g.tk; omega
  ·have h3 := flat_le (List.mem_filter.1 hx).1
   rw [h1.fl] at h3
   omega
 ·exact ⟨by simp, fun x hx => by cases hx⟩

noncomputable def codeC13 : Code := (Try.f10.body.bind (findReg 13)).getD .skip
noncomputable def codeC15 : Code := (Try.f10.body.bind (findReg 15)).getD .skip

set_option maxHeartbeats 8000000 in
set_option maxRecDepth 1000000 in
theorem c13_wp {w2 : World} {Q : Exit → Act → World → Prop} {gy yn yc yn' yc' yn'' yc'' cx cp cq : Nat} {y : MZ} {x : List Int} {yA yA' yA'' Ax Ap Aq : Option Addr} {bo bop : Bool} {okm okx okp okq : Nat → Prop} {u0 u1 u2 u3 u4 u5 u6 u7 u8 u10 u16 u17 u18 u19 u20 u21 u22 u23 u24 u25 u26 u27 u28 u29 u30 u31 u32 u33 u34 u35 u36 u37 u38 u39 u40 u41 u42 u43 u44 u45 u46 u47 u48 u49 u50 u51 u52 u53 u54 u55 u56 u57 u58 u59 u60 u61 u62 u63 u64 u65 u66 u67 u68 u69 u70 u71 u72 u73 u74 u75 u76 u77 u78 u79 u80 u81 u82 u83 u84 u85 u86 u87 u88 u89 u90 u91 u92 u93 u94 u95 u96 u97 u98 u99 u100 u101 u102 u103 u104 u105 u106 u107 u108 u109 u110 u111 u112 u113 u114 u115 u116 u117 u118 u119 u120 u121 u122 u123 u124 u125 u126 u127 u128 u129 : Value}
  (z0 : ∀ W, Ext w2 W → W.cell? ⟨gy, 0, none⟩ = some (.int .i64 y.w))
  (z1 : ∀ W, Ext w2 W → W.cell? ⟨gy, 1, none⟩ = some (.int .i64 y.h))
  (z2 : ∀ W, Ext w2 W → W.cell? ⟨gy, 2, none⟩ = some (.int .i64 y.l))
  (z3 : ∀ W, Ext w2 W → W.cell? ⟨gy, 3, none⟩ = some (.slice yA yn yc))
  (z4 : ∀ W, Ext w2 W → W.cell? ⟨gy, 4, none⟩ = some (.slice yA' yn' yc'))
  (z5 : ∀ W, Ext w2 W → W.cell? ⟨gy, 5, none⟩ = some (.slice yA'' yn'' yc''))
  (HYY : Hid (MazeV w2 okm (.agg #[.int .i64 y.w, .int .i64 y.h, .int .i64 y.l, .slice yA yn yc, .slice yA' yn' yc', .slice yA'' yn'' yc'']) y)) (HYL : Hid (Lens y)) (HIY : Hid (Ints w2 okx (.slice Ax x.length cx) x)) (hlx : x.length ≤ 24)
  (HP1 : Hid (Intss w2 okp (.slice Ap (pathsO y x).length cp) (pathsO y x))) (HP2 : Hid (Intss w2 okq (.slice Aq (pathsO y x).length cq) (pathsO y x)))
  (hbo2 : (bo != bo) = false) (hop2 : (bop != bop) = false)
  (HOPR : Hid (∀ W, Ext w2 W → Calls Try.prog 38 #[.agg #[.int .i64 y.w, .int .i64 y.h, .int .i64 y.l, .slice yA yn yc, .slice yA' yn' yc', .slice yA'' yn'' yc''], .slice Ax x.length cx] W fun e w' => e = .returned (.bool bop) ∧ Ext W w'))
  (HOPQ : Hid (∀ W, Ext w2 W → Calls Try.prog 43 #[.agg #[.int .i64 y.w, .int .i64 y.h, .int .i64 y.l, .slice yA yn yc, .slice yA' yn' yc', .slice yA'' yn'' yc''], .slice Ax x.length cx] W fun e w' => e = .returned (.bool bop) ∧ Ext W w'))
  (hP : ∀ c (a a' : Act) w, a.defers = a'.defers → Q (.panic c) a w → Q (.panic c) a' w)
  (hQ : ∀ (W : World) (x68 x69 x70 x71 x72 x73 x74 x75 x76 x77 x78 x79 x80 x81 x82 x83 x84 x85 x86 x87 x88 x89 x90 x91 x92 x93 x94 : Value), Hid (Ext w2 W) → Q .normal ⟨(u0 :: u1 :: u2 :: u3 :: u4 :: u5 :: u6 :: u7 :: u8 :: Value.slice Ax x.length cx :: u10 :: Value.pointer (some ⟨gy, 0, none⟩) :: Value.slice Ap (pathsO y x).length cp :: Value.bool bo :: Value.slice Aq (pathsO y x).length cq :: Value.bool bo :: u16 :: u17 :: u18 :: u19 :: u20 :: u21 :: u22 :: u23 :: u24 :: u25 :: u26 :: u27 :: u28 :: u29 :: u30 :: u31 :: u32 :: u33 :: u34 :: u35 :: u36 :: u37 :: u38 :: u39 :: u40 :: u41 :: u42 :: u43 :: u44 :: u45 :: u46 :: u47 :: u48 :: u49 :: u50 :: u51 :: u52 :: u53 :: u54 :: u55 :: u56 :: u57 :: u58 :: u59 :: u60 :: u61 :: u62 :: u63 :: u64 :: u65 :: u66 :: u67 :: x68 :: x69 :: x70 :: x71 :: x72 :: x73 :: x74 :: x75 :: x76 :: x77 :: x78 :: x79 :: x80 :: x81 :: x82 :: x83 :: x84 :: x85 :: x86 :: x87 :: x88 :: x89 :: x90 :: x91 :: x92 :: x93 :: x94 :: Value.bool false :: u96 :: u97 :: u98 :: u99 :: u100 :: u101 :: u102 :: u103 :: u104 :: u105 :: u106 :: u107 :: u108 :: u109 :: u110 :: u111 :: u112 :: u113 :: u114 :: u115 :: u116 :: u117 :: u118 :: u119 :: u120 :: u121 :: u122 :: u123 :: u124 :: u125 :: u126 :: u127 :: u128 :: u129 :: []).toArray, []⟩ W) :
  codeC13.wp Try.prog Q ⟨(u0 :: u1 :: u2 :: u3 :: u4 :: u5 :: u6 :: u7 :: u8 :: Value.slice Ax x.length cx :: u10 :: Value.pointer (some ⟨gy, 0, none⟩) :: Value.slice Ap (pathsO y x).length cp :: Value.bool bo :: Value.slice Aq (pathsO y x).length cq :: Value.bool bo :: u16 :: u17 :: u18 :: u19 :: u20 :: u21 :: u22 :: u23 :: u24 :: u25 :: u26 :: u27 :: u28 :: u29 :: u30 :: u31 :: u32 :: u33 :: u34 :: u35 :: u36 :: u37 :: u38 :: u39 :: u40 :: u41 :: u42 :: u43 :: u44 :: u45 :: u46 :: u47 :: u48 :: u49 :: u50 :: u51 :: u52 :: u53 :: u54 :: u55 :: u56 :: u57 :: u58 :: u59 :: u60 :: u61 :: u62 :: u63 :: u64 :: u65 :: u66 :: u67 :: u68 :: u69 :: u70 :: u71 :: u72 :: u73 :: u74 :: u75 :: u76 :: u77 :: u78 :: u79 :: u80 :: u81 :: u82 :: u83 :: u84 :: u85 :: u86 :: u87 :: u88 :: u89 :: u90 :: u91 :: u92 :: u93 :: u94 :: u95 :: u96 :: u97 :: u98 :: u99 :: u100 :: u101 :: u102 :: u103 :: u104 :: u105 :: u106 :: u107 :: u108 :: u109 :: u110 :: u111 :: u112 :: u113 :: u114 :: u115 :: u116 :: u117 :: u118 :: u119 :: u120 :: u121 :: u122 :: u123 :: u124 :: u125 :: u126 :: u127 :: u128 :: u129 :: []).toArray, []⟩ w2 := by
 conv => arg 2; whnf
 refine wp_region_held_drew (S := (fun W => Ext w2 W)) mixedA ((Ext.refl w2).drew) (fun hHeld => ?_)
 have hHd : Ext w2 w2.drew := hHeld
 generalize w2.drew = wd at hHeld hHd ⊢
 refine wpAnyH_take (i := 0) (v := ?v1) rfl (by kernel_rfl) (by kernel_rfl) (by kernel_rfl) (fun _ _ _ h => hP _ _ _ _ (by rfl) h) (Or.inl ⟨?w1, ?y1⟩) hHeld ?r1
 case w1 => rfl
 case y1 => (intro w hSw; go_simp; try with_reducible rfl)
 simp only [rtPr, Act.put]
 refine wpAnyH_take (i := 1) (v := ?v2) rfl (by kernel_rfl) (by kernel_rfl) (by kernel_rfl) (fun _ _ _ h => hP _ _ _ _ (by rfl) h) (Or.inl ⟨?w2, ?y2⟩) hHeld ?r2
 case w2 => rfl
 case y2 => (intro w hSw; go_simp; try with_reducible rfl)
 simp only [rtPr, Act.put]
 refine wpAnyH_take (i := 2) (v := ?v3) rfl (by kernel_rfl) (by kernel_rfl) (by kernel_rfl) (fun _ _ _ h => hP _ _ _ _ (by rfl) h) (Or.inl ⟨?w3, ?y3⟩) hHeld ?r3
 case w3 => rfl
 case y3 => (intro w hSw; go_simp; try with_reducible rfl)
 simp only [rtPr, Act.put]
 refine wpAnyH_take (i := 3) (v := ?v4) rfl (by kernel_rfl) (by kernel_rfl) (by kernel_rfl) (fun _ _ _ h => hP _ _ _ _ (by rfl) h) (Or.inl ⟨?w4, ?y4⟩) hHeld ?r4
 case w4 => rfl
 case y4 => (intro w hSw; go_simp; try with_reducible rfl)
 simp only [rtPr, Act.put]
 refine wpAnyH_take (i := 4) (v := ?v5) rfl (by kernel_rfl) (by kernel_rfl) (by kernel_rfl) (fun _ _ _ h => hP _ _ _ _ (by rfl) h) (Or.inl ⟨?w5, ?y5⟩) hHeld ?r5
 case w5 => rfl
 case y5 => (intro w hSw; go_simp; try with_reducible rfl)
 simp only [rtPr, Act.put]
 refine wpAnyH_take (i := 5) (v := ?v6) rfl (by kernel_rfl) (by kernel_rfl) (by kernel_rfl) (fun _ _ _ h => hP _ _ _ _ (by rfl) h) (Or.inl ⟨?w6, ?y6⟩) hHeld ?r6
 case w6 => rfl
 case y6 => (intro w hSw; go_simp; try with_reducible rfl)
 simp only [rtPr, Act.put]
 refine wpAnyH_ready (rs := [6]) (by kernel_rfl) (by simp) ?_
 refine AllReadyH.cons rfl (fun K hK => ?_) ?_
 ·go_simp
  go_at_call 30
  refine (samePaths_t wd rfl (HP1.out.below (hHd)) (HP2.out.below (hHd)) (pathsO_small y x).1 (pathsO_small y x).2).mono ?_
  rintro e wr1 ⟨rfl, hD1⟩
  have hX1 : Ext w2 wr1 := (hHd).trans (hD1.below _)
  clear hD1
  refine hK.out _ _ (hX1) (fun hHeld => ?_)
  clear hK K
  try simp only [rtPr, Act.put]
  refine wpAnyH_take (i := 7) (v := ?v7) rfl (by kernel_rfl) (by kernel_rfl) (by kernel_rfl) (fun _ _ _ h => hP _ _ _ _ (by rfl) h) (Or.inl ⟨?w7, ?y7⟩) hHeld ?r7
  case w7 => rfl
  case y7 => (intro w hSw; go_simp; try with_reducible rfl)
  simp only [rtPr, Act.put]
  refine wpAnyH_take (i := 8) (v := ?v8) rfl (by kernel_rfl) (by kernel_rfl) (by kernel_rfl) (fun _ _ _ h => hP _ _ _ _ (by rfl) h) (Or.inl ⟨?w8, ?y8⟩) hHeld ?r8
  case w8 => rfl
  case y8 => (intro w hSw; go_simp; try with_reducible rfl)
  simp only [rtPr, Act.put]
  refine wpAnyH_take (i := 9) (v := ?v9) rfl (by kernel_rfl) (by kernel_rfl) (by kernel_rfl) (fun _ _ _ h => hP _ _ _ _ (by rfl) h) (Or.inl ⟨?w9, ?y9⟩) hHeld ?r9
  case w9 => rfl
  case y9 => (intro w hSw; go_simp; try with_reducible rfl)
  simp only [rtPr, Act.put]
  refine wpAnyH_take (i := 10) (v := ?v10) rfl (by kernel_rfl) (by kernel_rfl) (by kernel_rfl) (fun _ _ _ h => hP _ _ _ _ (by rfl) h) (Or.inl ⟨?w10, ?y10⟩) hHeld ?r10
  case w10 => rfl
  case y10 => (intro w hSw; go_simp; try with_reducible rfl)
  simp only [rtPr, Act.put]
  refine wpAnyH_take (i := 11) (v := ?v11) rfl (by kernel_rfl) (by kernel_rfl) (by kernel_rfl) (fun _ _ _ h => hP _ _ _ _ (by rfl) h) (Or.inl ⟨?w11, ?y11⟩) hHeld ?r11
  case w11 => rfl
  case y11 => (intro w hSw; go_simp; try with_reducible rfl)
  simp only [rtPr, Act.put]
  refine wpAnyH_take (i := 13) (v := ?v12) rfl (by kernel_rfl) (by kernel_rfl) (by kernel_rfl) (fun _ _ _ h => hP _ _ _ _ (by rfl) h) (Or.inl ⟨?w12, ?y12⟩) hHeld ?r12
  case w12 => rfl
  case y12 => (intro w hSw; go_simp; try with_reducible rfl)
  simp only [rtPr, Act.put]
  refine wpAnyH_take (i := 14) (v := ?v13) rfl (by kernel_rfl) (by kernel_rfl) (by kernel_rfl) (fun _ _ _ h => hP _ _ _ _ (by rfl) h) (Or.inl ⟨?w13, ?y13⟩) hHeld ?r13
  case w13 => rfl
  case y13 => (intro w hSw; go_simp; try with_reducible rfl)
  simp only [rtPr, Act.put]
  refine wpAnyH_ready (rs := [12]) (by kernel_rfl) (by simp) ?_
  refine AllReadyH.cons rfl (fun K hK => ?_) ?_
  ·go_simp
   go_at_call 41
   refine (rCandidates_calls wr1 (HYY.out.below (hX1)) HYL.out (HIY.out.below (hX1)) (by omega)).mono ?_
   rintro e wr2 ⟨v2', rfl, hM2⟩
   have hX2 : Ext w2 wr2 := (hX1).trans hM2.ext
   have HMI2 := Lib.hid hM2.ints
   clear hM2
   refine hK.out _ _ (hX2) (fun hHeld => ?_)
   clear hK K
   try simp only [rtPr, Act.put]
   refine wpAnyH_ready (rs := [15]) (by kernel_rfl) (by simp) ?_
   refine AllReadyH.cons rfl (fun K hK => ?_) ?_
   ·go_simp
    go_at_call 42
    refine (qCandidates_calls wr2 (HYY.out.below (hX2)) HYL.out (HIY.out.below (hX2)) (by omega)).mono ?_
    rintro e wr3 ⟨v3', rfl, hM3⟩
    have hX3 : Ext w2 wr3 := (hX2).trans hM3.ext
    have HMA3 := Lib.hid (HMI2.out.below hM3.ext)
    have HMI3 := Lib.hid hM3.ints
    clear hM3
    refine hK.out _ _ (hX3) (fun hHeld => ?_)
    clear hK K
    try simp only [rtPr, Act.put]
    refine wpAnyH_ready (rs := [16]) (by kernel_rfl) (by simp) ?_
    refine AllReadyH.cons rfl (fun K hK => ?_) ?_
    ·go_simp
     go_at_call 17
     refine (is_t wr3 rfl HMA3.out HMI3.out (candO_300 y x)).mono ?_
     rintro e wr4 ⟨rfl, hD4⟩
     have hX4 : Ext w2 wr4 := (hX3).trans (hD4.below _)
     clear hD4
     refine hK.out _ _ (hX4) (fun hHeld => ?_)
     clear hK K
     try simp only [rtPr, Act.put]
     refine wpAnyH_take (i := 17) (v := ?v14) rfl (by kernel_rfl) (by kernel_rfl) (by kernel_rfl) (fun _ _ _ h => hP _ _ _ _ (by rfl) h) (Or.inl ⟨?w14, ?y14⟩) hHeld ?r14
     case w14 => rfl
     case y14 => (intro w hSw; go_simp; try with_reducible rfl)
     simp only [rtPr, Act.put]
     refine wpAnyH_take (i := 18) (v := ?v15) rfl (by kernel_rfl) (by kernel_rfl) (by kernel_rfl) (fun _ _ _ h => hP _ _ _ _ (by rfl) h) (Or.inl ⟨?w15, ?y15⟩) hHeld ?r15
     case w15 => rfl
     case y15 => (intro w hSw; go_simp; try with_reducible rfl)
     simp only [rtPr, Act.put]
     refine wpAnyH_take (i := 19) (v := ?v16) rfl (by kernel_rfl) (by kernel_rfl) (by kernel_rfl) (fun _ _ _ h => hP _ _ _ _ (by rfl) h) (Or.inl ⟨?w16, ?y16⟩) hHeld ?r16
     case w16 => rfl
     case y16 => (intro w hSw; go_simp; try with_reducible rfl)
     simp only [rtPr, Act.put]
     refine wpAnyH_take (i := 20) (v := ?v17) rfl (by kernel_rfl) (by kernel_rfl) (by kernel_rfl) (fun _ _ _ h => hP _ _ _ _ (by rfl) h) (Or.inl ⟨?w17, ?y17⟩) hHeld ?r17
     case w17 => rfl
     case y17 => (intro w hSw; go_simp; try with_reducible rfl)
     simp only [rtPr, Act.put]
     refine wpAnyH_take (i := 21) (v := ?v18) rfl (by kernel_rfl) (by kernel_rfl) (by kernel_rfl) (fun _ _ _ h => hP _ _ _ _ (by rfl) h) (Or.inl ⟨?w18, ?y18⟩) hHeld ?r18
     case w18 => rfl
     case y18 => (intro w hSw; go_simp; try with_reducible rfl)
     simp only [rtPr, Act.put]
     refine wpAnyH_take (i := 23) (v := ?v19) rfl (by kernel_rfl) (by kernel_rfl) (by kernel_rfl) (fun _ _ _ h => hP _ _ _ _ (by rfl) h) (Or.inl ⟨?w19, ?y19⟩) hHeld ?r19
     case w19 => rfl
     case y19 => (intro w hSw; go_simp; try with_reducible rfl)
     simp only [rtPr, Act.put]
     refine wpAnyH_take (i := 24) (v := ?v20) rfl (by kernel_rfl) (by kernel_rfl) (by kernel_rfl) (fun _ _ _ h => hP _ _ _ _ (by rfl) h) (Or.inl ⟨?w20, ?y20⟩) hHeld ?r20
     case w20 => rfl
     case y20 => (intro w hSw; go_simp; try with_reducible rfl)
     simp only [rtPr, Act.put]
     refine wpAnyH_ready (rs := [22]) (by kernel_rfl) (by simp) ?_
     refine AllReadyH.cons rfl (fun K hK => ?_) ?_
     ·go_simp
      go_at_call 38
      refine (HOPR.out _ (hX4)).mono ?_
      rintro e wr5 ⟨rfl, hB5⟩
      have hX5 : Ext w2 wr5 := (hX4).trans hB5
      clear hB5
      refine hK.out _ _ (hX5) (fun hHeld => ?_)
      clear hK K
      try simp only [rtPr, Act.put]
      refine wpAnyH_ready (rs := [25]) (by kernel_rfl) (by simp) ?_
      refine AllReadyH.cons rfl (fun K hK => ?_) ?_
      ·go_simp
       go_at_call 43
       refine (HOPQ.out _ (hX5)).mono ?_
       rintro e wr6 ⟨rfl, hB6⟩
       have hX6 : Ext w2 wr6 := (hX5).trans hB6
       clear hB6
       refine hK.out _ _ (hX6) (fun hHeld => ?_)
       clear hK K
       try simp only [rtPr, Act.put]
       refine wpAnyH_take (i := 26) (v := ?v21) rfl (by kernel_rfl) (by kernel_rfl) (by kernel_rfl) (fun _ _ _ h => hP _ _ _ _ (by rfl) h) (Or.inl ⟨?w21, ?y21⟩) hHeld ?r21
       case w21 => rfl
       case y21 => (intro w hSw; go_simp; try with_reducible rfl)
       simp only [rtPr, Act.put]
       refine wpAnyH_take (i := 27) (v := ?v22) rfl (by kernel_rfl) (by kernel_rfl) (by kernel_rfl) (fun _ _ _ h => hP _ _ _ _ (by rfl) h) (Or.inl ⟨?w22, ?y22⟩) hHeld ?r22
       case w22 => rfl
       case y22 => (intro w hSw; go_simp; try with_reducible rfl)
       simp only [rtPr, Act.put]
       refine wpAnyH_done (by kernel_rfl) ?_ _
       have HXF := Lib.hid (hX6)
       exact hQ _ _ _ _ _ _ _ _ _ _ _ _ _ _ _ _ _ _ _ _ _ _ _ _ _ _ _ _ HXF
      exact AllReadyH.nil
     exact AllReadyH.nil
    exact AllReadyH.nil
   exact AllReadyH.nil
  exact AllReadyH.nil
 exact AllReadyH.nil

set_option maxHeartbeats 8000000 in
set_option maxRecDepth 1000000 in
theorem c15_wp {w2 wz : World} {Q : Exit → Act → World → Prop} {gy yn yc yn' yc' yn'' yc'' cx cp cl : Nat} {y : MZ} {x l : List Int} {yA yA' yA'' Ax Ap Al : Option Addr} {bp bx2 bx1 : Bool} {okx okl : Nat → Prop} {u0 u1 u2 u3 u4 u6 u7 u8 u10 u13 u14 u15 u16 u17 u18 u19 u20 u21 u22 u23 u24 u25 u26 u27 u28 u29 u30 u31 u32 u33 u34 u35 u36 u37 u38 u39 u40 u41 u42 u43 u44 u45 u46 u47 u48 u49 u50 u51 u52 u53 u54 u55 u56 u57 u58 u59 u60 u61 u62 u63 u64 u65 u66 u67 u68 u69 u70 u71 u72 u73 u74 u75 u76 u77 u78 u79 u80 u81 u82 u83 u84 u85 u86 u87 u88 u89 u90 u91 u92 u93 u94 u95 u96 u97 u98 u99 u100 u101 u102 u103 u104 u105 u106 u107 u108 u109 u110 u111 u112 u113 u114 u115 u116 u117 u118 u119 u120 u121 u122 u123 u124 u125 u126 u127 u128 u129 : Value}
  (hx2z : Ext w2 wz) (z0 : ∀ W, Ext w2 W → W.cell? ⟨gy, 0, none⟩ = some (.int .i64 y.w))
  (z1 : ∀ W, Ext w2 W → W.cell? ⟨gy, 1, none⟩ = some (.int .i64 y.h))
  (z2 : ∀ W, Ext w2 W → W.cell? ⟨gy, 2, none⟩ = some (.int .i64 y.l))
  (z3 : ∀ W, Ext w2 W → W.cell? ⟨gy, 3, none⟩ = some (.slice yA yn yc))
  (z4 : ∀ W, Ext w2 W → W.cell? ⟨gy, 4, none⟩ = some (.slice yA' yn' yc'))
  (z5 : ∀ W, Ext w2 W → W.cell? ⟨gy, 5, none⟩ = some (.slice yA'' yn'' yc''))
  (HIY : Hid (Ints w2 okx (.slice Ax x.length cx) x)) (HIL : Hid (Ints w2 okl (.slice Al l.length cl) l))
  (hbp2 : (bp != bp) = false) (hbx22 : (bx2 != bx2) = false) (hbx12 : (bx1 != bx1) = false)
  (HRPR : Hid (∀ W, Ext w2 W → Calls Try.prog 37 #[.agg #[.int .i64 y.w, .int .i64 y.h, .int .i64 y.l, .slice yA yn yc, .slice yA' yn' yc', .slice yA'' yn'' yc''], .slice Ap (pathsO y x).length cp] W fun e w' => e = .returned (.bool bp) ∧ Ext W w'))
  (HRPQ : Hid (∀ W, Ext w2 W → Calls Try.prog 44 #[.agg #[.int .i64 y.w, .int .i64 y.h, .int .i64 y.l, .slice yA yn yc, .slice yA' yn' yc', .slice yA'' yn'' yc''], .slice Ap (pathsO y x).length cp] W fun e w' => e = .returned (.bool bp) ∧ Ext W w'))
  (HRXR : Hid (∀ W v, Ext w2 W → Intss W (fun _ => True) v [x, l] → Calls Try.prog 37 #[.agg #[.int .i64 y.w, .int .i64 y.h, .int .i64 y.l, .slice yA yn yc, .slice yA' yn' yc', .slice yA'' yn'' yc''], v] W fun e w' => e = .returned (.bool bx2) ∧ Ext W w'))
  (HRXQ : Hid (∀ W v, Ext w2 W → Intss W (fun _ => True) v [x, l] → Calls Try.prog 44 #[.agg #[.int .i64 y.w, .int .i64 y.h, .int .i64 y.l, .slice yA yn yc, .slice yA' yn' yc', .slice yA'' yn'' yc''], v] W fun e w' => e = .returned (.bool bx2) ∧ Ext W w'))
  (HR1R : Hid (∀ W v, Ext w2 W → Intss W (fun _ => True) v [x] → Calls Try.prog 37 #[.agg #[.int .i64 y.w, .int .i64 y.h, .int .i64 y.l, .slice yA yn yc, .slice yA' yn' yc', .slice yA'' yn'' yc''], v] W fun e w' => e = .returned (.bool bx1) ∧ Ext W w'))
  (HR1Q : Hid (∀ W v, Ext w2 W → Intss W (fun _ => True) v [x] → Calls Try.prog 44 #[.agg #[.int .i64 y.w, .int .i64 y.h, .int .i64 y.l, .slice yA yn yc, .slice yA' yn' yc', .slice yA'' yn'' yc''], v] W fun e w' => e = .returned (.bool bx1) ∧ Ext W w'))
  (hP : ∀ c (a a' : Act) w, a.defers = a'.defers → Q (.panic c) a w → Q (.panic c) a' w)
  (hQ : ∀ (W : World) (x96 x97 x98 x99 x100 x101 x102 x103 x104 x105 x106 x107 x108 x109 x110 x111 x112 x113 x114 x115 x116 x117 x118 x119 x120 x121 x122 x123 x124 x125 : Value), Hid (Ext w2 W) → Q .normal ⟨(u0 :: u1 :: u2 :: u3 :: u4 :: Value.slice Al l.length cl :: u6 :: u7 :: u8 :: Value.slice Ax x.length cx :: u10 :: Value.pointer (some ⟨gy, 0, none⟩) :: Value.slice Ap (pathsO y x).length cp :: u13 :: u14 :: u15 :: u16 :: u17 :: u18 :: u19 :: u20 :: u21 :: u22 :: u23 :: u24 :: u25 :: u26 :: u27 :: u28 :: u29 :: u30 :: u31 :: u32 :: u33 :: u34 :: u35 :: u36 :: u37 :: u38 :: u39 :: u40 :: u41 :: u42 :: u43 :: u44 :: u45 :: u46 :: u47 :: u48 :: u49 :: u50 :: u51 :: u52 :: u53 :: u54 :: u55 :: u56 :: u57 :: u58 :: u59 :: u60 :: u61 :: u62 :: u63 :: u64 :: u65 :: u66 :: u67 :: u68 :: u69 :: u70 :: u71 :: u72 :: u73 :: u74 :: u75 :: u76 :: u77 :: u78 :: u79 :: u80 :: u81 :: u82 :: u83 :: u84 :: u85 :: u86 :: u87 :: u88 :: u89 :: u90 :: u91 :: u92 :: u93 :: u94 :: u95 :: x96 :: x97 :: x98 :: x99 :: x100 :: x101 :: x102 :: x103 :: x104 :: x105 :: x106 :: x107 :: x108 :: x109 :: x110 :: x111 :: x112 :: x113 :: x114 :: x115 :: x116 :: x117 :: x118 :: x119 :: x120 :: x121 :: x122 :: x123 :: x124 :: x125 :: Value.bool false :: u127 :: u128 :: u129 :: []).toArray, []⟩ W) :
  codeC15.wp Try.prog Q ⟨(u0 :: u1 :: u2 :: u3 :: u4 :: Value.slice Al l.length cl :: u6 :: u7 :: u8 :: Value.slice Ax x.length cx :: u10 :: Value.pointer (some ⟨gy, 0, none⟩) :: Value.slice Ap (pathsO y x).length cp :: u13 :: u14 :: u15 :: u16 :: u17 :: u18 :: u19 :: u20 :: u21 :: u22 :: u23 :: u24 :: u25 :: u26 :: u27 :: u28 :: u29 :: u30 :: u31 :: u32 :: u33 :: u34 :: u35 :: u36 :: u37 :: u38 :: u39 :: u40 :: u41 :: u42 :: u43 :: u44 :: u45 :: u46 :: u47 :: u48 :: u49 :: u50 :: u51 :: u52 :: u53 :: u54 :: u55 :: u56 :: u57 :: u58 :: u59 :: u60 :: u61 :: u62 :: u63 :: u64 :: u65 :: u66 :: u67 :: u68 :: u69 :: u70 :: u71 :: u72 :: u73 :: u74 :: u75 :: u76 :: u77 :: u78 :: u79 :: u80 :: u81 :: u82 :: u83 :: u84 :: u85 :: u86 :: u87 :: u88 :: u89 :: u90 :: u91 :: u92 :: u93 :: u94 :: u95 :: u96 :: u97 :: u98 :: u99 :: u100 :: u101 :: u102 :: u103 :: u104 :: u105 :: u106 :: u107 :: u108 :: u109 :: u110 :: u111 :: u112 :: u113 :: u114 :: u115 :: u116 :: u117 :: u118 :: u119 :: u120 :: u121 :: u122 :: u123 :: u124 :: u125 :: u126 :: u127 :: u128 :: u129 :: []).toArray, []⟩ wz := by
 conv => arg 2; whnf
 refine wp_region_held_drew (S := (fun W => Ext w2 W)) mixedA (hx2z.drew) (fun hHeld => ?_)
 have hHd : Ext w2 wz.drew := hHeld
 generalize wz.drew = wd at hHeld hHd ⊢
 refine wpAnyH_take (i := 0) (v := ?v23) rfl (by kernel_rfl) (by kernel_rfl) (by kernel_rfl) (fun _ _ _ h => hP _ _ _ _ (by rfl) h) (Or.inl ⟨?w23, ?y23⟩) hHeld ?r23
 case w23 => rfl
 case y23 => (intro w hSw; go_simp; try with_reducible rfl)
 simp only [rtPr, Act.put]
 refine wpAnyH_take (i := 1) (v := ?v24) rfl (by kernel_rfl) (by kernel_rfl) (by kernel_rfl) (fun _ _ _ h => hP _ _ _ _ (by rfl) h) (Or.inl ⟨?w24, ?y24⟩) hHeld ?r24
 case w24 => rfl
 case y24 => (intro w hSw; go_simp; try with_reducible rfl)
 simp only [rtPr, Act.put]
 refine wpAnyH_take (i := 3) (v := ?v25) rfl (by kernel_rfl) (by kernel_rfl) (by kernel_rfl) (fun _ _ _ h => hP _ _ _ _ (by rfl) h) (Or.inl ⟨?w25, ?y25⟩) hHeld ?r25
 case w25 => rfl
 case y25 => (intro w hSw; go_simp; try with_reducible rfl)
 simp only [rtPr, Act.put]
 refine wpAnyH_take (i := 4) (v := ?v26) rfl (by kernel_rfl) (by kernel_rfl) (by kernel_rfl) (fun _ _ _ h => hP _ _ _ _ (by rfl) h) (Or.inl ⟨?w26, ?y26⟩) hHeld ?r26
 case w26 => rfl
 case y26 => (intro w hSw; go_simp; try with_reducible rfl)
 simp only [rtPr, Act.put]
 refine wpAnyH_ready (rs := [2]) (by kernel_rfl) (by simp) ?_
 refine AllReadyH.cons rfl (fun K hK => ?_) ?_
 ·go_simp
  go_at_call 37
  refine (HRPR.out _ (hHd)).mono ?_
  rintro e wr1 ⟨rfl, hB1⟩
  have hX1 : Ext w2 wr1 := (hHd).trans hB1
  clear hB1
  refine hK.out _ _ (hX1) (fun hHeld => ?_)
  clear hK K
  try simp only [rtPr, Act.put]
  refine wpAnyH_ready (rs := [5]) (by kernel_rfl) (by simp) ?_
  refine AllReadyH.cons rfl (fun K hK => ?_) ?_
  ·go_simp
   go_at_call 44
   refine (HRPQ.out _ (hX1)).mono ?_
   rintro e wr2 ⟨rfl, hB2⟩
   have hX2 : Ext w2 wr2 := (hX1).trans hB2
   clear hB2
   refine hK.out _ _ (hX2) (fun hHeld => ?_)
   clear hK K
   try simp only [rtPr, Act.put]
   refine wpAnyH_take (i := 6) (v := ?v27) rfl (by kernel_rfl) (by kernel_rfl) (by kernel_rfl) (fun _ _ _ h => hP _ _ _ _ (by rfl) h) (Or.inl ⟨?w27, ?y27⟩) hHeld ?r27
   case w27 => rfl
   case y27 => (intro w hSw; go_simp; try with_reducible rfl)
   simp only [rtPr, Act.put]
   refine wpAnyH_take (i := 7) (v := ?v28) rfl (by kernel_rfl) (by kernel_rfl) (by kernel_rfl) (fun _ _ _ h => hP _ _ _ _ (by rfl) h) (Or.inl ⟨?w28, ?y28⟩) hHeld ?r28
   case w28 => rfl
   case y28 => (intro w hSw; go_simp; try with_reducible rfl)
   simp only [rtPr, Act.put]
   refine wpAnyH_take (i := 8) (v := ?v29) rfl (by kernel_rfl) (by kernel_rfl) (by kernel_rfl) (fun _ _ _ h => hP _ _ _ _ (by rfl) h) (Or.inl ⟨?w29, ?y29⟩) hHeld ?r29
   case w29 => rfl
   case y29 => (intro w hSw; go_simp; try with_reducible rfl)
   simp only [rtPr, Act.put]
   refine wpAnyH_take (i := 9) (v := ?v30) rfl (by kernel_rfl) (by kernel_rfl) (by kernel_rfl) (fun _ _ _ h => hP _ _ _ _ (by rfl) h) (Or.inl ⟨?w30, ?y30⟩) hHeld ?r30
   case w30 => rfl
   case y30 => (intro w hSw; go_simp; try with_reducible rfl)
   simp only [rtPr, Act.put]
   refine wpAnyH_take (i := 10) (v := ?v31) rfl (by kernel_rfl) (by kernel_rfl) (by kernel_rfl) (fun _ _ _ h => hP _ _ _ _ (by rfl) h) (Or.inl ⟨?w31, ?y31⟩) hHeld ?r31
   case w31 => rfl
   case y31 => (intro w hSw; go_simp; try with_reducible rfl)
   simp only [rtPr, Act.put]
   refine wpAnyH_take (i := 13) (v := ?v32) rfl (by kernel_rfl) (by kernel_rfl) (by kernel_rfl) (fun _ _ _ h => hP _ _ _ _ (by rfl) h) (Or.inl ⟨?w32, ?y32⟩) hHeld ?r32
   case w32 => rfl
   case y32 => (intro w hSw; go_simp; try with_reducible rfl)
   simp only [rtPr, Act.put]
   refine wpAnyH_take (i := 14) (v := ?v33) rfl (by kernel_rfl) (by kernel_rfl) (by kernel_rfl) (fun _ _ _ h => hP _ _ _ _ (by rfl) h) (Or.inl ⟨?w33, ?y33⟩) hHeld ?r33
   case w33 => rfl
   case y33 => (intro w hSw; go_simp; try with_reducible rfl)
   simp only [rtPr, Act.put]
   refine wpAnyH_take (i := 15) (v := ?v34) rfl (by kernel_rfl) (by kernel_rfl) (by kernel_rfl) (fun _ _ _ h => hP _ _ _ _ (by rfl) h) (Or.inl ⟨?w34, ?y34⟩) hHeld ?r34
   case w34 => rfl
   case y34 => (intro w hSw; go_simp; try with_reducible rfl)
   simp only [rtPr, Act.put]
   refine wpAnyH_ready (rs := [11, 16]) (by kernel_rfl) (by simp) ?_
   refine AllReadyH.cons rfl (fun K hK => ?_) ?_
   ·go_simp
    obtain ⟨wr3, hwr3⟩ : ∃ W', W' = (wr2).alloc (.cells #[.slice Ax x.length cx, .slice Al l.length cl] 24) := ⟨_, rfl⟩
    rw [← hwr3]
    have hXW3 : Ext w2 wr2 := hX2
    have hXA3 : Ext wr2 wr3 := by rw [hwr3]; exact (Ext.refl wr2).alloc _
    have HPI3 : Hid (Intss wr3 (fun _ => True) (.slice (some ⟨wr2.heap.size, 0, none⟩) 2 2) [x, l]) := by rw [hwr3]; exact pair_intss wr2 (HIY.out.below hXW3) (HIL.out.below hXW3)
    have hXN3 : Ext w2 wr3 := hXW3.trans hXA3
    clear hwr3 hXA3
    refine hK.out _ _ (hXN3) (fun hHeld => ?_)
    clear hK K
    try simp only [rtPr, Act.put]
    refine wpAnyH_ready (rs := [12, 16]) (by kernel_rfl) (by simp) ?_
    refine AllReadyH.cons rfl (fun K hK => ?_) ?_
    ·go_simp
     go_at_call 37
     refine (HRXR.out _ _ (hXN3) HPI3.out).mono ?_
     rintro e wr4 ⟨rfl, hB4⟩
     have hX4 : Ext w2 wr4 := (hXN3).trans hB4
     clear hB4
     refine hK.out _ _ (hX4) (fun hHeld => ?_)
     clear hK K
     try simp only [rtPr, Act.put]
     refine wpAnyH_ready (rs := [16]) (by kernel_rfl) (by simp) ?_
     refine AllReadyH.cons rfl (fun K hK => ?_) ?_
     ·go_simp
      obtain ⟨wr5, hwr5⟩ : ∃ W', W' = (wr4).alloc (.cells #[.slice Ax x.length cx, .slice Al l.length cl] 24) := ⟨_, rfl⟩
      rw [← hwr5]
      have hXW5 : Ext w2 wr4 := hX4
      have hXA5 : Ext wr4 wr5 := by rw [hwr5]; exact (Ext.refl wr4).alloc _
      have HPI5 : Hid (Intss wr5 (fun _ => True) (.slice (some ⟨wr4.heap.size, 0, none⟩) 2 2) [x, l]) := by rw [hwr5]; exact pair_intss wr4 (HIY.out.below hXW5) (HIL.out.below hXW5)
      have hXN5 : Ext w2 wr5 := hXW5.trans hXA5
      clear hwr5 hXA5
      refine hK.out _ _ (hXN5) (fun hHeld => ?_)
      clear hK K
      try simp only [rtPr, Act.put]
      refine wpAnyH_ready (rs := [17]) (by kernel_rfl) (by simp) ?_
      refine AllReadyH.cons rfl (fun K hK => ?_) ?_
      ·go_simp
       go_at_call 44
       refine (HRXQ.out _ _ (hXN5) HPI5.out).mono ?_
       rintro e wr6 ⟨rfl, hB6⟩
       have hX6 : Ext w2 wr6 := (hXN5).trans hB6
       clear hB6
       refine hK.out _ _ (hX6) (fun hHeld => ?_)
       clear hK K
       try simp only [rtPr, Act.put]
       refine wpAnyH_take (i := 18) (v := ?v35) rfl (by kernel_rfl) (by kernel_rfl) (by kernel_rfl) (fun _ _ _ h => hP _ _ _ _ (by rfl) h) (Or.inl ⟨?w35, ?y35⟩) hHeld ?r35
       case w35 => rfl
       case y35 => (intro w hSw; go_simp; try with_reducible rfl)
       simp only [rtPr, Act.put]
       refine wpAnyH_take (i := 19) (v := ?v36) rfl (by kernel_rfl) (by kernel_rfl) (by kernel_rfl) (fun _ _ _ h => hP _ _ _ _ (by rfl) h) (Or.inl ⟨?w36, ?y36⟩) hHeld ?r36
       case w36 => rfl
       case y36 => (intro w hSw; go_simp; try with_reducible rfl)
       simp only [rtPr, Act.put]
       refine wpAnyH_take (i := 20) (v := ?v37) rfl (by kernel_rfl) (by kernel_rfl) (by kernel_rfl) (fun _ _ _ h => hP _ _ _ _ (by rfl) h) (Or.inl ⟨?w37, ?y37⟩) hHeld ?r37
       case w37 => rfl
       case y37 => (intro w hSw; go_simp; try with_reducible rfl)
       simp only [rtPr, Act.put]
       refine wpAnyH_take (i := 21) (v := ?v38) rfl (by kernel_rfl) (by kernel_rfl) (by kernel_rfl) (fun _ _ _ h => hP _ _ _ _ (by rfl) h) (Or.inl ⟨?w38, ?y38⟩) hHeld ?r38
       case w38 => rfl
       case y38 => (intro w hSw; go_simp; try with_reducible rfl)
       simp only [rtPr, Act.put]
       refine wpAnyH_take (i := 22) (v := ?v39) rfl (by kernel_rfl) (by kernel_rfl) (by kernel_rfl) (fun _ _ _ h => hP _ _ _ _ (by rfl) h) (Or.inl ⟨?w39, ?y39⟩) hHeld ?r39
       case w39 => rfl
       case y39 => (intro w hSw; go_simp; try with_reducible rfl)
       simp only [rtPr, Act.put]
       refine wpAnyH_take (i := 25) (v := ?v40) rfl (by kernel_rfl) (by kernel_rfl) (by kernel_rfl) (fun _ _ _ h => hP _ _ _ _ (by rfl) h) (Or.inl ⟨?w40, ?y40⟩) hHeld ?r40
       case w40 => rfl
       case y40 => (intro w hSw; go_simp; try with_reducible rfl)
       simp only [rtPr, Act.put]
       refine wpAnyH_take (i := 26) (v := ?v41) rfl (by kernel_rfl) (by kernel_rfl) (by kernel_rfl) (fun _ _ _ h => hP _ _ _ _ (by rfl) h) (Or.inl ⟨?w41, ?y41⟩) hHeld ?r41
       case w41 => rfl
       case y41 => (intro w hSw; go_simp; try with_reducible rfl)
       simp only [rtPr, Act.put]
       refine wpAnyH_ready (rs := [23, 27]) (by kernel_rfl) (by simp) ?_
       refine AllReadyH.cons rfl (fun K hK => ?_) ?_
       ·go_simp
        obtain ⟨wr7, hwr7⟩ : ∃ W', W' = (wr6).alloc (.cells #[.slice Ax x.length cx] 24) := ⟨_, rfl⟩
        rw [← hwr7]
        have hXW7 : Ext w2 wr6 := hX6
        have hXA7 : Ext wr6 wr7 := by rw [hwr7]; exact (Ext.refl wr6).alloc _
        have HPI7 : Hid (Intss wr7 (fun _ => True) (.slice (some ⟨wr6.heap.size, 0, none⟩) 1 1) [x]) := by rw [hwr7]; exact one_intss wr6 (HIY.out.below hXW7)
        have hXN7 : Ext w2 wr7 := hXW7.trans hXA7
        clear hwr7 hXA7
        refine hK.out _ _ (hXN7) (fun hHeld => ?_)
        clear hK K
        try simp only [rtPr, Act.put]
        refine wpAnyH_ready (rs := [24, 27]) (by kernel_rfl) (by simp) ?_
        refine AllReadyH.cons rfl (fun K hK => ?_) ?_
        ·go_simp
         go_at_call 37
         refine (HR1R.out _ _ (hXN7) HPI7.out).mono ?_
         rintro e wr8 ⟨rfl, hB8⟩
         have hX8 : Ext w2 wr8 := (hXN7).trans hB8
         clear hB8
         refine hK.out _ _ (hX8) (fun hHeld => ?_)
         clear hK K
         try simp only [rtPr, Act.put]
         refine wpAnyH_ready (rs := [27]) (by kernel_rfl) (by simp) ?_
         refine AllReadyH.cons rfl (fun K hK => ?_) ?_
         ·go_simp
          obtain ⟨wr9, hwr9⟩ : ∃ W', W' = (wr8).alloc (.cells #[.slice Ax x.length cx] 24) := ⟨_, rfl⟩
          rw [← hwr9]
          have hXW9 : Ext w2 wr8 := hX8
          have hXA9 : Ext wr8 wr9 := by rw [hwr9]; exact (Ext.refl wr8).alloc _
          have HPI9 : Hid (Intss wr9 (fun _ => True) (.slice (some ⟨wr8.heap.size, 0, none⟩) 1 1) [x]) := by rw [hwr9]; exact one_intss wr8 (HIY.out.below hXW9)
          have hXN9 : Ext w2 wr9 := hXW9.trans hXA9
          clear hwr9 hXA9
          refine hK.out _ _ (hXN9) (fun hHeld => ?_)
          clear hK K
          try simp only [rtPr, Act.put]
          refine wpAnyH_ready (rs := [28]) (by kernel_rfl) (by simp) ?_
          refine AllReadyH.cons rfl (fun K hK => ?_) ?_
          ·go_simp
           go_at_call 44
           refine (HR1Q.out _ _ (hXN9) HPI9.out).mono ?_
           rintro e wr10 ⟨rfl, hB10⟩
           have hX10 : Ext w2 wr10 := (hXN9).trans hB10
           clear hB10
           refine hK.out _ _ (hX10) (fun hHeld => ?_)
           clear hK K
           try simp only [rtPr, Act.put]
           refine wpAnyH_take (i := 29) (v := ?v42) rfl (by kernel_rfl) (by kernel_rfl) (by kernel_rfl) (fun _ _ _ h => hP _ _ _ _ (by rfl) h) (Or.inl ⟨?w42, ?y42⟩) hHeld ?r42
           case w42 => rfl
           case y42 => (intro w hSw; go_simp; try with_reducible rfl)
           simp only [rtPr, Act.put]
           refine wpAnyH_take (i := 30) (v := ?v43) rfl (by kernel_rfl) (by kernel_rfl) (by kernel_rfl) (fun _ _ _ h => hP _ _ _ _ (by rfl) h) (Or.inl ⟨?w43, ?y43⟩) hHeld ?r43
           case w43 => rfl
           case y43 => (intro w hSw; go_simp; try with_reducible rfl)
           simp only [rtPr, Act.put]
           refine wpAnyH_done (by kernel_rfl) ?_ _
           have HXF := Lib.hid (hX10)
           exact hQ _ _ _ _ _ _ _ _ _ _ _ _ _ _ _ _ _ _ _ _ _ _ _ _ _ _ _ _ _ _ _ HXF
          exact AllReadyH.nil
         exact AllReadyH.nil
        refine AllReadyH.cons rfl (fun K hK => ?_) ?_
        ·go_simp
         obtain ⟨wr11, hwr11⟩ : ∃ W', W' = (wr7).alloc (.cells #[.slice Ax x.length cx] 24) := ⟨_, rfl⟩
         rw [← hwr11]
         have hXW11 : Ext w2 wr7 := hXN7
         have hXA11 : Ext wr7 wr11 := by rw [hwr11]; exact (Ext.refl wr7).alloc _
         have HPI11 : Hid (Intss wr11 (fun _ => True) (.slice (some ⟨wr7.heap.size, 0, none⟩) 1 1) [x]) := by rw [hwr11]; exact one_intss wr7 (HIY.out.below hXW11)
         have Ha11 := Lib.hid (HPI7.out.below hXA11)
         have hXN11 : Ext w2 wr11 := hXW11.trans hXA11
         clear hwr11 hXA11
         refine hK.out _ _ (hXN11) (fun hHeld => ?_)
         clear hK K
         try simp only [rtPr, Act.put]
         refine wpAnyH_ready (rs := [24]) (by kernel_rfl) (by simp) ?_
         refine AllReadyH.cons rfl (fun K hK => ?_) ?_
         ·go_simp
          go_at_call 37
          refine (HR1R.out _ _ (hXN11) Ha11.out).mono ?_
          rintro e wr12 ⟨rfl, hB12⟩
          have Hb12 := Lib.hid (HPI11.out.below hB12)
          have hX12 : Ext w2 wr12 := (hXN11).trans hB12
          clear hB12
          refine hK.out _ _ (hX12) (fun hHeld => ?_)
          clear hK K
          try simp only [rtPr, Act.put]
          refine wpAnyH_ready (rs := [28]) (by kernel_rfl) (by simp) ?_
          refine AllReadyH.cons rfl (fun K hK => ?_) ?_
          ·go_simp
           go_at_call 44
           refine (HR1Q.out _ _ (hX12) Hb12.out).mono ?_
           rintro e wr13 ⟨rfl, hB13⟩
           have hX13 : Ext w2 wr13 := (hX12).trans hB13
           clear hB13
           refine hK.out _ _ (hX13) (fun hHeld => ?_)
           clear hK K
           try simp only [rtPr, Act.put]
           refine wpAnyH_take (i := 29) (v := ?v44) rfl (by kernel_rfl) (by kernel_rfl) (by kernel_rfl) (fun _ _ _ h => hP _ _ _ _ (by rfl) h) (Or.inl ⟨?w44, ?y44⟩) hHeld ?r44
           case w44 => rfl
           case y44 => (intro w hSw; go_simp; try with_reducible rfl)
           simp only [rtPr, Act.put]
           refine wpAnyH_take (i := 30) (v := ?v45) rfl (by kernel_rfl) (by kernel_rfl) (by kernel_rfl) (fun _ _ _ h => hP _ _ _ _ (by rfl) h) (Or.inl ⟨?w45, ?y45⟩) hHeld ?r45
           case w45 => rfl
           case y45 => (intro w hSw; go_simp; try with_reducible rfl)
           simp only [rtPr, Act.put]
           refine wpAnyH_done (by kernel_rfl) ?_ _
           have HXF := Lib.hid (hX13)
           exact hQ _ _ _ _ _ _ _ _ _ _ _ _ _ _ _ _ _ _ _ _ _ _ _ _ _ _ _ _ _ _ _ HXF
          exact AllReadyH.nil
         exact AllReadyH.nil
        exact AllReadyH.nil
       refine AllReadyH.cons rfl (fun K hK => ?_) ?_
       ·go_simp
        obtain ⟨wr14, hwr14⟩ : ∃ W', W' = (wr6).alloc (.cells #[.slice Ax x.length cx] 24) := ⟨_, rfl⟩
        rw [← hwr14]
        have hXW14 : Ext w2 wr6 := hX6
        have hXA14 : Ext wr6 wr14 := by rw [hwr14]; exact (Ext.refl wr6).alloc _
        have HPI14 : Hid (Intss wr14 (fun _ => True) (.slice (some ⟨wr6.heap.size, 0, none⟩) 1 1) [x]) := by rw [hwr14]; exact one_intss wr6 (HIY.out.below hXW14)
        have hXN14 : Ext w2 wr14 := hXW14.trans hXA14
        clear hwr14 hXA14
        refine hK.out _ _ (hXN14) (fun hHeld => ?_)
        clear hK K
        try simp only [rtPr, Act.put]
        refine wpAnyH_ready (rs := [23]) (by kernel_rfl) (by simp) ?_
        refine AllReadyH.cons rfl (fun K hK => ?_) ?_
        ·go_simp
         obtain ⟨wr15, hwr15⟩ : ∃ W', W' = (wr14).alloc (.cells #[.slice Ax x.length cx] 24) := ⟨_, rfl⟩
         rw [← hwr15]
         have hXW15 : Ext w2 wr14 := hXN14
         have hXA15 : Ext wr14 wr15 := by rw [hwr15]; exact (Ext.refl wr14).alloc _
         have HPI15 : Hid (Intss wr15 (fun _ => True) (.slice (some ⟨wr14.heap.size, 0, none⟩) 1 1) [x]) := by rw [hwr15]; exact one_intss wr14 (HIY.out.below hXW15)
         have Hb15 := Lib.hid (HPI14.out.below hXA15)
         have hXN15 : Ext w2 wr15 := hXW15.trans hXA15
         clear hwr15 hXA15
         refine hK.out _ _ (hXN15) (fun hHeld => ?_)
         clear hK K
         try simp only [rtPr, Act.put]
         refine wpAnyH_ready (rs := [24]) (by kernel_rfl) (by simp) ?_
         refine AllReadyH.cons rfl (fun K hK => ?_) ?_
         ·go_simp
          go_at_call 37
          refine (HR1R.out _ _ (hXN15) HPI15.out).mono ?_
          rintro e wr16 ⟨rfl, hB16⟩
          have Hb16 := Lib.hid (Hb15.out.below hB16)
          have hX16 : Ext w2 wr16 := (hXN15).trans hB16
          clear hB16
          refine hK.out _ _ (hX16) (fun hHeld => ?_)
          clear hK K
          try simp only [rtPr, Act.put]
          refine wpAnyH_ready (rs := [28]) (by kernel_rfl) (by simp) ?_
          refine AllReadyH.cons rfl (fun K hK => ?_) ?_
          ·go_simp
           go_at_call 44
           refine (HR1Q.out _ _ (hX16) Hb16.out).mono ?_
           rintro e wr17 ⟨rfl, hB17⟩
           have hX17 : Ext w2 wr17 := (hX16).trans hB17
           clear hB17
           refine hK.out _ _ (hX17) (fun hHeld => ?_)
           clear hK K
           try simp only [rtPr, Act.put]
           refine wpAnyH_take (i := 29) (v := ?v46) rfl (by kernel_rfl) (by kernel_rfl) (by kernel_rfl) (fun _ _ _ h => hP _ _ _ _ (by rfl) h) (Or.inl ⟨?w46, ?y46⟩) hHeld ?r46
           case w46 => rfl
           case y46 => (intro w hSw; go_simp; try with_reducible rfl)
           simp only [rtPr, Act.put]
           refine wpAnyH_take (i := 30) (v := ?v47) rfl (by kernel_rfl) (by kernel_rfl) (by kernel_rfl) (fun _ _ _ h => hP _ _ _ _ (by rfl) h) (Or.inl ⟨?w47, ?y47⟩) hHeld ?r47
           case w47 => rfl
           case y47 => (intro w hSw; go_simp; try with_reducible rfl)
           simp only [rtPr, Act.put]
           refine wpAnyH_done (by kernel_rfl) ?_ _
           have HXF := Lib.hid (hX17)
           exact hQ _ _ _ _ _ _ _ _ _ _ _ _ _ _ _ _ _ _ _ _ _ _ _ _ _ _ _ _ _ _ _ HXF
          exact AllReadyH.nil
         exact AllReadyH.nil
        exact AllReadyH.nil
       exact AllReadyH.nil
      exact AllReadyH.nil
     exact AllReadyH.nil
    refine AllReadyH.cons rfl (fun K hK => ?_) ?_
    ·go_simp
     obtain ⟨wr18, hwr18⟩ : ∃ W', W' = (wr3).alloc (.cells #[.slice Ax x.length cx, .slice Al l.length cl] 24) := ⟨_, rfl⟩
     rw [← hwr18]
     have hXW18 : Ext w2 wr3 := hXN3
     have hXA18 : Ext wr3 wr18 := by rw [hwr18]; exact (Ext.refl wr3).alloc _
     have HPI18 : Hid (Intss wr18 (fun _ => True) (.slice (some ⟨wr3.heap.size, 0, none⟩) 2 2) [x, l]) := by rw [hwr18]; exact pair_intss wr3 (HIY.out.below hXW18) (HIL.out.below hXW18)
     have Ha18 := Lib.hid (HPI3.out.below hXA18)
     have hXN18 : Ext w2 wr18 := hXW18.trans hXA18
     clear hwr18 hXA18
     refine hK.out _ _ (hXN18) (fun hHeld => ?_)
     clear hK K
     try simp only [rtPr, Act.put]
     refine wpAnyH_ready (rs := [12]) (by kernel_rfl) (by simp) ?_
     refine AllReadyH.cons rfl (fun K hK => ?_) ?_
     ·go_simp
      go_at_call 37
      refine (HRXR.out _ _ (hXN18) Ha18.out).mono ?_
      rintro e wr19 ⟨rfl, hB19⟩
      have Hb19 := Lib.hid (HPI18.out.below hB19)
      have hX19 : Ext w2 wr19 := (hXN18).trans hB19
      clear hB19
      refine hK.out _ _ (hX19) (fun hHeld => ?_)
      clear hK K
      try simp only [rtPr, Act.put]
      refine wpAnyH_ready (rs := [17]) (by kernel_rfl) (by simp) ?_
      refine AllReadyH.cons rfl (fun K hK => ?_) ?_
      ·go_simp
       go_at_call 44
       refine (HRXQ.out _ _ (hX19) Hb19.out).mono ?_
       rintro e wr20 ⟨rfl, hB20⟩
       have hX20 : Ext w2 wr20 := (hX19).trans hB20
       clear hB20
       refine hK.out _ _ (hX20) (fun hHeld => ?_)
       clear hK K
       try simp only [rtPr, Act.put]
       refine wpAnyH_take (i := 18) (v := ?v48) rfl (by kernel_rfl) (by kernel_rfl) (by kernel_rfl) (fun _ _ _ h => hP _ _ _ _ (by rfl) h) (Or.inl ⟨?w48, ?y48⟩) hHeld ?r48
       case w48 => rfl
       case y48 => (intro w hSw; go_simp; try with_reducible rfl)
       simp only [rtPr, Act.put]
       refine wpAnyH_take (i := 19) (v := ?v49) rfl (by kernel_rfl) (by kernel_rfl) (by kernel_rfl) (fun _ _ _ h => hP _ _ _ _ (by rfl) h) (Or.inl ⟨?w49, ?y49⟩) hHeld ?r49
       case w49 => rfl
       case y49 => (intro w hSw; go_simp; try with_reducible rfl)
       simp only [rtPr, Act.put]
       refine wpAnyH_take (i := 20) (v := ?v50) rfl (by kernel_rfl) (by kernel_rfl) (by kernel_rfl) (fun _ _ _ h => hP _ _ _ _ (by rfl) h) (Or.inl ⟨?w50, ?y50⟩) hHeld ?r50
       case w50 => rfl
       case y50 => (intro w hSw; go_simp; try with_reducible rfl)
       simp only [rtPr, Act.put]
       refine wpAnyH_take (i := 21) (v := ?v51) rfl (by kernel_rfl) (by kernel_rfl) (by kernel_rfl) (fun _ _ _ h => hP _ _ _ _ (by rfl) h) (Or.inl ⟨?w51, ?y51⟩) hHeld ?r51
       case w51 => rfl
       case y51 => (intro w hSw; go_simp; try with_reducible rfl)
       simp only [rtPr, Act.put]
       refine wpAnyH_take (i := 22) (v := ?v52) rfl (by kernel_rfl) (by kernel_rfl) (by kernel_rfl) (fun _ _ _ h => hP _ _ _ _ (by rfl) h) (Or.inl ⟨?w52, ?y52⟩) hHeld ?r52
       case w52 => rfl
       case y52 => (intro w hSw; go_simp; try with_reducible rfl)
       simp only [rtPr, Act.put]
       refine wpAnyH_take (i := 25) (v := ?v53) rfl (by kernel_rfl) (by kernel_rfl) (by kernel_rfl) (fun _ _ _ h => hP _ _ _ _ (by rfl) h) (Or.inl ⟨?w53, ?y53⟩) hHeld ?r53
       case w53 => rfl
       case y53 => (intro w hSw; go_simp; try with_reducible rfl)
       simp only [rtPr, Act.put]
       refine wpAnyH_take (i := 26) (v := ?v54) rfl (by kernel_rfl) (by kernel_rfl) (by kernel_rfl) (fun _ _ _ h => hP _ _ _ _ (by rfl) h) (Or.inl ⟨?w54, ?y54⟩) hHeld ?r54
       case w54 => rfl
       case y54 => (intro w hSw; go_simp; try with_reducible rfl)
       simp only [rtPr, Act.put]
       refine wpAnyH_ready (rs := [23, 27]) (by kernel_rfl) (by simp) ?_
       refine AllReadyH.cons rfl (fun K hK => ?_) ?_
       ·go_simp
        obtain ⟨wr21, hwr21⟩ : ∃ W', W' = (wr20).alloc (.cells #[.slice Ax x.length cx] 24) := ⟨_, rfl⟩
        rw [← hwr21]
        have hXW21 : Ext w2 wr20 := hX20
        have hXA21 : Ext wr20 wr21 := by rw [hwr21]; exact (Ext.refl wr20).alloc _
        have HPI21 : Hid (Intss wr21 (fun _ => True) (.slice (some ⟨wr20.heap.size, 0, none⟩) 1 1) [x]) := by rw [hwr21]; exact one_intss wr20 (HIY.out.below hXW21)
        have hXN21 : Ext w2 wr21 := hXW21.trans hXA21
        clear hwr21 hXA21
        refine hK.out _ _ (hXN21) (fun hHeld => ?_)
        clear hK K
        try simp only [rtPr, Act.put]
        refine wpAnyH_ready (rs := [24, 27]) (by kernel_rfl) (by simp) ?_
        refine AllReadyH.cons rfl (fun K hK => ?_) ?_
        ·go_simp
         go_at_call 37
         refine (HR1R.out _ _ (hXN21) HPI21.out).mono ?_
         rintro e wr22 ⟨rfl, hB22⟩
         have hX22 : Ext w2 wr22 := (hXN21).trans hB22
         clear hB22
         refine hK.out _ _ (hX22) (fun hHeld => ?_)
         clear hK K
         try simp only [rtPr, Act.put]
         refine wpAnyH_ready (rs := [27]) (by kernel_rfl) (by simp) ?_
         refine AllReadyH.cons rfl (fun K hK => ?_) ?_
         ·go_simp
          obtain ⟨wr23, hwr23⟩ : ∃ W', W' = (wr22).alloc (.cells #[.slice Ax x.length cx] 24) := ⟨_, rfl⟩
          rw [← hwr23]
          have hXW23 : Ext w2 wr22 := hX22
          have hXA23 : Ext wr22 wr23 := by rw [hwr23]; exact (Ext.refl wr22).alloc _
          have HPI23 : Hid (Intss wr23 (fun _ => True) (.slice (some ⟨wr22.heap.size, 0, none⟩) 1 1) [x]) := by rw [hwr23]; exact one_intss wr22 (HIY.out.below hXW23)
          have hXN23 : Ext w2 wr23 := hXW23.trans hXA23
          clear hwr23 hXA23
          refine hK.out _ _ (hXN23) (fun hHeld => ?_)
          clear hK K
          try simp only [rtPr, Act.put]
          refine wpAnyH_ready (rs := [28]) (by kernel_rfl) (by simp) ?_
          refine AllReadyH.cons rfl (fun K hK => ?_) ?_
          ·go_simp
           go_at_call 44
           refine (HR1Q.out _ _ (hXN23) HPI23.out).mono ?_
           rintro e wr24 ⟨rfl, hB24⟩
           have hX24 : Ext w2 wr24 := (hXN23).trans hB24
           clear hB24
           refine hK.out _ _ (hX24) (fun hHeld => ?_)
           clear hK K
           try simp only [rtPr, Act.put]
           refine wpAnyH_take (i := 29) (v := ?v55) rfl (by kernel_rfl) (by kernel_rfl) (by kernel_rfl) (fun _ _ _ h => hP _ _ _ _ (by rfl) h) (Or.inl ⟨?w55, ?y55⟩) hHeld ?r55
           case w55 => rfl
           case y55 => (intro w hSw; go_simp; try with_reducible rfl)
           simp only [rtPr, Act.put]
           refine wpAnyH_take (i := 30) (v := ?v56) rfl (by kernel_rfl) (by kernel_rfl) (by kernel_rfl) (fun _ _ _ h => hP _ _ _ _ (by rfl) h) (Or.inl ⟨?w56, ?y56⟩) hHeld ?r56
           case w56 => rfl
           case y56 => (intro w hSw; go_simp; try with_reducible rfl)
           simp only [rtPr, Act.put]
           refine wpAnyH_done (by kernel_rfl) ?_ _
           have HXF := Lib.hid (hX24)
           exact hQ _ _ _ _ _ _ _ _ _ _ _ _ _ _ _ _ _ _ _ _ _ _ _ _ _ _ _ _ _ _ _ HXF
          exact AllReadyH.nil
         exact AllReadyH.nil
        refine AllReadyH.cons rfl (fun K hK => ?_) ?_
        ·go_simp
         obtain ⟨wr25, hwr25⟩ : ∃ W', W' = (wr21).alloc (.cells #[.slice Ax x.length cx] 24) := ⟨_, rfl⟩
         rw [← hwr25]
         have hXW25 : Ext w2 wr21 := hXN21
         have hXA25 : Ext wr21 wr25 := by rw [hwr25]; exact (Ext.refl wr21).alloc _
         have HPI25 : Hid (Intss wr25 (fun _ => True) (.slice (some ⟨wr21.heap.size, 0, none⟩) 1 1) [x]) := by rw [hwr25]; exact one_intss wr21 (HIY.out.below hXW25)
         have Ha25 := Lib.hid (HPI21.out.below hXA25)
         have hXN25 : Ext w2 wr25 := hXW25.trans hXA25
         clear hwr25 hXA25
         refine hK.out _ _ (hXN25) (fun hHeld => ?_)
         clear hK K
         try simp only [rtPr, Act.put]
         refine wpAnyH_ready (rs := [24]) (by kernel_rfl) (by simp) ?_
         refine AllReadyH.cons rfl (fun K hK => ?_) ?_
         ·go_simp
          go_at_call 37
          refine (HR1R.out _ _ (hXN25) Ha25.out).mono ?_
          rintro e wr26 ⟨rfl, hB26⟩
          have Hb26 := Lib.hid (HPI25.out.below hB26)
          have hX26 : Ext w2 wr26 := (hXN25).trans hB26
          clear hB26
          refine hK.out _ _ (hX26) (fun hHeld => ?_)
          clear hK K
          try simp only [rtPr, Act.put]
          refine wpAnyH_ready (rs := [28]) (by kernel_rfl) (by simp) ?_
          refine AllReadyH.cons rfl (fun K hK => ?_) ?_
          ·go_simp
           go_at_call 44
           refine (HR1Q.out _ _ (hX26) Hb26.out).mono ?_
           rintro e wr27 ⟨rfl, hB27⟩
           have hX27 : Ext w2 wr27 := (hX26).trans hB27
           clear hB27
           refine hK.out _ _ (hX27) (fun hHeld => ?_)
           clear hK K
           try simp only [rtPr, Act.put]
           refine wpAnyH_take (i := 29) (v := ?v57) rfl (by kernel_rfl) (by kernel_rfl) (by kernel_rfl) (fun _ _ _ h => hP _ _ _ _ (by rfl) h) (Or.inl ⟨?w57, ?y57⟩) hHeld ?r57
           case w57 => rfl
           case y57 => (intro w hSw; go_simp; try with_reducible rfl)
           simp only [rtPr, Act.put]
           refine wpAnyH_take (i := 30) (v := ?v58) rfl (by kernel_rfl) (by kernel_rfl) (by kernel_rfl) (fun _ _ _ h => hP _ _ _ _ (by rfl) h) (Or.inl ⟨?w58, ?y58⟩) hHeld ?r58
           case w58 => rfl
           case y58 => (intro w hSw; go_simp; try with_reducible rfl)
           simp only [rtPr, Act.put]
           refine wpAnyH_done (by kernel_rfl) ?_ _
           have HXF := Lib.hid (hX27)
           exact hQ _ _ _ _ _ _ _ _ _ _ _ _ _ _ _ _ _ _ _ _ _ _ _ _ _ _ _ _ _ _ _ HXF
          exact AllReadyH.nil
         exact AllReadyH.nil
        exact AllReadyH.nil
       refine AllReadyH.cons rfl (fun K hK => ?_) ?_
       ·go_simp
        obtain ⟨wr28, hwr28⟩ : ∃ W', W' = (wr20).alloc (.cells #[.slice Ax x.length cx] 24) := ⟨_, rfl⟩
        rw [← hwr28]
        have hXW28 : Ext w2 wr20 := hX20
        have hXA28 : Ext wr20 wr28 := by rw [hwr28]; exact (Ext.refl wr20).alloc _
        have HPI28 : Hid (Intss wr28 (fun _ => True) (.slice (some ⟨wr20.heap.size, 0, none⟩) 1 1) [x]) := by rw [hwr28]; exact one_intss wr20 (HIY.out.below hXW28)
        have hXN28 : Ext w2 wr28 := hXW28.trans hXA28
        clear hwr28 hXA28
        refine hK.out _ _ (hXN28) (fun hHeld => ?_)
        clear hK K
        try simp only [rtPr, Act.put]
        refine wpAnyH_ready (rs := [23]) (by kernel_rfl) (by simp) ?_
        refine AllReadyH.cons rfl (fun K hK => ?_) ?_
        ·go_simp
         obtain ⟨wr29, hwr29⟩ : ∃ W', W' = (wr28).alloc (.cells #[.slice Ax x.length cx] 24) := ⟨_, rfl⟩
         rw [← hwr29]
         have hXW29 : Ext w2 wr28 := hXN28
         have hXA29 : Ext wr28 wr29 := by rw [hwr29]; exact (Ext.refl wr28).alloc _
         have HPI29 : Hid (Intss wr29 (fun _ => True) (.slice (some ⟨wr28.heap.size, 0, none⟩) 1 1) [x]) := by rw [hwr29]; exact one_intss wr28 (HIY.out.below hXW29)
         have Hb29 := Lib.hid (HPI28.out.below hXA29)
         have hXN29 : Ext w2 wr29 := hXW29.trans hXA29
         clear hwr29 hXA29
         refine hK.out _ _ (hXN29) (fun hHeld => ?_)
         clear hK K
         try simp only [rtPr, Act.put]
         refine wpAnyH_ready (rs := [24]) (by kernel_rfl) (by simp) ?_
         refine AllReadyH.cons rfl (fun K hK => ?_) ?_
         ·go_simp
          go_at_call 37
          refine (HR1R.out _ _ (hXN29) HPI29.out).mono ?_
          rintro e wr30 ⟨rfl, hB30⟩
          have Hb30 := Lib.hid (Hb29.out.below hB30)
          have hX30 : Ext w2 wr30 := (hXN29).trans hB30
          clear hB30
          refine hK.out _ _ (hX30) (fun hHeld => ?_)
          clear hK K
          try simp only [rtPr, Act.put]
          refine wpAnyH_ready (rs := [28]) (by kernel_rfl) (by simp) ?_
          refine AllReadyH.cons rfl (fun K hK => ?_) ?_
          ·go_simp
           go_at_call 44
           refine (HR1Q.out _ _ (hX30) Hb30.out).mono ?_
           rintro e wr31 ⟨rfl, hB31⟩
           have hX31 : Ext w2 wr31 := (hX30).trans hB31
           clear hB31
           refine hK.out _ _ (hX31) (fun hHeld => ?_)
           clear hK K
           try simp only [rtPr, Act.put]
           refine wpAnyH_take (i := 29) (v := ?v59) rfl (by kernel_rfl) (by kernel_rfl) (by kernel_rfl) (fun _ _ _ h => hP _ _ _ _ (by rfl) h) (Or.inl ⟨?w59, ?y59⟩) hHeld ?r59
           case w59 => rfl
           case y59 => (intro w hSw; go_simp; try with_reducible rfl)
           simp only [rtPr, Act.put]
           refine wpAnyH_take (i := 30) (v := ?v60) rfl (by kernel_rfl) (by kernel_rfl) (by kernel_rfl) (fun _ _ _ h => hP _ _ _ _ (by rfl) h) (Or.inl ⟨?w60, ?y60⟩) hHeld ?r60
           case w60 => rfl
           case y60 => (intro w hSw; go_simp; try with_reducible rfl)
           simp only [rtPr, Act.put]
           refine wpAnyH_done (by kernel_rfl) ?_ _
           have HXF := Lib.hid (hX31)
           exact hQ _ _ _ _ _ _ _ _ _ _ _ _ _ _ _ _ _ _ _ _ _ _ _ _ _ _ _ _ _ _ _ HXF
          exact AllReadyH.nil
         exact AllReadyH.nil
        exact AllReadyH.nil
       exact AllReadyH.nil
      exact AllReadyH.nil
     exact AllReadyH.nil
    exact AllReadyH.nil
   refine AllReadyH.cons rfl (fun K hK => ?_) ?_
   ·go_simp
    obtain ⟨wr32, hwr32⟩ : ∃ W', W' = (wr2).alloc (.cells #[.slice Ax x.length cx, .slice Al l.length cl] 24) := ⟨_, rfl⟩
    rw [← hwr32]
    have hXW32 : Ext w2 wr2 := hX2
    have hXA32 : Ext wr2 wr32 := by rw [hwr32]; exact (Ext.refl wr2).alloc _
    have HPI32 : Hid (Intss wr32 (fun _ => True) (.slice (some ⟨wr2.heap.size, 0, none⟩) 2 2) [x, l]) := by rw [hwr32]; exact pair_intss wr2 (HIY.out.below hXW32) (HIL.out.below hXW32)
    have hXN32 : Ext w2 wr32 := hXW32.trans hXA32
    clear hwr32 hXA32
    refine hK.out _ _ (hXN32) (fun hHeld => ?_)
    clear hK K
    try simp only [rtPr, Act.put]
    refine wpAnyH_ready (rs := [11]) (by kernel_rfl) (by simp) ?_
    refine AllReadyH.cons rfl (fun K hK => ?_) ?_
    ·go_simp
     obtain ⟨wr33, hwr33⟩ : ∃ W', W' = (wr32).alloc (.cells #[.slice Ax x.length cx, .slice Al l.length cl] 24) := ⟨_, rfl⟩
     rw [← hwr33]
     have hXW33 : Ext w2 wr32 := hXN32
     have hXA33 : Ext wr32 wr33 := by rw [hwr33]; exact (Ext.refl wr32).alloc _
     have HPI33 : Hid (Intss wr33 (fun _ => True) (.slice (some ⟨wr32.heap.size, 0, none⟩) 2 2) [x, l]) := by rw [hwr33]; exact pair_intss wr32 (HIY.out.below hXW33) (HIL.out.below hXW33)
     have Hb33 := Lib.hid (HPI32.out.below hXA33)
     have hXN33 : Ext w2 wr33 := hXW33.trans hXA33
     clear hwr33 hXA33
     refine hK.out _ _ (hXN33) (fun hHeld => ?_)
     clear hK K
     try simp only [rtPr, Act.put]
     refine wpAnyH_ready (rs := [12]) (by kernel_rfl) (by simp) ?_
     refine AllReadyH.cons rfl (fun K hK => ?_) ?_
     ·go_simp
      go_at_call 37
      refine (HRXR.out _ _ (hXN33) HPI33.out).mono ?_
      rintro e wr34 ⟨rfl, hB34⟩
      have Hb34 := Lib.hid (Hb33.out.below hB34)
      have hX34 : Ext w2 wr34 := (hXN33).trans hB34
      clear hB34
      refine hK.out _ _ (hX34) (fun hHeld => ?_)
      clear hK K
      try simp only [rtPr, Act.put]
      refine wpAnyH_ready (rs := [17]) (by kernel_rfl) (by simp) ?_
      refine AllReadyH.cons rfl (fun K hK => ?_) ?_
      ·go_simp
       go_at_call 44
       refine (HRXQ.out _ _ (hX34) Hb34.out).mono ?_
       rintro e wr35 ⟨rfl, hB35⟩
       have hX35 : Ext w2 wr35 := (hX34).trans hB35
       clear hB35
       refine hK.out _ _ (hX35) (fun hHeld => ?_)
       clear hK K
       try simp only [rtPr, Act.put]
       refine wpAnyH_take (i := 18) (v := ?v61) rfl (by kernel_rfl) (by kernel_rfl) (by kernel_rfl) (fun _ _ _ h => hP _ _ _ _ (by rfl) h) (Or.inl ⟨?w61, ?y61⟩) hHeld ?r61
       case w61 => rfl
       case y61 => (intro w hSw; go_simp; try with_reducible rfl)
       simp only [rtPr, Act.put]
       refine wpAnyH_take (i := 19) (v := ?v62) rfl (by kernel_rfl) (by kernel_rfl) (by kernel_rfl) (fun _ _ _ h => hP _ _ _ _ (by rfl) h) (Or.inl ⟨?w62, ?y62⟩) hHeld ?r62
       case w62 => rfl
       case y62 => (intro w hSw; go_simp; try with_reducible rfl)
       simp only [rtPr, Act.put]
       refine wpAnyH_take (i := 20) (v := ?v63) rfl (by kernel_rfl) (by kernel_rfl) (by kernel_rfl) (fun _ _ _ h => hP _ _ _ _ (by rfl) h) (Or.inl ⟨?w63, ?y63⟩) hHeld ?r63
       case w63 => rfl
       case y63 => (intro w hSw; go_simp; try with_reducible rfl)
       simp only [rtPr, Act.put]
       refine wpAnyH_take (i := 21) (v := ?v64) rfl (by kernel_rfl) (by kernel_rfl) (by kernel_rfl) (fun _ _ _ h => hP _ _ _ _ (by rfl) h) (Or.inl ⟨?w64, ?y64⟩) hHeld ?r64
       case w64 => rfl
       case y64 => (intro w hSw; go_simp; try with_reducible rfl)
       simp only [rtPr, Act.put]
       refine wpAnyH_take (i := 22) (v := ?v65) rfl (by kernel_rfl) (by kernel_rfl) (by kernel_rfl) (fun _ _ _ h => hP _ _ _ _ (by rfl) h) (Or.inl ⟨?w65, ?y65⟩) hHeld ?r65
       case w65 => rfl
       case y65 => (intro w hSw; go_simp; try with_reducible rfl)
       simp only [rtPr, Act.put]
       refine wpAnyH_take (i := 25) (v := ?v66) rfl (by kernel_rfl) (by kernel_rfl) (by kernel_rfl) (fun _ _ _ h => hP _ _ _ _ (by rfl) h) (Or.inl ⟨?w66, ?y66⟩) hHeld ?r66
       case w66 => rfl
       case y66 => (intro w hSw; go_simp; try with_reducible rfl)
       simp only [rtPr, Act.put]
       refine wpAnyH_take (i := 26) (v := ?v67) rfl (by kernel_rfl) (by kernel_rfl) (by kernel_rfl) (fun _ _ _ h => hP _ _ _ _ (by rfl) h) (Or.inl ⟨?w67, ?y67⟩) hHeld ?r67
       case w67 => rfl
       case y67 => (intro w hSw; go_simp; try with_reducible rfl)
       simp only [rtPr, Act.put]
       refine wpAnyH_ready (rs := [23, 27]) (by kernel_rfl) (by simp) ?_
       refine AllReadyH.cons rfl (fun K hK => ?_) ?_
       ·go_simp
        obtain ⟨wr36, hwr36⟩ : ∃ W', W' = (wr35).alloc (.cells #[.slice Ax x.length cx] 24) := ⟨_, rfl⟩
        rw [← hwr36]
        have hXW36 : Ext w2 wr35 := hX35
        have hXA36 : Ext wr35 wr36 := by rw [hwr36]; exact (Ext.refl wr35).alloc _
        have HPI36 : Hid (Intss wr36 (fun _ => True) (.slice (some ⟨wr35.heap.size, 0, none⟩) 1 1) [x]) := by rw [hwr36]; exact one_intss wr35 (HIY.out.below hXW36)
        have hXN36 : Ext w2 wr36 := hXW36.trans hXA36
        clear hwr36 hXA36
        refine hK.out _ _ (hXN36) (fun hHeld => ?_)
        clear hK K
        try simp only [rtPr, Act.put]
        refine wpAnyH_ready (rs := [24, 27]) (by kernel_rfl) (by simp) ?_
        refine AllReadyH.cons rfl (fun K hK => ?_) ?_
        ·go_simp
         go_at_call 37
         refine (HR1R.out _ _ (hXN36) HPI36.out).mono ?_
         rintro e wr37 ⟨rfl, hB37⟩
         have hX37 : Ext w2 wr37 := (hXN36).trans hB37
         clear hB37
         refine hK.out _ _ (hX37) (fun hHeld => ?_)
         clear hK K
         try simp only [rtPr, Act.put]
         refine wpAnyH_ready (rs := [27]) (by kernel_rfl) (by simp) ?_
         refine AllReadyH.cons rfl (fun K hK => ?_) ?_
         ·go_simp
          obtain ⟨wr38, hwr38⟩ : ∃ W', W' = (wr37).alloc (.cells #[.slice Ax x.length cx] 24) := ⟨_, rfl⟩
          rw [← hwr38]
          have hXW38 : Ext w2 wr37 := hX37
          have hXA38 : Ext wr37 wr38 := by rw [hwr38]; exact (Ext.refl wr37).alloc _
          have HPI38 : Hid (Intss wr38 (fun _ => True) (.slice (some ⟨wr37.heap.size, 0, none⟩) 1 1) [x]) := by rw [hwr38]; exact one_intss wr37 (HIY.out.below hXW38)
          have hXN38 : Ext w2 wr38 := hXW38.trans hXA38
          clear hwr38 hXA38
          refine hK.out _ _ (hXN38) (fun hHeld => ?_)
          clear hK K
          try simp only [rtPr, Act.put]
          refine wpAnyH_ready (rs := [28]) (by kernel_rfl) (by simp) ?_
          refine AllReadyH.cons rfl (fun K hK => ?_) ?_
          ·go_simp
           go_at_call 44
           refine (HR1Q.out _ _ (hXN38) HPI38.out).mono ?_
           rintro e wr39 ⟨rfl, hB39⟩
           have hX39 : Ext w2 wr39 := (hXN38).trans hB39
           clear hB39
           refine hK.out _ _ (hX39) (fun hHeld => ?_)
           clear hK K
           try simp only [rtPr, Act.put]
           refine wpAnyH_take (i := 29) (v := ?v68) rfl (by kernel_rfl) (by kernel_rfl) (by kernel_rfl) (fun _ _ _ h => hP _ _ _ _ (by rfl) h) (Or.inl ⟨?w68, ?y68⟩) hHeld ?r68
           case w68 => rfl
           case y68 => (intro w hSw; go_simp; try with_reducible rfl)
           simp only [rtPr, Act.put]
           refine wpAnyH_take (i := 30) (v := ?v69) rfl (by kernel_rfl) (by kernel_rfl) (by kernel_rfl) (fun _ _ _ h => hP _ _ _ _ (by rfl) h) (Or.inl ⟨?w69, ?y69⟩) hHeld ?r69
           case w69 => rfl
           case y69 => (intro w hSw; go_simp; try with_reducible rfl)
           simp only [rtPr, Act.put]
           refine wpAnyH_done (by kernel_rfl) ?_ _
           have HXF := Lib.hid (hX39)
           exact hQ _ _ _ _ _ _ _ _ _ _ _ _ _ _ _ _ _ _ _ _ _ _ _ _ _ _ _ _ _ _ _ HXF
          exact AllReadyH.nil
         exact AllReadyH.nil
        refine AllReadyH.cons rfl (fun K hK => ?_) ?_
        ·go_simp
         obtain ⟨wr40, hwr40⟩ : ∃ W', W' = (wr36).alloc (.cells #[.slice Ax x.length cx] 24) := ⟨_, rfl⟩
         rw [← hwr40]
         have hXW40 : Ext w2 wr36 := hXN36
         have hXA40 : Ext wr36 wr40 := by rw [hwr40]; exact (Ext.refl wr36).alloc _
         have HPI40 : Hid (Intss wr40 (fun _ => True) (.slice (some ⟨wr36.heap.size, 0, none⟩) 1 1) [x]) := by rw [hwr40]; exact one_intss wr36 (HIY.out.below hXW40)
         have Ha40 := Lib.hid (HPI36.out.below hXA40)
         have hXN40 : Ext w2 wr40 := hXW40.trans hXA40
         clear hwr40 hXA40
         refine hK.out _ _ (hXN40) (fun hHeld => ?_)
         clear hK K
         try simp only [rtPr, Act.put]
         refine wpAnyH_ready (rs := [24]) (by kernel_rfl) (by simp) ?_
         refine AllReadyH.cons rfl (fun K hK => ?_) ?_
         ·go_simp
          go_at_call 37
          refine (HR1R.out _ _ (hXN40) Ha40.out).mono ?_
          rintro e wr41 ⟨rfl, hB41⟩
          have Hb41 := Lib.hid (HPI40.out.below hB41)
          have hX41 : Ext w2 wr41 := (hXN40).trans hB41
          clear hB41
          refine hK.out _ _ (hX41) (fun hHeld => ?_)
          clear hK K
          try simp only [rtPr, Act.put]
          refine wpAnyH_ready (rs := [28]) (by kernel_rfl) (by simp) ?_
          refine AllReadyH.cons rfl (fun K hK => ?_) ?_
          ·go_simp
           go_at_call 44
           refine (HR1Q.out _ _ (hX41) Hb41.out).mono ?_
           rintro e wr42 ⟨rfl, hB42⟩
           have hX42 : Ext w2 wr42 := (hX41).trans hB42
           clear hB42
           refine hK.out _ _ (hX42) (fun hHeld => ?_)
           clear hK K
           try simp only [rtPr, Act.put]
           refine wpAnyH_take (i := 29) (v := ?v70) rfl (by kernel_rfl) (by kernel_rfl) (by kernel_rfl) (fun _ _ _ h => hP _ _ _ _ (by rfl) h) (Or.inl ⟨?w70, ?y70⟩) hHeld ?r70
           case w70 => rfl
           case y70 => (intro w hSw; go_simp; try with_reducible rfl)
           simp only [rtPr, Act.put]
           refine wpAnyH_take (i := 30) (v := ?v71) rfl (by kernel_rfl) (by kernel_rfl) (by kernel_rfl) (fun _ _ _ h => hP _ _ _ _ (by rfl) h) (Or.inl ⟨?w71, ?y71⟩) hHeld ?r71
           case w71 => rfl
           case y71 => (intro w hSw; go_simp; try with_reducible rfl)
           simp only [rtPr, Act.put]
           refine wpAnyH_done (by kernel_rfl) ?_ _
           have HXF := Lib.hid (hX42)
           exact hQ _ _ _ _ _ _ _ _ _ _ _ _ _ _ _ _ _ _ _ _ _ _ _ _ _ _ _ _ _ _ _ HXF
          exact AllReadyH.nil
         exact AllReadyH.nil
        exact AllReadyH.nil
       refine AllReadyH.cons rfl (fun K hK => ?_) ?_
       ·go_simp
        obtain ⟨wr43, hwr43⟩ : ∃ W', W' = (wr35).alloc (.cells #[.slice Ax x.length cx] 24) := ⟨_, rfl⟩
        rw [← hwr43]
        have hXW43 : Ext w2 wr35 := hX35
        have hXA43 : Ext wr35 wr43 := by rw [hwr43]; exact (Ext.refl wr35).alloc _
        have HPI43 : Hid (Intss wr43 (fun _ => True) (.slice (some ⟨wr35.heap.size, 0, none⟩) 1 1) [x]) := by rw [hwr43]; exact one_intss wr35 (HIY.out.below hXW43)
        have hXN43 : Ext w2 wr43 := hXW43.trans hXA43
        clear hwr43 hXA43
        refine hK.out _ _ (hXN43) (fun hHeld => ?_)
        clear hK K
        try simp only [rtPr, Act.put]
        refine wpAnyH_ready (rs := [23]) (by kernel_rfl) (by simp) ?_
        refine AllReadyH.cons rfl (fun K hK => ?_) ?_
        ·go_simp
         obtain ⟨wr44, hwr44⟩ : ∃ W', W' = (wr43).alloc (.cells #[.slice Ax x.length cx] 24) := ⟨_, rfl⟩
         rw [← hwr44]
         have hXW44 : Ext w2 wr43 := hXN43
         have hXA44 : Ext wr43 wr44 := by rw [hwr44]; exact (Ext.refl wr43).alloc _
         have HPI44 : Hid (Intss wr44 (fun _ => True) (.slice (some ⟨wr43.heap.size, 0, none⟩) 1 1) [x]) := by rw [hwr44]; exact one_intss wr43 (HIY.out.below hXW44)
         have Hb44 := Lib.hid (HPI43.out.below hXA44)
         have hXN44 : Ext w2 wr44 := hXW44.trans hXA44
         clear hwr44 hXA44
         refine hK.out _ _ (hXN44) (fun hHeld => ?_)
         clear hK K
         try simp only [rtPr, Act.put]
         refine wpAnyH_ready (rs := [24]) (by kernel_rfl) (by simp) ?_
         refine AllReadyH.cons rfl (fun K hK => ?_) ?_
         ·go_simp
          go_at_call 37
          refine (HR1R.out _ _ (hXN44) HPI44.out).mono ?_
          rintro e wr45 ⟨rfl, hB45⟩
          have Hb45 := Lib.hid (Hb44.out.below hB45)
          have hX45 : Ext w2 wr45 := (hXN44).trans hB45
          clear hB45
          refine hK.out _ _ (hX45) (fun hHeld => ?_)
          clear hK K
          try simp only [rtPr, Act.put]
          refine wpAnyH_ready (rs := [28]) (by kernel_rfl) (by simp) ?_
          refine AllReadyH.cons rfl (fun K hK => ?_) ?_
          ·go_simp
           go_at_call 44
           refine (HR1Q.out _ _ (hX45) Hb45.out).mono ?_
           rintro e wr46 ⟨rfl, hB46⟩
           have hX46 : Ext w2 wr46 := (hX45).trans hB46
           clear hB46
           refine hK.out _ _ (hX46) (fun hHeld => ?_)
           clear hK K
           try simp only [rtPr, Act.put]
           refine wpAnyH_take (i := 29) (v := ?v72) rfl (by kernel_rfl) (by kernel_rfl) (by kernel_rfl) (fun _ _ _ h => hP _ _ _ _ (by rfl) h) (Or.inl ⟨?w72, ?y72⟩) hHeld ?r72
           case w72 => rfl
           case y72 => (intro w hSw; go_simp; try with_reducible rfl)
           simp only [rtPr, Act.put]
           refine wpAnyH_take (i := 30) (v := ?v73) rfl (by kernel_rfl) (by kernel_rfl) (by kernel_rfl) (fun _ _ _ h => hP _ _ _ _ (by rfl) h) (Or.inl ⟨?w73, ?y73⟩) hHeld ?r73
           case w73 => rfl
           case y73 => (intro w hSw; go_simp; try with_reducible rfl)
           simp only [rtPr, Act.put]
           refine wpAnyH_done (by kernel_rfl) ?_ _
           have HXF := Lib.hid (hX46)
           exact hQ _ _ _ _ _ _ _ _ _ _ _ _ _ _ _ _ _ _ _ _ _ _ _ _ _ _ _ _ _ _ _ HXF
          exact AllReadyH.nil
         exact AllReadyH.nil
        exact AllReadyH.nil
       exact AllReadyH.nil
      exact AllReadyH.nil
     exact AllReadyH.nil
    exact AllReadyH.nil
   exact AllReadyH.nil
  exact AllReadyH.nil
 exact AllReadyH.nil
end Go.Proofs.Ytgpjfpcjiebjiaa
