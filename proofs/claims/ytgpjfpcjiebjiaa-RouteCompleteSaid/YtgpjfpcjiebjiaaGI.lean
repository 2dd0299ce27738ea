/- Walks: the law RouteComplete. -/
import Derived.Test.YtgpjfpcjiebjiaaGq
import Derived.Test.YtgpjfpcjiebjiaaGr
import Derived.Test.YtgpjfpcjiebjiaaGG
import Derived.Test.YtgpjfpcjiebjiaaGH
namespace Go.Proofs.Ytgpjfpcjiebjiaa
open Go.RowKit
set_option linter.unusedVariables false
set_option linter.unusedSimpArgs false
attribute [local go_sem ↓] Go.wp_at_zero Go.wp_at_succ

set_option maxHeartbeats 8000000 in
set_option maxRecDepth 100000 in
theorem complete_law {ok ok2 : Nat → Prop} {v vn : Value} {ls : List (List Int)} {ns : List Int} (o0 o1 o2 : Int) (w : World) (hl : Intss w ok v ls) (hll : ls.length ≤ 9223372036854775807) (hlx : ∀ l ∈ ls, l.length ≤ 9223372036854775807) (hn : Ints w ok2 vn ns) (hnl : ns.length ≤ 9223372036854775807) :
  Calls Try.prog 7 #[.agg #[v, .int .i64 o0, .int .i64 o1, .int .i64 o2, vn]] w fun e w' => e = .returned (.bool true) ∧ Ext w w' := by
 have HLS := Lib.hid hl
 have HNS := Lib.hid hn
 obtain ⟨vs, ⟨A, c, rfl, hc, -⟩, -⟩ := hl
 obtain ⟨A2, c2, rfl, hc2, -⟩ := hn
 have HLX := Lib.hid hlx
 clear hlx
 go_enter Try.func7, Try.ntmps7
 go_wp2_with fail
 generalize hwa : w.alloc (.cells #[.slice A ls.length c, .int .i64 o0, .int .i64 o1, .int .i64 o2, .slice A2 ns.length c2] 26) = wa
 have hEa : Ext w wa := by rw [← hwa]; exact (Ext.refl _).alloc _
 have hBa : Blk wa w.heap.size 26 #[.slice A ls.length c, .int .i64 o0, .int .i64 o1, .int .i64 o2, .slice A2 ns.length c2] := by rw [← hwa]; exact Blk.new _ _ _ rfl
 clear hwa
 have r0 : ∀ W, Ext wa W → W.cell? ⟨w.heap.size, 0, none⟩ = some (.slice A ls.length c) := Ext.rule (hBa.cell (k := 0) rfl)
 have r1 : ∀ W, Ext wa W → W.cell? ⟨w.heap.size, 1, none⟩ = some (.int .i64 o0) := Ext.rule (hBa.cell (k := 1) rfl)
 have r2 : ∀ W, Ext wa W → W.cell? ⟨w.heap.size, 2, none⟩ = some (.int .i64 o1) := Ext.rule (hBa.cell (k := 2) rfl)
 have r3 : ∀ W, Ext wa W → W.cell? ⟨w.heap.size, 3, none⟩ = some (.int .i64 o2) := Ext.rule (hBa.cell (k := 3) rfl)
 have r4 : ∀ W, Ext wa W → W.cell? ⟨w.heap.size, 4, none⟩ = some (.slice A2 ns.length c2) := Ext.rule (hBa.cell (k := 4) rfl)
 clear hBa
 refine (sanity_calls wa).mono ?_
 rintro e w1 ⟨rfl, hE1⟩
 have hx1 : Ext wa w1 := hE1
 go_wp2_with fail
 refine (caseMade_calls o0 o1 o2 w1 (HLS.out.below (hEa.trans hx1)) hll HLX.out (HNS.out.below (hEa.trans hx1)) hnl).mono ?_
 rintro e w2 ⟨v2, m, vl, l, rfl, hE2, hm, hMM, hMk, hl12, hlr⟩
 have HM := Lib.hid hm
 obtain ⟨vfr, vup, vts, rfl, ⟨_, ⟨Af, cf, rfl, -⟩, -⟩, ⟨Au, cu, rfl, -⟩, ⟨_, ⟨At, ct, rfl, -⟩, -⟩⟩ := hm
 have HI := Lib.hid hMk.ints
 obtain ⟨Al, cl, rfl, hcl⟩ := hMk.slice
 have HMM := Lib.hid hMM
 have HLR := Lib.hid hlr
 have HEW := Lib.hid ((hEa.trans hx1).trans hE2)
 have HMK := Lib.hid hMk.own
 clear hMk hMM hlr r0 r1 r2 r3 r4 hx1 hE1 hEa hE2
 clear HMK HI HLR hl12 hcl
 go_wp2_with fail
 obtain ⟨gm, hgm⟩ : ∃ gm, gm = w2.heap.size := ⟨_, rfl⟩
 rw [← hgm]
 generalize hw5 : w2.alloc (.cells #[.int .i64 m.w, .int .i64 m.h, .int .i64 m.l, .slice Af m.free.length cf, .slice Au m.up.length cu, .slice At m.tasks.length ct] 31) = w5
 have hE5 : Ext w2 w5 := by rw [← hw5]; exact (Ext.refl _).alloc _
 have hBm : Blk w5 gm 31 #[.int .i64 m.w, .int .i64 m.h, .int .i64 m.l, .slice Af m.free.length cf, .slice Au m.up.length cu, .slice At m.tasks.length ct] := by rw [← hw5, hgm]; exact Blk.new _ _ _ rfl
 have HBm := Lib.hid hBm
 have hs5 : w5.heap.size = gm + 1 := by rw [← hw5, hgm]; simp
 have HGS : Hid (w.heap.size ≤ gm ∧ w2.heap.size = gm ∧ w5.heap.size = gm + 1) := ⟨by have := HEW.out.size; omega, hgm.symm, hs5⟩
 have HE5 := Lib.hid hE5
 refine (small_calls w5 ((HM.out.bound).below hE5) HMM.out).mono ?_
 rintro e w3 ⟨v3, m', rfl, hE3, hm3, hS3⟩
 have HM3 := Lib.hid hm3
 obtain ⟨vfr, vup, vts, rfl, ⟨_, ⟨Bf, df, rfl, -⟩, -⟩, ⟨Bu, du, rfl, -⟩, ⟨_, ⟨Bt, dt, rfl, -⟩, -⟩⟩ := hm3
 have HSM := Lib.hid hS3
 have HE3 := Lib.hid hE3
 have hB3 : Blk w3 gm 31 #[.int .i64 m.w, .int .i64 m.h, .int .i64 m.l, .slice Af m.free.length cf, .slice Au m.up.length cu, .slice At m.tasks.length ct] := HBm.out.ext hE3
 have HB3 := Lib.hid hB3
 obtain ⟨m0, m1, m2, m3, m4, m5⟩ := cells6 hB3
 have hfz : ∀ j, w3.frozen? ⟨gm, j, none⟩ = false := fun j => hB3.frozen j
 clear hE3 hS3 HMM hB3 hBm hE5 hw5 hgm hs5
 have hl1 : m'.l = 1 := HSM.out.l
 obtain ⟨N, hN⟩ : ∃ N : Nat, m'.w * m'.h = (N : Int) := ⟨(m'.w * m'.h).toNat, by have := HSM.out.w; have := HSM.out.h; have := Int.mul_nonneg (show 0 ≤ m'.w by omega) (show 0 ≤ m'.h by omega); omega⟩
 have hN9 : N ≤ 9 := by have := HSM.out.n; omega
 have HN := Lib.hid hN
 have HL1 := Lib.hid hl1
 have hmw := HSM.out.w
 have hmh := HSM.out.h
 have hmul : IntKind.i64.wrap (m'.w * m'.h) = (N : Int) := by rw [IntKind.wrap_i64]; omega
 have hNW : IntKind.i64.wrap (N : Int) = (N : Int) := by rw [IntKind.wrap_i64]; omega
 clear hN hl1
 go_wp2_with fail
 obtain ⟨w6, hw6⟩ : ∃ w6, w6 = ((((((w3.setCell ⟨gm, 0, none⟩ (.int .i64 m'.w)).setCell ⟨gm, 1, none⟩ (.int .i64 m'.h)).setCell ⟨gm, 2, none⟩ (.int .i64 m'.l)).setCell ⟨gm, 3, none⟩ (.slice Bf m'.free.length df)).setCell ⟨gm, 4, none⟩ (.slice Bu m'.up.length du)).setCell ⟨gm, 5, none⟩ (.slice Bt m'.tasks.length dt)) := ⟨_, rfl⟩
 rw [← hw6]
 have hg0 : w.heap.size ≤ gm := HGS.out.1
 have hE36 : Ext w w6 := by
  have h3 : Ext w w3 := (HEW.out.trans HE5.out).trans HE3.out
  rw [hw6]
  exact (((((h3.setCell (p := ⟨gm, 0, none⟩) hg0 _).setCell (p := ⟨gm, 1, none⟩) hg0 _).setCell (p := ⟨gm, 2, none⟩) hg0 _).setCell (p := ⟨gm, 3, none⟩) hg0 _).setCell (p := ⟨gm, 4, none⟩) hg0 _).setCell (p := ⟨gm, 5, none⟩) hg0 _
 have hB6 : Blk w6 gm 31 #[.int .i64 m'.w, .int .i64 m'.h, .int .i64 m'.l, .slice Bf m'.free.length df, .slice Bu m'.up.length du, .slice Bt m'.tasks.length dt] := by
  rw [hw6]
  exact (((((HB3.out.set (k := 0) _).set (k := 1) _).set (k := 2) _).set (k := 3) _).set (k := 4) _).set (k := 5) _
 have hK6 : ∀ k, k ≠ gm → w6.heap[k]? = w3.heap[k]? := fun k hne => by
  rw [hw6]
  exact (Below.heap_setCell _ ⟨gm, 5, none⟩ _ k hne).trans ((Below.heap_setCell _ ⟨gm, 4, none⟩ _ k hne).trans ((Below.heap_setCell _ ⟨gm, 3, none⟩ _ k hne).trans ((Below.heap_setCell _ ⟨gm, 2, none⟩ _ k hne).trans ((Below.heap_setCell _ ⟨gm, 1, none⟩ _ k hne).trans (Below.heap_setCell _ ⟨gm, 0, none⟩ _ k hne)))))
 have HM6 := Lib.hid (HM3.out.keep (w' := w6) (fun b hb hlt => hK6 b (by have := HGS.out; rcases hb with hb | hb <;> omega)))
 have HE6 := Lib.hid hE36
 obtain ⟨n0, n1, n2, n3, n4, n5⟩ := cells6 hB6
 rw [HL1.out] at n2
 have q0 := Ext.rule n0
 have q1 := Ext.rule n1
 have q2 := Ext.rule n2
 have q3 := Ext.rule n3
 have q4 := Ext.rule n4
 have q5 := Ext.rule n5
 clear m0 m1 m2 m3 m4 m5 n0 n1 n2 n3 n4 n5 hfz hB6 hK6 hw6 hE36 hg0 HB3 HM3 HE3 HBm HM HE5 HEW
 refine (check_calls w6 HM6.out HSM.out.lens).mono ?_
 rintro e w7 ⟨rfl, hE7⟩
 have hx7 : Ext w6 w7 := hE7
 rw [HSM.out.ok]
 clear hE7
 rw [HL1.out] at HM6 ⊢
 go_wp2_with fail
 have HM7 := Lib.hid (HM6.out.below hx7)
 refine (new1 w7 w7 (Ext.refl _) HM7.out HSM.out.lens HSM.out.ok).mono ?_
 rintro e w8 ⟨gr, rfl, hE8, hR8⟩
 have hR8 : OneR w7 w8 gr m' ⟨[], cmpC m' [], 0⟩ := by
  have e : loadS m' [] 0 = ⟨[], cmpC m' [], 0⟩ := by simp [loadS]
  rwa [e] at hR8
 have HR8 := Lib.hid hR8
 clear hR8
 have hx8 : Ext w6 w8 := hx7.trans hE8
 clear hE8
 go_wp2_with fail
 refine (HR8.out.step 20000 (by omega) (by show (0 : Int) ≤ _; omega)).mono ?_
 rintro e w9 ⟨rfl, hR9⟩
 have HDN := Lib.hid HSM.out.ends
 have HFD := Lib.hid HSM.out.found
 rw [HDN.out]
 have HR9 := Lib.hid hR9
 have hx9 : Ext w6 w9 := hx7.trans hR9.ext
 clear hR9 hx8 HR8 hx7 HDN HM7
 go_wp2_with fail
 refine HR9.out.found.mono ?_
 rintro e w10 ⟨vf, rfl, hed, -⟩
 have hx10 : Ext w6 w10 := hx9.trans hed
 obtain ⟨ob, hob⟩ : ∃ ob, ob = cmpC m' (RS.run m' 20000 ⟨[], cmpC m' [], 0⟩).ch := ⟨_, rfl⟩
 rw [← hob]
 have HW : Hid (wayB m' 0 none [] = ob) := by
  have h1 := HFD.out
  rw [← hob] at h1
  rw [Bool.eq_iff_iff, wayB_iff]
  exact h1.symm
 clear hob hed HFD HR9 hx9
 have hbb : (ob == ob) = true := by simp
 have hmk : ∀ W : World, (Instr.makeSlice 28 (.int .i64 (N : Int)) (.int .i64 (N : Int))).run Try.prog W = .ok (.slice (some ⟨W.heap.size, 0, none⟩) N N) (W.alloc (.cells (madeCells #[.bool false] N) 4)) := fun W =>
  run_make_row' 28 4 (.bool false) 1 Try.underlying28 Try.infoBool rfl .i64 .i64 N (by omega) (by omega) W
 have HSO : Hid (∀ W, Ext w6 W → Calls Try.prog 35 #[.agg #[.int .i64 m'.w, .int .i64 m'.h, .int .i64 1, .slice Bf m'.free.length df, .slice Bu m'.up.length du, .slice Bt m'.tasks.length dt], .int .i64 0, .slice none 0 0, .slice (some ⟨W.heap.size, 0, none⟩) N N] (W.alloc (.cells (madeCells #[.bool false] N) 4)) fun e w' => e = .returned (.bool ob) ∧ Ext (W.alloc (.cells (madeCells #[.bool false] N) 4)) w') := fun W hW => by
  have hmz := ((HM6.out.below hW).bound).below ((Ext.refl W).alloc (.cells (madeCells #[.bool false] N) 4))
  have hn : m'.n = (N : Int) := by
   show m'.w * m'.h * m'.l = _
   rw [HL1.out, Int.mul_one, HN.out]
  have h1 := some_calls (Good.of HSM.out.ok) HSM.out.lens (fun t ht => by have := HSM.out.te t ht; omega) hn (m'.tasks.length * 1000 + N * 2 + 2) _ (t := 0) (g := W.heap.size) (cu := N) (p := []) (us := []) (okp := fun _ => False) hmz (fun h => by have := h.2; omega) ⟨none, 0, rfl, Nat.zero_le _, RowA.nil _ _ _ _⟩ (fun h => h) (Nat.le_refl _) (fun x hx => by cases hx) (World.rowIs_made W (.bool false) N 4) List.nodup_nil (fun x hx => by cases hx) (Nat.zero_le _) (fun h => absurd rfl h) (Nat.le_refl _) (by simp)
  have e : wayB m' 0 ([] : List Int).getLast? [] = ob := HW.out
  rw [e] at h1
  exact h1
 clear HW HL1
 go_upto_region 10 with fail
 refine wp_region_held_drew (S := fun W => Ext w6 W) mixedA hx10.drew (fun hHeld => ?_)
 have hHd : Ext w6 w10.drew := hHeld
 generalize w10.drew = wd at hHeld hHd ⊢
 refine wpAnyH_take (i := 0) (v := ?v1) rfl (by kernel_rfl) (by kernel_rfl) (by kernel_rfl) (fun _ _ _ h => h) (Or.inl ⟨?w1, ?y1⟩) hHeld ?r1
 case w1 => rfl
 case y1 => (intro w hSw; go_simp; try with_reducible rfl)
 simp only [rtPr, Act.put]
 refine wpAnyH_take (i := 1) (v := ?v2) rfl (by kernel_rfl) (by kernel_rfl) (by kernel_rfl) (fun _ _ _ h => h) (Or.inl ⟨?w2, ?y2⟩) hHeld ?r2
 case w2 => rfl
 case y2 => (intro w hSw; go_simp; try with_reducible rfl)
 simp only [rtPr, Act.put]
 refine wpAnyH_take (i := 2) (v := ?v3) rfl (by kernel_rfl) (by kernel_rfl) (by kernel_rfl) (fun _ _ _ h => h) (Or.inl ⟨?w3, ?y3⟩) hHeld ?r3
 case w3 => rfl
 case y3 => (intro w hSw; go_simp; try with_reducible rfl)
 simp only [rtPr, Act.put]
 refine wpAnyH_take (i := 3) (v := ?v4) rfl (by kernel_rfl) (by kernel_rfl) (by kernel_rfl) (fun _ _ _ h => h) (Or.inl ⟨?w4, ?y4⟩) hHeld ?r4
 case w4 => rfl
 case y4 => (intro w hSw; go_simp; try with_reducible rfl)
 simp only [rtPr, Act.put]
 refine wpAnyH_take (i := 4) (v := ?v5) rfl (by kernel_rfl) (by kernel_rfl) (by kernel_rfl) (fun _ _ _ h => h) (Or.inl ⟨?w5, ?y5⟩) hHeld ?r5
 case w5 => rfl
 case y5 => (intro w hSw; go_simp; try with_reducible rfl)
 simp only [rtPr, Act.put]
 refine wpAnyH_take (i := 5) (v := ?v6) rfl (by kernel_rfl) (by kernel_rfl) (by kernel_rfl) (fun _ _ _ h => h) (Or.inl ⟨?w6, ?y6⟩) hHeld ?r6
 case w6 => rfl
 case y6 => (intro w hSw; go_simp; try with_reducible rfl)
 simp only [rtPr, Act.put]
 refine wpAnyH_take (i := 6) (v := ?v7) rfl (by kernel_rfl) (by kernel_rfl) (by kernel_rfl) (fun _ _ _ h => h) (Or.inl ⟨?w7, ?y7⟩) hHeld ?r7
 case w7 => rfl
 case y7 => (intro w hSw; go_simp; try with_reducible rfl)
 simp only [rtPr, Act.put]
 refine wpAnyH_take (i := 7) (v := ?v8) rfl (by kernel_rfl) (by kernel_rfl) (by kernel_rfl) (fun _ _ _ h => h) (Or.inl ⟨?w8, ?y8⟩) hHeld ?r8
 case w8 => rfl
 case y8 => (intro w hSw; go_simp; try with_reducible rfl)
 simp only [rtPr, Act.put]
 refine wpAnyH_take (i := 8) (v := ?v9) rfl (by kernel_rfl) (by kernel_rfl) (by kernel_rfl) (fun _ _ _ h => h) (Or.inl ⟨?w9, ?y9⟩) hHeld ?r9
 case w9 => rfl
 case y9 => (intro w hSw; go_simp; try with_reducible rfl)
 simp only [rtPr, Act.put]
 refine wpAnyH_take (i := 9) (v := ?v10) rfl (by kernel_rfl) (by kernel_rfl) (by kernel_rfl) (fun _ _ _ h => h) (Or.inl ⟨?w10, ?y10⟩) hHeld ?r10
 case w10 => rfl
 case y10 => (intro w hSw; go_simp; try with_reducible rfl)
 simp only [rtPr, Act.put]
 refine wpAnyH_take (i := 10) (v := ?v11) rfl (by kernel_rfl) (by kernel_rfl) (by kernel_rfl) (fun _ _ _ h => h) (Or.inl ⟨?w11, ?y11⟩) hHeld ?r11
 case w11 => rfl
 case y11 => (intro w hSw; go_simp; try with_reducible rfl)
 simp only [rtPr, Act.put]
 refine wpAnyH_take (i := 11) (v := ?v12) rfl (by kernel_rfl) (by kernel_rfl) (by kernel_rfl) (fun _ _ _ h => h) (Or.inl ⟨?w12, ?y12⟩) hHeld ?r12
 case w12 => rfl
 case y12 => (intro w hSw; go_simp; try with_reducible rfl)
 simp only [rtPr, Act.put]
 refine wpAnyH_ready (rs := [12]) (by kernel_rfl) (by simp) ?_
 refine AllReadyH.cons rfl (fun K hK => ?_) AllReadyH.nil
 go_simp
 refine hK.out _ _ (hHd.alloc _) (fun hHeld => ?_)
 clear hK K
 try simp only [rtPr, Act.put]
 refine wpAnyH_ready (rs := [13]) (by kernel_rfl) (by simp) ?_
 refine AllReadyH.cons rfl (fun K hK => ?_) AllReadyH.nil
 go_simp
 go_at_call 35
 refine (HSO.out wd hHd).mono ?_
 rintro e w9 ⟨rfl, hE9⟩
 have hX9 : Ext w6 w9 := (hHd.alloc _).trans hE9
 clear hE9
 refine hK.out _ _ (hX9) (fun hHeld => ?_)
 clear hK K
 try simp only [rtPr, Act.put]
 refine wpAnyH_take (i := 14) (v := ?v13) rfl (by kernel_rfl) (by kernel_rfl) (by kernel_rfl) (fun _ _ _ h => h) (Or.inl ⟨?w13, ?y13⟩) hHeld ?r13
 case w13 => rfl
 case y13 => (intro w hSw; go_simp; try with_reducible rfl)
 simp only [rtPr, Act.put]
 refine wpAnyH_take (i := 15) (v := ?v14) rfl (by kernel_rfl) (by kernel_rfl) (by kernel_rfl) (fun _ _ _ h => h) (Or.inl ⟨?w14, ?y14⟩) hHeld ?r14
 case w14 => rfl
 case y14 => (intro w hSw; go_simp; try with_reducible rfl)
 simp only [rtPr, Act.put]
 refine wpAnyH_take (i := 16) (v := ?v15) rfl (by kernel_rfl) (by kernel_rfl) (by kernel_rfl) (fun _ _ _ h => h) (Or.inl ⟨?w15, ?y15⟩) hHeld ?r15
 case w15 => rfl
 case y15 => (intro w hSw; go_simp; try with_reducible rfl)
 simp only [rtPr, Act.put]
 refine wpAnyH_done (by kernel_rfl) ?_ _
 have HXF := Lib.hid hX9
 clear hHeld
 go_wp2_with fail
 go_ret
 exact ⟨rfl, HE6.out.trans HXF.out⟩
set_option maxRecDepth 100000 in
theorem routeComplete_walk {H : Type} {enc : TypeId × Value → H} {base : Nat} {v0 : Value} {d0 : DataW H} {p0 : List MemPlace} (W : World) (hv0 : Value.okWide Try.prog W .any base 26 v0) (h0 : DataW.Trod enc Try.prog W 0 (fun _ => true) true 26 v0 d0 p0) :
  Calls Try.prog 7 #[v0] W fun e w' => e = .returned (.bool true) ∧ Below W.heap.size W w' := by
 obtain ⟨va, o0, o1, o2, vb, ls, ns, rfl, h2, h3, h4, h5, h6, -⟩ := caseOpen h0 (caseAgg hv0)
 exact complete_law o0 o1 o2 W h2 h3 h4 h5 h6
end Go.Proofs.Ytgpjfpcjiebjiaa
