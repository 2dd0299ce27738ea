/- Walks: the maze of the chapter's examples. Walks: the maze that lists of numbers make. Walks: the maze and the nodes of a case. -/
import Derived.Test.YtgpjfpcjiebjiaaGp
import Derived.Test.YtgpjfpcjiebjiaaGn
import Derived.Deep.LoopGhost
import Derived.Deep.AppendLies
import Derived.StillTailTactics
namespace Go.Proofs.Ytgpjfpcjiebjiaa
open Go.RowKit
set_option linter.unusedVariables false
set_option linter.unusedSimpArgs false
attribute [local go_sem ↓] Go.wp_at_zero Go.wp_at_succ

def exFree : List Bool := [true, true, true, true, false, true, true, true, true]
/-- The maze of the examples. -/
def exM (a b : Int) : MZ := ⟨3, 3, 1, [exFree, exFree], List.replicate 9 false, [([0], [2]), ([a], [b])]⟩

theorem allocs_ext : ∀ (os : List Obj) (w : World), Ext w (os.foldl World.alloc w)
 | [], w => Ext.refl w
 | o :: os, w => ((Ext.refl w).alloc o).trans (allocs_ext os (w.alloc o))
theorem allocs_at : ∀ (os : List Obj) (w : World) (i : Nat) (o : Obj), os[i]? = some o → (os.foldl World.alloc w).heap[w.heap.size + i]? = some o
 | o :: os, w, 0, o', h => by
  have : o = o' := by simpa using h
  subst this
  exact ((allocs_ext os (w.alloc o)).block _ (by simp)).trans (heap_alloc_new w o)
 | o :: os, w, i + 1, o', h => by
  have := allocs_at os (w.alloc o) i o' (by simpa using h)
  rw [show w.heap.size + (i + 1) = (w.alloc o).heap.size + i from by simp; omega]
  exact this
theorem fin_allocs {P : World → Prop} (w : World) (os : List Obj) (h : ∀ W, Ext w W → (∀ (i : Nat) o, os[i]? = some o → W.heap[w.heap.size + i]? = some o) → P W) : P (os.foldl World.alloc w) := h _ (allocs_ext os w) (fun i o hi => allocs_at os w i o hi)

set_option maxHeartbeats 2000000 in
set_option maxRecDepth 100000 in
theorem example_calls (a b : Int) (w : World) : Calls Try.prog 45 #[.int .i64 a, .int .i64 b] w fun e w' => ∃ v, e = .returned v ∧ Ext w w' ∧ MazeV w' (fun x => w.heap.size ≤ x) v (exM a b) := by
 have hmk : ∀ w, (Instr.makeSlice 28 (.int .i64 9) (.int .i64 9)).run Try.prog w = .ok (.slice (some ⟨w.heap.size, 0, none⟩) 9 9) (w.alloc (.cells #[.bool false, .bool false, .bool false, .bool false, .bool false, .bool false, .bool false, .bool false, .bool false] 4)) := fun _ => by kernel_rfl
 go_enter Try.func45, Try.ntmps45
 go_wp2_with fail
 change (fun W => bodyPost Try.prog Try.f45 (fun e w' => ∃ v, e = Ending.returned v ∧ Ext w w' ∧ MazeV w' (fun x => w.heap.size ≤ x) v (exM a b)) Exit.ret _ W) ([_, _, _, _, _, _, _, _, _, _].foldl World.alloc w)
 refine fin_allocs w _ fun W hE hB => ?_
 have b0 := hB 0 _ rfl
 have b1 := hB 1 _ rfl
 have b2 := hB 2 _ rfl
 have b3 := hB 3 _ rfl
 have b4 := hB 4 _ rfl
 have b5 := hB 5 _ rfl
 have b6 := hB 6 _ rfl
 have b8 := hB 8 _ rfl
 have b9 := hB 9 _ rfl
 clear hB
 generalize w.heap.size = H at *
 have hc : ∀ k v, (#[Value.int IntKind.i64 3, Value.int IntKind.i64 3, Value.int IntKind.i64 1, Value.slice (some ⟨H + 9, 0, none⟩) 2 2, Value.slice (some ⟨H + 1, 0, none⟩) 9 9, Value.slice (some ⟨H + 6, 0, none⟩) 2 2] : Array Value)[k]? = some v → W.cell? ⟨H, k, none⟩ = some v := fun k v hk => Blk.cell (cs := #[Value.int IntKind.i64 3, Value.int IntKind.i64 3, Value.int IntKind.i64 1, Value.slice (some ⟨H + 9, 0, none⟩) 2 2, Value.slice (some ⟨H + 1, 0, none⟩) 9 9, Value.slice (some ⟨H + 6, 0, none⟩) 2 2]) b0 hk
 have c0 := hc 0 _ rfl
 have c1 := hc 1 _ rfl
 have c2 := hc 2 _ rfl
 have c3 := hc 3 _ rfl
 have c4 := hc 4 _ rfl
 have c5 := hc 5 _ rfl
 clear hc
 have hI : ∀ (k : Nat) (x : Int), H ≤ k → W.heap[k]? = some (.cells #[.int .i64 x] 3 (0, 0)) → Ints W (fun b => H ≤ b) (.slice (some ⟨k, 0, none⟩) 1 1) [x] := fun k x hk hb => ⟨_, _, rfl, Nat.le_refl _, RowA.block (cs := #[.int .i64 x]) hb hk rfl⟩
 have hM : MazeV W (fun b => H ≤ b) (.agg #[.int .i64 3, .int .i64 3, .int .i64 1, .slice (some ⟨H + 9, 0, none⟩) 2 2, .slice (some ⟨H + 1, 0, none⟩) 9 9, .slice (some ⟨H + 6, 0, none⟩) 2 2]) (exM a b) := by
  have hF : Bools W (fun b => H ≤ b) (.slice (some ⟨H + 8, 0, none⟩) 9 9) exFree := ⟨_, _, rfl, Nat.le_refl _, RowA.block (cs := #[.bool true, .bool true, .bool true, .bool true, .bool false, .bool true, .bool true, .bool true, .bool true]) b8 (by omega) rfl⟩
  refine ⟨_, _, _, rfl, ⟨_, ⟨_, _, rfl, Nat.le_refl _, RowA.block b9 (by omega) rfl⟩, fun i x hx => ?_⟩, ⟨_, _, rfl, Nat.le_refl _, RowA.block (cs := #[.bool false, .bool false, .bool false, .bool false, .bool false, .bool false, .bool false, .bool false, .bool false]) b1 (by omega) rfl⟩,
   ⟨[.string ⟨#[97]⟩, .slice (some ⟨H + 2, 0, none⟩) 1 1, .slice (some ⟨H + 3, 0, none⟩) 1 1, .string ⟨#[98]⟩, .slice (some ⟨H + 4, 0, none⟩) 1 1, .slice (some ⟨H + 5, 0, none⟩) 1 1], ⟨_, _, rfl, Nat.le_refl _, rfl, fun _ => ⟨H + 6, 0, rfl, by omega, fun j u hu => by rw [Nat.zero_add]; exact Blk.cell (cs := #[.string ⟨#[97]⟩, .slice (some ⟨H + 2, 0, none⟩) 1 1, .slice (some ⟨H + 3, 0, none⟩) 1 1, .string ⟨#[98]⟩, .slice (some ⟨H + 4, 0, none⟩) 1 1, .slice (some ⟨H + 5, 0, none⟩) 1 1]) b6 (by simpa using hu)⟩⟩, fun i x hx => ?_⟩⟩
  ·match i, hx with
   | 0, hx =>
    have : exFree = x := by simpa [exM] using hx
    subst this
    exact ⟨_, rfl, hF⟩
   | 1, hx =>
    have : exFree = x := by simpa [exM] using hx
    subst this
    exact ⟨_, rfl, hF⟩
  ·match i, hx with
   | 0, hx =>
    have : (([0], [2]) : List Int × List Int) = x := by simpa [exM] using hx
    subst this
    exact ⟨_, _, _, rfl, rfl, rfl, hI _ _ (by omega) b2, hI _ _ (by omega) b3⟩
   | 1, hx =>
    have : (([a], [b]) : List Int × List Int) = x := by simpa [exM] using hx
    subst this
    exact ⟨_, _, _, rfl, rfl, rfl, hI _ _ (by omega) b4, hI _ _ (by omega) b5⟩
 exact bodyPost_ret (v := .agg #[.int .i64 3, .int .i64 3, .int .i64 1, .slice (some ⟨H + 9, 0, none⟩) 2 2, .slice (some ⟨H + 1, 0, none⟩) 9 9, .slice (some ⟨H + 6, 0, none⟩) 2 2]) (by simp [results, Try.results45, go_sem, c0, c1, c2, c3, c4, c5]) rfl ⟨_, rfl, hE, hM⟩
end Go.Proofs.Ytgpjfpcjiebjiaa

namespace Go.Proofs.Ytgpjfpcjiebjiaa
open Go.RowKit
set_option linter.unusedVariables false
set_option linter.unusedSimpArgs false
attribute [local go_sem ↓] Go.wp_at_zero Go.wp_at_succ

set_option maxHeartbeats 20000000 in
set_option maxRecDepth 100000 in
theorem made_calls {ok : Nat → Prop} {v : Value} {ls : List (List Int)} (w : World) (hl : Intss w ok v ls) (hll : ls.length ≤ 9223372036854775807) (hlx : ∀ l ∈ ls, l.length ≤ 9223372036854775807) :
  Calls Try.prog 46 #[v] w (MadePost w) := by
 have hlb := hl.bound
 have HLS := Lib.hid hlb
 obtain ⟨vs, ⟨A, c, rfl, hc, hr⟩, he⟩ := hlb
 have HR := Lib.hid hr
 have HE := Lib.hid he
 clear hl hr he
 have HLX := Lib.hid hlx; clear hlx
 obtain ⟨iI, ji, jz0, jz1, jz2⟩ := info_parts Try.infoInt
 have JF := Lib.hid ji
 have JZ0 := Lib.hid jz0
 have JZ1 := Lib.hid jz1
 have JZ2 := Lib.hid jz2
 clear ji jz0 jz1 jz2
 obtain ⟨iB, bi, bz0, bz1, bz2⟩ := info_parts Try.infoBool
 have BF := Lib.hid bi
 have BZ0 := Lib.hid bz0
 have BZ1 := Lib.hid bz1
 have BZ2 := Lib.hid bz2
 clear bi bz0 bz1 bz2
 obtain ⟨iT, ti, tz0, tz1, tz2⟩ := info_parts Try.infoTask
 have TF := Lib.hid ti
 have TZ0 := Lib.hid tz0
 have TZ1 := Lib.hid tz1
 have TZ2 := Lib.hid tz2
 clear ti tz0 tz1 tz2
 obtain ⟨iL, li, lz0, lz1, lz2⟩ := info_parts Try.infoBools
 have LF := Lib.hid li
 have LZ0 := Lib.hid lz0
 have LZ1 := Lib.hid lz1
 have LZ2 := Lib.hid lz2
 clear li lz0 lz1 lz2
 go_enter Try.func46, Try.ntmps46
 go_upto_region 1 with fail
 generalize hw1 : w.alloc (.cells #[.int .i64 0, .int .i64 0, .int .i64 0, .slice none 0 0, .slice none 0 0, .slice none 0 0] 31) = w1
 have hE1 : Ext w w1 := by rw [← hw1]; exact (Ext.refl w).alloc _
 have HT2 : Hid (Blk w1 w.heap.size 31 #[.int .i64 0, .int .i64 0, .int .i64 0, .slice none 0 0, .slice none 0 0, .slice none 0 0] ∧ w1.heap.size = w.heap.size + 1) := by rw [← hw1]; exact ⟨Blk.new _ _ _ rfl, by simp⟩
 clear hw1
 have HE1 := Lib.hid hE1
 obtain ⟨B, hB⟩ : ∃ B, B = w1.heap.size := ⟨_, rfl⟩
 obtain ⟨gd, hgd⟩ : ∃ gd, gd = w1.heap.size := ⟨_, rfl⟩
 have HB := Lib.hid hB
 have HGD := Lib.hid hgd
 have hd1 : DrawAt B (w1.alloc (.cells #[.slice none 0 0, .int .i64 0] 104)) gd := ⟨by omega, _, 0, [], Blk.new _ _ _ hgd, Ints.nil _ _, by simp, by simp⟩
 have HD1 := Lib.hid hd1
 clear hd1 hE1
 go_upto_if 20 with fail
 rw [← hgd]
 go_cut [] (fun wx => Hid (Ext w1 wx ∧ DrawAt B wx gd))
 case first =>
  by_cases hz : ls.length = 0
  ·have hgz : decide ((0 : Int) < (ls.length : Int)) = false := by rw [hz]; rfl
   have hgz2 : decide (0 < ls.length) = false := by rw [hz]; rfl
   have hgz3 : ¬ (0 < ls.length) := by omega
   have HZ := Lib.hid hz
   clear hz
   go_wp2_with fail
   go_meet
   exact ⟨(Ext.refl _).alloc _, HD1.out⟩
  ·have hp : 0 < ls.length := by omega
   have hgz : decide ((0 : Int) < (ls.length : Int)) = true := decide_eq_true (by omega)
   have hgz2 : decide (0 < ls.length) = true := decide_eq_true hp
   obtain ⟨b0, o0, u0, rfl, hok0, hc0, hu0⟩ := eachAt HR.out HE.out hp hp
   have HU := Lib.hid hu0
   obtain ⟨A0, c0, rfl, hc00, -⟩ := hu0
   rw [Nat.add_zero] at hc0
   have q0 := Ext.rule hc0
   have hx0 : Ext w (w1.alloc (.cells #[.slice none 0 0, .int .i64 0] 104)) := HE1.out.alloc _
   clear hz hc0
   go_wp2_with fail
   go_meet
   have h1 := hx0
   refine ⟨(Ext.refl _).alloc _, by omega, _, 0, ls[0], Blk.new _ _ _ hgd, ?_, HLX.out _ (List.getElem_mem hp), Nat.zero_le _⟩
   exact (Ints.below HU.out (HE1.out.alloc _)).weaken fun b hb => by have := hb.2; have := HT2.out.2; omega
 case rest =>
  have hB1 : B ≤ w1.heap.size := by omega
  clear hB hgd
  obtain ⟨hx2, hd2⟩ := hcut.out
  have HD2 := Lib.hid hd2
  clear hcut hd2
  go_wp2_with fail
  refine (drawE_calls 3 HD2.out (by omega) (by omega)).mono ?_
  rintro e w3 ⟨x, rfl, hxa, hxb, hd3, hg3⟩
  have hx3 : Ext w1 w3 := Below.grown hx2 hg3 hx2.size (fun k hk => by injection hk with hk; have := HGD.out; omega)
  have HD3 := Lib.hid hd3
  clear hd3 hg3 hx2
  go_wp2_with fail
  refine (drawE_calls 4 HD3.out (by omega) (by omega)).mono ?_
  rintro e w4 ⟨y, rfl, hya, hyb, hd4, hg4⟩
  have hx4 : Ext w1 w4 := Below.grown hx3 hg4 hx3.size (fun k hk => by injection hk with hk; have := HGD.out; omega)
  have HD4 := Lib.hid hd4
  clear hd4 hg4 hx3
  go_wp2_with fail
  refine (drawE_calls 2 HD4.out (by omega) (by omega)).mono ?_
  rintro e w5 ⟨z, rfl, hza, hzb, hd5, hg5⟩
  have hx5 : Ext w1 w5 := Below.grown hx4 hg5 hx4.size (fun k hk => by injection hk with hk; have := HGD.out; omega)
  have HD5 := Lib.hid hd5
  clear hd5 hg5 hx4
  have HM0 : Hid (Blk (w5.alloc (.cells #[.int .i64 (2 + x), .int .i64 (1 + y), .int .i64 (1 + z), .slice none 0 0, .slice none 0 0, .slice none 0 0] 31)) w5.heap.size 31 #[.int .i64 (2 + x), .int .i64 (1 + y), .int .i64 (1 + z), .slice none 0 0, .slice none 0 0, .slice none 0 0]) := Blk.new _ _ _ rfl
  obtain ⟨gm, hgm⟩ : ∃ gm, gm = w5.heap.size := ⟨_, rfl⟩
  rw [← hgm] at HM0
  have HGM := Lib.hid hgm
  have HE0 := Lib.hid hx5
  go_upto_if 39 with fail
  rw [← hgm]
  clear hgm
  go_cut [] (fun wx => Hid (Ext w1 wx ∧ DrawAt B wx gd ∧ ∃ W H L : Int, (2 ≤ W ∧ W ≤ 4) ∧ (1 ≤ H ∧ H ≤ 4) ∧ (L = 1 ∨ (L = 2 ∧ W ≤ 3 ∧ H ≤ 2)) ∧ Blk wx gm 31 #[.int .i64 W, .int .i64 H, .int .i64 L, .slice none 0 0, .slice none 0 0, .slice none 0 0]))
  case first =>
   have hbm := HM0.out
   generalize hw6 : w5.alloc (.cells #[.int .i64 (2 + x), .int .i64 (1 + y), .int .i64 (1 + z), .slice none 0 0, .slice none 0 0, .slice none 0 0] 31) = w6 at *
   have hx6 : Ext w1 w6 := by rw [← hw6]; exact hx5.alloc _
   have HD6 : Hid (DrawAt B w6 gd) := by rw [← hw6]; exact HD5.out.ext ((Ext.refl _).alloc _) (Nat.le_trans hB1 hx5.size)
   clear hw6
   have m0 : w6.cell? ⟨gm, 0, none⟩ = some (.int .i64 (2 + x)) := hbm.cell (k := 0) rfl
   have m1 : w6.cell? ⟨gm, 1, none⟩ = some (.int .i64 (1 + y)) := hbm.cell (k := 1) rfl
   have m2 : w6.cell? ⟨gm, 2, none⟩ = some (.int .i64 (1 + z)) := hbm.cell (k := 2) rfl
   have hf := fun k => hbm.frozen k
   have HBM := Lib.hid hbm
   clear hbm
   by_cases hz1 : z = 1
   ·have ht : ((1 + z : Int) == 2) = true := by rw [beq_iff_eq]; omega
    have ht2 : decide (1 + z = 2) = true := decide_eq_true (by omega)
    have ht3 : (z == 1) = true := by rw [beq_iff_eq]; exact hz1
    have HZ1 := Lib.hid hz1
    clear hz1
    go_wp2_with fail
    go_meet
    have hgB : B ≤ gm := by have := HGM.out; have := hx5.size; omega
    have hgw : w1.heap.size ≤ gm := by have := HGM.out; have := hx5.size; omega
    have hdr := HD6.out
    refine ⟨(hx6.setCell (p := ⟨gm, 0, none⟩) hgw _).setCell (p := ⟨gm, 1, none⟩) hgw _, ?_, min (2 + x) 3, min (1 + y) 2, 1 + z, by omega, by omega, .inr ⟨by have := HZ1.out; omega, by omega, by omega⟩, ?_⟩
    ·obtain ⟨cs, hb⟩ := hdr.blk
     have hne : gd ≠ gm := Blk.ne_ hb (HBM.out) (by decide)
     exact hdr.keep (((Below.refl B w6).setCell (p := ⟨gm, 0, none⟩) hgB _).setCell (p := ⟨gm, 1, none⟩) hgB _) ((Below.heap_setCell _ ⟨gm, 1, none⟩ _ gd hne).trans (Below.heap_setCell _ ⟨gm, 0, none⟩ _ gd hne))
    ·exact ((HBM.out).set (k := 0) _).set (k := 1) _
   ·have ht : ((1 + z : Int) == 2) = false := by rw [beq_eq_false_iff_ne]; omega
    have ht2 : decide (1 + z = 2) = false := decide_eq_false (by omega)
    have ht3 : (z == 1) = false := by rw [beq_eq_false_iff_ne]; exact hz1
    have hz0 : Hid (1 + z = 1) := by show _ = _; omega
    clear hz1
    go_wp2_with fail
    go_meet
    exact ⟨hx6, HD6.out, 2 + x, 1 + y, 1 + z, by omega, by omega, .inl hz0.out, HBM.out⟩
  case rest =>
   obtain ⟨hx7, hd7, W, H, L, hW, hH, hL, hM7⟩ := hcut.out
   clear hcut
   have hdim := dims hW hH hL
   have HWHL : Hid ((2 ≤ W ∧ W ≤ 4) ∧ (1 ≤ H ∧ H ≤ 4) ∧ (L = 1 ∨ (L = 2 ∧ W ≤ 3 ∧ H ≤ 2))) := ⟨hW, hH, hL⟩
   have m0 : wc.cell? ⟨gm, 0, none⟩ = some (.int .i64 W) := hM7.cell (k := 0) rfl
   have m1 : wc.cell? ⟨gm, 1, none⟩ = some (.int .i64 H) := hM7.cell (k := 1) rfl
   have m2 : wc.cell? ⟨gm, 2, none⟩ = some (.int .i64 L) := hM7.cell (k := 2) rfl
   have m3 : wc.cell? ⟨gm, 3, none⟩ = some (.slice none 0 0) := hM7.cell (k := 3) rfl
   have m4 : wc.cell? ⟨gm, 4, none⟩ = some (.slice none 0 0) := hM7.cell (k := 4) rfl
   have m5 : wc.cell? ⟨gm, 5, none⟩ = some (.slice none 0 0) := hM7.cell (k := 5) rfl
   have HM7 := Lib.hid hM7
   have HD7 := Lib.hid hd7
   clear hM7 hd7 hW hH hL hx5
   go_wp2_with fail
   refine (qnodes_calls W H L _ _ _ _ (by omega) (by omega)).mono ?_
   rintro e w8 ⟨rfl, hb8⟩
   have hx78 : Ext wc w8 := hb8
   have hx8 : Ext w1 w8 := hx7.trans hx78
   have HD8 : Hid (DrawAt B w8 gd) := HD7.out.ext hx78 (Nat.le_trans hB1 hx7.size)
   have HM8 : Hid (Blk w8 gm 31 #[.int .i64 W, .int .i64 H, .int .i64 L, .slice none 0 0, .slice none 0 0, .slice none 0 0]) := HM7.out.ext hx78
   obtain ⟨n, hn⟩ : ∃ n : Nat, (n : Int) = W * H * L := ⟨(W * H * L).toNat, by omega⟩
   rw [← hn]
   have HN := Lib.hid hn
   have hn2 : 2 ≤ n ∧ n ≤ 16 := by omega
   clear hn hdim m0 m1 m2 m3 m4 m5 hb8 hx78 hx7
   go_wp2_with fail
   refine (drawE_calls 3 HD8.out (by omega) (by omega)).mono ?_
   rintro e w9 ⟨z9, rfl, hza9, hzb9, hd9, hg9⟩
   obtain ⟨many, hmany⟩ : ∃ many : Nat, (many : Int) = 1 + z9 := ⟨(1 + z9).toNat, by omega⟩
   have hm3 : 1 ≤ many ∧ many ≤ 3 := by omega
   have H9 : Hid (MS B w9 w9.heap.size gm gd W H L n 0 0 (.slice none 0 0) (.slice none 0 0) (.slice none 0 0) [] []) := by
    have hgB : B ≤ gm := by have := HGM.out; have := HE0.out.size; omega
    have h0 : MS B w8 w8.heap.size gm gd W H L n 0 0 (.slice none 0 0) (.slice none 0 0) (.slice none 0 0) [] [] := ⟨Nat.le_trans hB1 hx8.size, Nat.le_refl _, HM8.out, hgB, HD8.out, World.ownsRow_nil _ _ _ _, World.ownsRow_nil _ _ _ _, fun j hj => by omega, fun j hj => by omega⟩
    have h1 := h0.drawn hd9 hg9
    exact h1.ext (Ext.refl _)
   have hx9 : Ext w1 w9 := Below.grown hx8 hg9 hx8.size (fun k hk => by injection hk with hk; have := HGD.out; omega)
   have HX9 := Lib.hid hx9
   clear hd9 hg9 hx9 hx8
   go_wp2_with fail
   rw [← hmany]
   clear hmany hza9 hzb9
   go_loopg [7] many (fun gk v wr => ∃ (t : Nat) (vF vT : Value) (fs ts : List Value), v = .int .i64 t ∧ t ≤ many ∧ gk = many - t ∧ Hid (MS B wr wr.heap.size gm gd W H L n t t vF (.slice none 0 0) vT fs ts ∧ Ext w1 wr))
   case atStart => exact ⟨0, _, _, [], [], rfl, Nat.zero_le _, rfl, H9.out, HX9.out⟩
   clear H9 HX9
   case round =>
    obtain ⟨t, vF, vT, fs, ts, rfl, ht, rfl, hMS⟩ := hrel
    obtain ⟨wR, rfl⟩ : ∃ wR : World, wR = wr := ⟨_, rfl⟩
    rcases Nat.lt_or_ge t many with hlt | hge
    ·skip
     have hsR : B ≤ wR.heap.size := hMS.out.1.hB
     obtain ⟨ge, hge⟩ : ∃ ge, ge = wR.heap.size := ⟨_, rfl⟩
     have HGE := Lib.hid hge
     have HDe : Hid (DrawAt B (wR.alloc (.cells #[.slice none 0 0, .int .i64 0] 104)) ge) := ⟨by omega, _, 0, [], Blk.new _ _ _ hge, Ints.nil _ _, by simp, by simp⟩
     have HBa : Hid (Blk (wR.alloc (.cells #[.slice none 0 0, .int .i64 0] 104)) ge 104 #[.slice none 0 0, .int .i64 0]) := Blk.new _ _ _ hge
     have HEa : Hid (Ext wR (wR.alloc (.cells #[.slice none 0 0, .int .i64 0] 104))) := (Ext.refl _).alloc _
     go_upto_if 64 with fail
     rw [← hge]
     clear hge
     generalize wR.alloc (.cells #[.slice none 0 0, .int .i64 0] 104) = wa at *
     go_cut [] (fun wx => Hid (Ext wR wx ∧ DrawAt B wx ge))
     case first =>
      by_cases hz : t + 1 < ls.length
      ·have hgz : decide ((t : Int) + 1 < (ls.length : Int)) = true := decide_eq_true (by omega)
       have hgz2 : decide (t + 1 < ls.length) = true := decide_eq_true hz
       have hgz3 : (t : Int) + 1 < (ls.length : Int) := by omega
       obtain ⟨b0, o0, u0, rfl, hok0, hc0, hu0⟩ := eachAt HR.out HE.out hz hz
       have HU := Lib.hid hu0
       obtain ⟨A0, c0, rfl, hc00, -⟩ := hu0
       have q0 := Ext.rule hc0
       have hwR : Ext w wR := HE1.out.trans hMS.out.2
       have hx0 : Ext w wa := hwR.trans HEa.out
       have HWR := Lib.hid hx0
       have hca : wa.cell? ⟨ge, 0, none⟩ = some (.slice none 0 0) := HBa.out.cell (k := 0) rfl
       have hfa : wa.frozen? ⟨ge, 0, none⟩ = false := HBa.out.frozen 0
       clear hc0 hwR
       go_wp2_with fail
       go_meet
       have hgR : wR.heap.size ≤ ge := by have := HGE.out; omega
       have hgW : w.heap.size ≤ ge := by have := HGE.out; have := (Below.size (HE1.out.trans hMS.out.2)); omega
       refine ⟨HEa.out.setCell (p := ⟨ge, 0, none⟩) hgR _, by have := HGE.out; omega, _, 0, ls[t + 1], HBa.out.set (k := 0) _, ?_, HLX.out _ (List.getElem_mem hz), Nat.zero_le _⟩
       exact (Ints.keep HU.out (Same.of_below (HWR.out.setCell (p := ⟨ge, 0, none⟩) hgW _))).weaken fun b hb => by have := hb.2; have := HT2.out.2; have := HB.out; omega
      ·have hgz : decide ((t : Int) + 1 < (ls.length : Int)) = false := decide_eq_false (by omega)
       have hgz2 : decide (t + 1 < ls.length) = false := decide_eq_false hz
       have hgz3 : ¬ (t : Int) + 1 < (ls.length : Int) := by omega
       have HZ := Lib.hid hz
       clear hz
       go_wp2_with fail
       go_meet
       exact ⟨HEa.out, HDe.out⟩
     case rest =>
      obtain ⟨hxe, hde⟩ := hcut.out
      have HXE := Lib.hid hxe
      have HDE := Lib.hid hde
      clear hcut hde HDe
      obtain ⟨w6, rfl⟩ : ∃ w6 : World, w6 = wc := ⟨_, rfl⟩
      have hB0 : B ≤ w6.heap.size := Nat.le_trans hsR hxe.size
      have hl0 : ge < w6.heap.size := HDE.out.lt
      have ht3 : t < 3 := by omega
      have ht30 : (t : Int) < 3 := by omega
      have ht31 : (0 : Int) ≤ (t : Int) := by omega
      clear hxe
      go_wp2_with fail
      refine r16_wp HDE hB0 hl0 ht3 ht30 ht31 hn2 ?hQ16
      case hQ16 =>
       intro v W hJ _
       obtain ⟨s, g7, g11, gt, x1, x2, hv3, hv7, hv11, hv13, hR1⟩ := hJ.fin hsR HXE.out.size (by have := HGE.out; omega)
       have hEW : Ext wR W := Below.grown HXE.out hJ.gb HXE.out.size (fun k hk => by injection hk with hk; have := HGE.out; omega)
       have HR1 := Lib.hid hR1
       have HEW := Lib.hid hEW
       clear hJ hR1 hEW hv3 hv7 hv11
       rw [hv13]
       clear hv13
       go_wp2_with fail
       refine (drawE_calls 3 HR1.out.dr (by omega) (by omega)).mono ?_
       rintro e wb ⟨z, rfl, hz0, hz3, hdb, hgb⟩
       have HR1b := Lib.hid (HR1.out.drawn hdb hgb)
       have HEWb := Lib.hid (HR1.out.drawnExt HEW.out hgb)
       clear hdb hgb HR1 HEW
       go_upto_if 88 with fail
       go_cut [] (fun wx => ∃ (u1 : Value) (l1 : List Int), Hid (R1 B wx wR.heap.size ge gt n s u1 (.slice (some ⟨g11, 0, none⟩) 1 1) l1 [x2] ∧ Ext wR wx ∧ l1.length ≤ 2))
       case first =>
        by_cases hz : z = 0
        ·have hzz : (z == 0) = true := by rw [beq_iff_eq]; exact hz
         have HZ := Lib.hid hz
         clear hz
         go_wp2_with fail
         refine r18_wp HR1b HEWb hn2 (fun c a a' W he h => (show a'.defers = [] ∧ MadePost w (.panicked c) W from ⟨he ▸ (show a.defers = [] ∧ MadePost w (.panicked c) W from h).1, (show a.defers = [] ∧ MadePost w (.panicked c) W from h).2⟩)) (fun u1 l1 W h9 x89 x90 x91 x92 x93 x94 x95 x96 => ?_)
         go_wp2_with fail
         go_meet
         exact ⟨_, _, h9⟩
        ·have hzz : (z == 0) = false := by rw [beq_eq_false_iff_ne]; exact hz
         have HZ := Lib.hid hz
         clear hz
         go_wp2_with fail
         go_meet
         exact ⟨_, [x1], HR1b.out, HEWb.out, by simp⟩
       case rest =>
        obtain ⟨u1, l1, hq1⟩ := hcut
        have HR2 := Lib.hid hq1.out.1
        have HE2 := Lib.hid hq1.out.2.1
        have HL1 := Lib.hid hq1.out.2.2
        clear hq1
        go_wp2_with fail
        refine (drawE_calls 3 HR2.out.dr (by omega) (by omega)).mono ?_
        rintro e wq ⟨zz, rfl, hzz0, hzz3, hdq, hgq⟩
        have HR2b := Lib.hid (HR2.out.drawn hdq hgq)
        have HE2b := Lib.hid (HR2.out.drawnExt HE2.out hgq)
        clear hdq hgq HR2 HE2 HR1b HEWb
        go_upto_if 99 with fail
        go_cut [] (fun wx => ∃ (u2 : Value) (l2 : List Int), Hid (R1 B wx wR.heap.size ge gt n s u1 u2 l1 l2 ∧ Ext wR wx ∧ l2.length ≤ 2))
        case first =>
         by_cases hz : zz = 0
         ·have hzz : (zz == 0) = true := by rw [beq_iff_eq]; exact hz
          have HZ := Lib.hid hz
          clear hz
          go_wp2_with fail
          refine r20_wp HR2b HE2b hn2 (fun c a a' W he h => (show a'.defers = [] ∧ MadePost w (.panicked c) W from ⟨he ▸ (show a.defers = [] ∧ MadePost w (.panicked c) W from h).1, (show a.defers = [] ∧ MadePost w (.panicked c) W from h).2⟩)) (fun u2 l2 W h9 x100 x101 x102 x103 x104 x105 x106 x107 => ?_)
          go_wp2_with fail
          go_meet
          exact ⟨_, _, h9⟩
         ·have hzz : (zz == 0) = false := by rw [beq_eq_false_iff_ne]; exact hz
          have HZ := Lib.hid hz
          clear hz
          go_wp2_with fail
          go_meet
          exact ⟨_, [x2], HR2b.out, HE2b.out, by simp⟩
        case rest =>
         obtain ⟨u2, l2, hq2⟩ := hcut
         have HR3 := Lib.hid hq2.out.1
         have HE3 := Lib.hid hq2.out.2.1
         have HL2 := Lib.hid hq2.out.2.2
         obtain ⟨w7, rfl⟩ : ∃ w7 : World, w7 = wc := ⟨_, rfl⟩
         have H70 : Hid (OwnB w7 w7.heap.size (.slice none 0 0) []) := World.ownsRow_nil _ _ _ _
         clear hq2 HR2b HE2b
         go_wp2_with fail
         go_loopg [10, 11] n (fun gk vf v wr => ∃ (k : Nat) (lf : List Bool), v = .int .i64 k ∧ k ≤ n ∧ gk = n - k ∧ lf.length = k ∧ Hid (R1 B wr wR.heap.size ge gt n s u1 u2 l1 l2 ∧ Ext wR wr ∧ OwnB wr w7.heap.size vf lf ∧ w7.heap.size ≤ wr.heap.size))
         case atStart => exact ⟨0, [], rfl, Nat.zero_le _, rfl, rfl, HR3.out, HE3.out, H70.out, Nat.le_refl _⟩
         clear H70
         case round =>
          obtain ⟨k, lf, rfl, hk, rfl, hlf, hQ⟩ := hrel
          have HSS := Lib.hid HE3.out.size
          have HLF := Lib.hid hlf
          have hlf16 : lf.length ≤ 16 := by omega
          clear hlf
          rcases Nat.lt_or_ge k n with hlt2 | hge2
          ·skip
           go_wp2_with fail
           refine (drawE_calls 6 hQ.out.1.dr (by omega) (by omega)).mono ?_
           rintro e wd ⟨x, rfl, hx0, hx6, hdd, hgdd⟩
           have HRd := Lib.hid (hQ.out.1.drawn hdd hgdd)
           have HEd := Lib.hid (hQ.out.1.drawnExt hQ.out.2.1 hgdd)
           have HOd : Hid (OwnB wd w7.heap.size u10 lf) := own_keep hQ.out.2.2.1 fun g hg => hgdd.block g (World.ownsRow.lt hQ.out.2.2.1 g hg).2 (fun e => by
            obtain ⟨cs, hb⟩ := hQ.out.1.dr.blk
            injection e with e
            subst e
            exact own_blk_ne hQ.out.2.2.1 hb (by decide) hg)
           have hmono : w7.heap.size ≤ wd.heap.size := Nat.le_trans hQ.out.2.2.2 hgdd.size
           clear hdd hgdd
           obtain ⟨Af, cf, rfl, hcf, -⟩ := HOd.out.bools
           have hk0 : (0 : Int) ≤ (k : Int) := by omega
           have hct1 : wd.cell? ⟨gt, 1, none⟩ = some u1 := HRd.out.tk.cell (k := 1) rfl
           have hct2 : wd.cell? ⟨gt, 2, none⟩ = some u2 := HRd.out.tk.cell (k := 2) rfl
           by_cases hx : 0 < x
           ·have hxd : decide (0 < x) = true := decide_eq_true hx
            go_wp2_with (at_builtin; refine wpList_append_own_at _ rfl _ _ 28 rfl w7.heap.size 4 iB (.bool false) 1 1 Try.underlying28 BF.out BZ0.out BZ1.out BZ2.out rfl (by decide) (.slice Af lf.length cf) lf.length _ rfl (World.ownsRow.alloc HOd.out _) ⟨wd.heap.size, 0, none⟩ 1 1 [.bool true] rfl rfl (cell_one_new _ _ _) (by simp [Value.oneCell']) (by unfold maxLen; omega) (by omega) (by simp; omega) ?_)
            intro v' w9 hown hg _ hv'
            obtain ⟨hr9, hb9⟩ := HRd.out.grownB HOd.out HSS.out hg
            have HR9 := Lib.hid hr9
            have HE9 : Hid (Ext wR w9) := Below.trans HEd.out hb9
            have HZ9 : Hid (w7.heap.size ≤ w9.heap.size) := by have := hg.size; simp at this; show _ ≤ _; omega
            have HO9 : Hid (OwnB w9 w7.heap.size v' (lf ++ [true])) := OwnB.app hown
            clear hr9 hb9 hown hg hv'
            go_wp2_with fail
            go_roundg (n - (k + 1))
            case measure => omega
            case rel => exact ⟨k + 1, lf ++ [true], by go_num, hlt2, rfl, by have := HLF.out; simp; omega, HR9.out, HE9.out, HO9.out, HZ9.out⟩
           ·have hxd : decide (0 < x) = false := decide_eq_false hx
            go_wp2_with fail
            refine (has_calls (k : Int) wd (Row.of_own HRd.out.o1) (by have := HL1.out; omega)).mono ?_
            rintro e w' ⟨rfl, rfl⟩
            generalize decide ((k : Int) ∈ l1) = b1
            cases b1 with
            | true =>
             go_wp2_with (at_builtin; refine wpList_append_own_at _ rfl _ _ 28 rfl w7.heap.size 4 iB (.bool false) 1 1 Try.underlying28 BF.out BZ0.out BZ1.out BZ2.out rfl (by decide) (.slice Af lf.length cf) lf.length _ rfl (World.ownsRow.alloc HOd.out _) ⟨wd.heap.size, 0, none⟩ 1 1 [.bool true] rfl rfl (cell_one_new _ _ _) (by simp [Value.oneCell']) (by unfold maxLen; omega) (by omega) (by simp; omega) ?_)
             intro v' w9 hown hg _ hv'
             obtain ⟨hr9, hb9⟩ := HRd.out.grownB HOd.out HSS.out hg
             have HR9 := Lib.hid hr9
             have HE9 : Hid (Ext wR w9) := Below.trans HEd.out hb9
             have HZ9 : Hid (w7.heap.size ≤ w9.heap.size) := by have := hg.size; simp at this; show _ ≤ _; omega
             have HO9 : Hid (OwnB w9 w7.heap.size v' (lf ++ [true])) := OwnB.app hown
             clear hr9 hb9 hown hg hv'
             go_wp2_with fail
             go_roundg (n - (k + 1))
             case measure => omega
             case rel => exact ⟨k + 1, lf ++ [true], by go_num, hlt2, rfl, by have := HLF.out; simp; omega, HR9.out, HE9.out, HO9.out, HZ9.out⟩
            | false =>
             go_wp2_with fail
             refine (has_calls (k : Int) wd (Row.of_own HRd.out.o2) (by have := HL2.out; omega)).mono ?_
             rintro e w' ⟨rfl, rfl⟩
             generalize decide ((k : Int) ∈ l2) = b2
             go_wp2_with (at_builtin; refine wpList_append_own_at _ rfl _ _ 28 rfl w7.heap.size 4 iB (.bool false) 1 1 Try.underlying28 BF.out BZ0.out BZ1.out BZ2.out rfl (by decide) (.slice Af lf.length cf) lf.length _ rfl (World.ownsRow.alloc HOd.out _) ⟨wd.heap.size, 0, none⟩ 1 1 [.bool b2] rfl rfl (cell_one_new _ _ _) (by simp [Value.oneCell']) (by unfold maxLen; omega) (by omega) (by simp; omega) ?_)
             intro v' w9 hown hg _ hv'
             obtain ⟨hr9, hb9⟩ := HRd.out.grownB HOd.out HSS.out hg
             have HR9 := Lib.hid hr9
             have HE9 : Hid (Ext wR w9) := Below.trans HEd.out hb9
             have HZ9 : Hid (w7.heap.size ≤ w9.heap.size) := by have := hg.size; simp at this; show _ ≤ _; omega
             have HO9 : Hid (OwnB w9 w7.heap.size v' (lf ++ [b2])) := OwnB.app hown
             clear hr9 hb9 hown hg hv'
             go_wp2_with fail
             go_roundg (n - (k + 1))
             case measure => omega
             case rel => exact ⟨k + 1, lf ++ [b2], by go_num, hlt2, rfl, by have := HLF.out; simp; omega, HR9.out, HE9.out, HO9.out, HZ9.out⟩
          ·skip
           have hkn : k = n := by omega
           have HKN := Lib.hid hkn
           have hkd1 : decide (k < n) = false := decide_eq_false (by omega)
           have hkd2 : decide ((k : Int) < (n : Int)) = false := decide_eq_false (by omega)
           have hkd3 : ¬ k < n := by omega
           clear hkn hge2
           have hMr := hMS.out.1.ext hQ.out.2.1
           have m5 : wr.cell? ⟨gm, 5, none⟩ = some vT := hMr.mz.cell (k := 5) rfl
           have hf := fun j => hMr.mz.frozen j
           have hfm : ∀ j, wr.frozen? ⟨gm, j, none⟩ = false := hf
           obtain ⟨A1, c1, rfl, -⟩ := own_slice hQ.out.1.o1
           obtain ⟨A2, c2, rfl, -⟩ := own_slice hQ.out.1.o2
           have t0 : wr.cell? ⟨gt, 0, none⟩ = some (.string s) := hQ.out.1.tk.cell (k := 0) rfl
           have t1 : wr.cell? ⟨gt, 1, none⟩ = some (.slice A1 l1.length c1) := hQ.out.1.tk.cell (k := 1) rfl
           have t2 : wr.cell? ⟨gt, 2, none⟩ = some (.slice A2 l2.length c2) := hQ.out.1.tk.cell (k := 2) rfl
           have HMr := Lib.hid hMr
           clear hMr hf
           go_wp2_with (at_builtin; refine wpList_append_own_at _ rfl _ _ 29 rfl B 75 iT (.agg #[.string ⟨#[]⟩, .slice none 0 0, .slice none 0 0]) 3 64 Try.underlying29 TF.out TZ0.out TZ1.out TZ2.out rfl (by decide) vT t _ rfl (HMr.out.T.alloc _) ⟨wr.heap.size, 0, none⟩ 1 1 [.string s, .slice A1 l1.length c1, .slice A2 l2.length c2] rfl rfl (cells3n _ _ _ _ _) (by simp [Value.oneCell']) (by unfold maxLen; omega) (by omega) (by have := HMr.out.hB; simp; omega) ?_)
           intro v' w9 hown hg _ hv'
           obtain ⟨gv, cv, rfl, -, -⟩ := World.ownsRow.form hown (by omega)
           obtain ⟨hM1, hO1, hb1⟩ := HMr.out.end1 hQ.out.1 HL1.out HL2.out hQ.out.2.2.1 hown hg
           have hblk9 : w9.heap[gm]? = wr.heap[gm]? := (hg.block gm (by have := lt_of_some HMr.out.mz; simp; omega) (fun e => own_blk_ne HMr.out.T HMr.out.mz (by decide) e.symm)).trans (Below.heap_alloc _ _ _ (lt_of_some HMr.out.mz))
           have hc9 : w9.cell? ⟨gm, 5, none⟩ = some vT := (World.cell?_of_block (a := ⟨gm, 5, none⟩) hblk9).trans m5
           have hf9 : w9.frozen? ⟨gm, 5, none⟩ = false := (World.frozen?_of_block (a := ⟨gm, 5, none⟩) hblk9).trans (hfm 5)
           have HM1 := Lib.hid hM1
           have HO1 := Lib.hid hO1
           have HE1' : Hid (Ext w1 (w9.setCell ⟨gm, 5, none⟩ (.slice (some ⟨gv, 0, none⟩) (t + 1) cv))) := Below.trans (Ext.trans hMS.out.2 hQ.out.2.1) (HB.out ▸ hb1)
           clear hM1 hO1 hb1 hown hg hv' hblk9 m5 hfm t0 t1 t2
           go_upto_region 27 with fail
           clear hc9 hf9
           generalize w9.setCell ⟨gm, 5, none⟩ (.slice (some ⟨gv, 0, none⟩) (t + 1) cv) = wv at *
           obtain ⟨Af, cf, rfl, -, -⟩ := HO1.out.bools
           have m3 : wv.cell? ⟨gm, 3, none⟩ = some vF := HM1.out.mz.cell (k := 3) rfl
           have hfm : ∀ j, wv.frozen? ⟨gm, j, none⟩ = false := fun j => HM1.out.mz.frozen j
           have HLT : Hid (∀ g, (Value.slice Af lf.length cf).ownBlock = some g → g < wr.heap.size) := fun g hg => (World.ownsRow.lt hQ.out.2.2.1 g hg).2
           go_wp2_with (at_builtin; refine wpList_append_own_at _ rfl _ _ 27 rfl B 28 iL (.slice none 0 0) 1 24 Try.underlying27 LF.out LZ0.out LZ1.out LZ2.out rfl (by decide) vF t _ rfl (HM1.out.F.alloc _) ⟨wv.heap.size, 0, none⟩ 1 1 [.slice Af lf.length cf] rfl rfl (cell_one_new _ _ _) (by simp [Value.oneCell']) (by unfold maxLen; omega) (by omega) (by have := HM1.out.hB; simp; omega) ?_)
           intro v2 w9 hown hg _ hv'
           obtain ⟨gv2, cv2, rfl, -, -⟩ := World.ownsRow.form hown (by omega)
           obtain ⟨hM2, hb2⟩ := HM1.out.end2 HO1.out (HLF.out.trans HKN.out) (Nat.le_trans hsR HSS.out) HLT.out hown hg
           have hblk9 : w9.heap[gm]? = wv.heap[gm]? := (hg.block gm (by have := lt_of_some HM1.out.mz; simp; omega) (fun e => own_blk_ne HM1.out.F HM1.out.mz (by decide) e.symm)).trans (Below.heap_alloc _ _ _ (lt_of_some HM1.out.mz))
           have hc9 : w9.cell? ⟨gm, 3, none⟩ = some vF := (World.cell?_of_block (a := ⟨gm, 3, none⟩) hblk9).trans m3
           have hf9 : w9.frozen? ⟨gm, 3, none⟩ = false := (World.frozen?_of_block (a := ⟨gm, 3, none⟩) hblk9).trans (hfm 3)
           have HM2 := Lib.hid hM2
           have HE2' : Hid (Ext w1 (w9.setCell ⟨gm, 3, none⟩ (.slice (some ⟨gv2, 0, none⟩) (t + 1) cv2))) := Below.trans HE1'.out (HB.out ▸ hb2)
           clear hM2 hb2 hown hg hv' hblk9 m3 hfm
           go_wp2_with fail
           go_roundg (many - (t + 1))
           case measure => omega
           case rel => exact ⟨t + 1, _, _, _, _, by go_num, hlt, rfl, HM2.out, HE2'.out⟩
    ·skip
     have htm : t = many := by omega
     subst htm
     have htd1 : decide (t < t) = false := decide_eq_false (by omega)
     have h1t : 0 < t := by omega
     obtain ⟨gT, cT, rfl, hgTB, -⟩ := World.ownsRow.form hMS.out.1.T h1t
     obtain ⟨gF, cF, rfl, hgFB, -⟩ := World.ownsRow.form hMS.out.1.F h1t
     have HcT := Lib.hid (own_cap hMS.out.1.T)
     have HcF := Lib.hid (own_cap hMS.out.1.F)
     clear hge
     have hM3 := Lib.hid (hMS.out.1)
     have hX3 := Lib.hid (hMS.out.2)
     clear hMS
     go_wp2_with fail
     have hMX : Hid (MS B wR wR.heap.size gm gd W H L n t t (.slice (some ⟨gF, 0, none⟩) t cF) (.slice none 0 0) (.slice (some ⟨gT, 0, none⟩) t cT) fs ts ∧ Ext w1 wR) := ⟨hM3.out, hX3.out⟩
     clear hM3 hX3
     refine loop12_wp HB hgTB hgFB HcT HcF hn2 hm3 hMX (fun c a a' W he h => (show a'.defers = [] ∧ MadePost w (.panicked c) W from ⟨he ▸ (show a.defers = [] ∧ MadePost w (.panicked c) W from h).1, (show a.defers = [] ∧ MadePost w (.panicked c) W from h).2⟩)) (fun wA hA x13 x14 x143 x144 x145 x146 x147 x148 x149 x150 x151 x152 x153 x154 x155 x156 x157 x158 x159 x160 x161 x162 x163 x164 x165 x166 x167 x168 x169 x170 x171 x172 x173 x174 x175 x176 x177 x178 x179 x180 x181 x182 x183 x184 x185 x186 x187 x188 x189 x190 x191 x192 x193 x194 x195 x196 x197 x198 x199 x200 x201 x202 x203 x204 x205 => ?_)
     clear hMX
     obtain ⟨a, ha9⟩ : ∃ a, a = t := ⟨_, rfl⟩
     subst ha9
     go_wp2_with fail
     have hA0 := hA.out
     obtain ⟨S, hS⟩ : ∃ S, S = wA.heap.size := ⟨_, rfl⟩
     have HQ0 : Hid (RU w1 B wA S gm gd W H L n a a (.slice (some ⟨gF, 0, none⟩) a cF) (.slice none 0 0) (.slice (some ⟨gT, 0, none⟩) a cT) fs ts []) := ⟨HB.out, hS ▸ hA0.1.hB, hS ▸ hA0.1, World.ownsRow_nil _ _ _ _, hA0.2⟩
     clear hA0 hS hA
     go_loopg [15] n (fun gk v wr => ∃ (i : Nat) (vU : Value) (us : List Bool), v = .int .i64 i ∧ i ≤ n ∧ gk = n - i ∧ us.length = i ∧ Hid (RU w1 B wr S gm gd W H L n a a (.slice (some ⟨gF, 0, none⟩) a cF) vU (.slice (some ⟨gT, 0, none⟩) a cT) fs ts us))
     case atStart => exact ⟨0, _, [], rfl, Nat.zero_le _, rfl, rfl, HQ0.out⟩
     clear HQ0
     case round =>
      obtain ⟨i, vU, us, rfl, hi, rfl, hul, hQ⟩ := hrel
      obtain ⟨wU, rfl⟩ : ∃ wU : World, wU = wr := ⟨_, rfl⟩
      rcases Nat.lt_or_ge i n with hin | hin
      ·have hid1 : decide (i < n) = true := decide_eq_true hin
       have hid2 : decide ((i : Int) < (n : Int)) = true := decide_eq_true (by omega)
       have HEU : Hid (Ext w1 wU) := hQ.out.ex
       have hul2 : us.length ≤ 16 := by omega
       have HUL := Lib.hid hul
       clear hul
       go_upto_region 42 with fail
       refine r42_wp hQ hul2 (fun c a a' W he h => (show a'.defers = [] ∧ MadePost w (.panicked c) W from ⟨he ▸ (show a.defers = [] ∧ MadePost w (.panicked c) W from h).1, (show a.defers = [] ∧ MadePost w (.panicked c) W from h).2⟩)) (fun vU' x w2 h9 x211 x212 x213 x214 x215 x216 x217 x218 => ?_)
       have HQ9 := Lib.hid h9
       clear h9
       go_wp2_with fail
       go_roundg (n - (i + 1))
       case measure => omega
       case rel => exact ⟨i + 1, _, _, by go_num, hin, rfl, by rw [List.length_append, HUL.out]; rfl, HQ9.out⟩
      ·have hid1 : decide (i < n) = false := decide_eq_false (by omega)
       have hid2 : decide ((i : Int) < (n : Int)) = false := decide_eq_false (by omega)
       have hux : us.length = n := by omega
       obtain ⟨Au, cu, hvU, -, -⟩ := OwnB.bools hQ.out.ow
       rw [hul] at hvU
       subst hvU
       have hwhl := HWHL.out
       obtain ⟨mm, hmz, hMM⟩ := RU.maze hQ.out hwhl.1 hwhl.2.1 hwhl.2.2 HN.out hm3 hux
       have HMZ := Lib.hid hmz
       have HMM := Lib.hid hMM
       have hBZ : Blk wU w.heap.size 31 #[.int .i64 0, .int .i64 0, .int .i64 0, .slice none 0 0, .slice none 0 0, .slice none 0 0] := HT2.out.1.ext hQ.out.ex
       have z0 : wU.cell? ⟨w.heap.size, 0, none⟩ = some (.int .i64 0) := hBZ.cell (k := 0) rfl
       have z1 : wU.cell? ⟨w.heap.size, 1, none⟩ = some (.int .i64 0) := hBZ.cell (k := 1) rfl
       have z2 : wU.cell? ⟨w.heap.size, 2, none⟩ = some (.int .i64 0) := hBZ.cell (k := 2) rfl
       have z3 : wU.cell? ⟨w.heap.size, 3, none⟩ = some (.slice none 0 0) := hBZ.cell (k := 3) rfl
       have z4 : wU.cell? ⟨w.heap.size, 4, none⟩ = some (.slice none 0 0) := hBZ.cell (k := 4) rfl
       have z5 : wU.cell? ⟨w.heap.size, 5, none⟩ = some (.slice none 0 0) := hBZ.cell (k := 5) rfl
       have hfz : ∀ j, wU.frozen? ⟨w.heap.size, j, none⟩ = false := fun j => hBZ.frozen j
       have m0 : wU.cell? ⟨gm, 0, none⟩ = some (.int .i64 W) := hQ.out.ms.mz.cell (k := 0) rfl
       have m1 : wU.cell? ⟨gm, 1, none⟩ = some (.int .i64 H) := hQ.out.ms.mz.cell (k := 1) rfl
       have m2 : wU.cell? ⟨gm, 2, none⟩ = some (.int .i64 L) := hQ.out.ms.mz.cell (k := 2) rfl
       have m3 : wU.cell? ⟨gm, 3, none⟩ = some (.slice (some ⟨gF, 0, none⟩) a cF) := hQ.out.ms.mz.cell (k := 3) rfl
       have m4 : wU.cell? ⟨gm, 4, none⟩ = some (.slice Au i cu) := hQ.out.ms.mz.cell (k := 4) rfl
       have m5 : wU.cell? ⟨gm, 5, none⟩ = some (.slice (some ⟨gT, 0, none⟩) a cT) := hQ.out.ms.mz.cell (k := 5) rfl
       have HBZ := Lib.hid hBZ
       have HEX : Hid (Ext w1 wU) := hQ.out.ex
       clear hwhl hmz hMM hBZ hux hin hQ
       go_wp2_with fail
       refine case_fin (P := fun W => bodyPost Try.prog Try.f46 (MadePost w) Exit.ret _ W) (g2 := w.heap.size) ?_ HBZ.out
       intro WZ hbz hEb hk
       have y0 : WZ.cell? ⟨w.heap.size, 0, none⟩ = some (.int .i64 W) := hbz.cell (k := 0) rfl
       have y1 : WZ.cell? ⟨w.heap.size, 1, none⟩ = some (.int .i64 H) := hbz.cell (k := 1) rfl
       have y2 : WZ.cell? ⟨w.heap.size, 2, none⟩ = some (.int .i64 L) := hbz.cell (k := 2) rfl
       have y3 : WZ.cell? ⟨w.heap.size, 3, none⟩ = some (.slice (some ⟨gF, 0, none⟩) a cF) := hbz.cell (k := 3) rfl
       have y4 : WZ.cell? ⟨w.heap.size, 4, none⟩ = some (.slice Au i cu) := hbz.cell (k := 4) rfl
       have y5 : WZ.cell? ⟨w.heap.size, 5, none⟩ = some (.slice (some ⟨gT, 0, none⟩) a cT) := hbz.cell (k := 5) rfl
       have hxw : Ext w wU := HE1.out.trans HEX.out
       have hm' := HMZ.out.keep (w' := WZ) (fun b hb hlt => hk b hlt (by have := HT2.out.2; have := HB.out; omega))
       exact bodyPost_ret (v := .agg #[.int .i64 W, .int .i64 H, .int .i64 L, .slice (some ⟨gF, 0, none⟩) a cF, .slice Au i cu, .slice (some ⟨gT, 0, none⟩) a cT]) (by simp [results, Try.results46, go_sem, y0, y1, y2, y3, y4, y5]) rfl
        ⟨_, mm, rfl, Below.trans hxw hEb, hm'.weaken (fun b hb => by have := HT2.out.2; have := HB.out; omega), HMM.out⟩
end Go.Proofs.Ytgpjfpcjiebjiaa

namespace Go.Proofs.Ytgpjfpcjiebjiaa
open Go.RowKit
set_option linter.unusedVariables false
set_option linter.unusedSimpArgs false
attribute [local go_sem ↓] Go.wp_at_zero Go.wp_at_succ

def CasePost (w : World) (e : Ending) (w' : World) : Prop :=
 ∃ v m vl l, e = .returned (.tuple #[v, vl]) ∧ Ext w w' ∧ MazeV w' (fun b => w.heap.size ≤ b) v m ∧ MadeM m ∧ Mk w w' vl l ∧ l.length ≤ 12 ∧ ∀ x ∈ l, 0 ≤ x ∧ x ≤ m.n

theorem mk_app1 {w5 w w9 : World} {v v' : Value} {l : List Int} {x : Int} {o : Obj} (h : Mk w5 w v l) (ho : w9.ownsRow w5.heap.size 3 1 v' (l.length + 1) (l.map (Value.int .i64) ++ [.int .i64 x])) (hg : (w.alloc o).grownBy w9 v.ownBlock) : Mk w5 w9 v' (l ++ [x]) := by
 refine Mk.app (h.alloc o) ?_ hg
 show World.ownsRow _ _ _ _ _ (l ++ [x]).length _
 rw [List.length_append, List.length_singleton, List.map_append]
 exact ho
theorem ran_app {m : MZ} {l : List Int} {x : Int} (h : ∀ x ∈ l, 0 ≤ x ∧ x ≤ m.n) (hn : 2 ≤ m.w * m.h * m.l) : ∀ y ∈ l ++ [x % (m.w * m.h * m.l + 1)], 0 ≤ y ∧ y ≤ m.n := by
 intro y hy
 rcases List.mem_append.1 hy with hy | hy
 ·exact h y hy
 ·rw [List.mem_singleton] at hy
  subst hy
  have h2 : m.n = m.w * m.h * m.l := rfl
  have h3 := Int.emod_nonneg x (show m.w * m.h * m.l + 1 ≠ 0 by omega)
  have h4 := Int.emod_lt_of_pos x (show 0 < m.w * m.h * m.l + 1 by omega)
  omega

set_option maxHeartbeats 4000000 in
set_option maxRecDepth 100000 in
theorem caseMade_calls {ok ok2 : Nat → Prop} {v vn : Value} {ls : List (List Int)} {ns : List Int} (o0 o1 o2 : Int) (w : World) (hl : Intss w ok v ls) (hll : ls.length ≤ 9223372036854775807) (hlx : ∀ l ∈ ls, l.length ≤ 9223372036854775807) (hn : Ints w ok2 vn ns) (hnl : ns.length ≤ 9223372036854775807) :
  Calls Try.prog 12 #[.agg #[v, .int .i64 o0, .int .i64 o1, .int .i64 o2, vn]] w (CasePost w) := by
 have HLS := Lib.hid hl
 have HNS := Lib.hid hn
 obtain ⟨vs, ⟨A, c, rfl, hc, -⟩, -⟩ := hl
 obtain ⟨A2, c2, rfl, hc2, hr2⟩ := hn
 have HR2 := Lib.hid hr2
 have HLX := Lib.hid hlx
 clear hr2 hlx
 obtain ⟨iI, ji, jz0, jz1, jz2⟩ := info_parts Try.infoInt
 have JF := Lib.hid ji
 have JZ0 := Lib.hid jz0
 have JZ1 := Lib.hid jz1
 have JZ2 := Lib.hid jz2
 clear ji jz0 jz1 jz2
 go_enter Try.func12, Try.ntmps12
 go_wp2_with fail
 obtain ⟨wa, hwa⟩ : ∃ wa, wa = w.alloc (.cells #[.slice A ls.length c, .int .i64 o0, .int .i64 o1, .int .i64 o2, .slice A2 ns.length c2] 26) := ⟨_, rfl⟩
 rw [← hwa]
 have hEa : Ext w wa := by rw [hwa]; exact (Ext.refl _).alloc _
 have hBa : Blk wa w.heap.size 26 #[.slice A ls.length c, .int .i64 o0, .int .i64 o1, .int .i64 o2, .slice A2 ns.length c2] := by rw [hwa]; exact Blk.new _ _ _ rfl
 have hza : wa.heap.size = w.heap.size + 1 := by rw [hwa]; simp
 clear hwa
 generalize hwb : wa.alloc (.cells #[.int .i64 0, .int .i64 0, .int .i64 0, .slice none 0 0, .slice none 0 0, .slice none 0 0] 31) = wb
 have hEb : Ext wa wb := by rw [← hwb]; exact (Ext.refl _).alloc _
 have hBb : Blk wb (w.heap.size + 1) 31 #[.int .i64 0, .int .i64 0, .int .i64 0, .slice none 0 0, .slice none 0 0, .slice none 0 0] := by rw [← hwb, ← hza]; exact Blk.new _ _ _ rfl
 have hzb : wb.heap.size = w.heap.size + 2 := by rw [← hwb]; simp [hza]
 clear hwb
 refine (made_calls wb (HLS.out.below (hEa.trans hEb)) hll HLX.out).mono ?_
 rintro e w3 ⟨v3, m, rfl, hE3, hm3, hMM⟩
 have HM3 := Lib.hid hm3
 obtain ⟨vfr, vup, vts, rfl, ⟨_, ⟨Af, cf, rfl, -⟩, -⟩, ⟨Au, cu, rfl, -⟩, ⟨_, ⟨At, ct, rfl, -⟩, -⟩⟩ := hm3
 have HMM := Lib.hid hMM; clear hMM
 have HB2 := Lib.hid (hBb.ext hE3)
 have HE0 := Lib.hid ((hEa.trans hEb).trans hE3)
 have HZB := Lib.hid hzb
 have HS3 := Lib.hid hE3.size
 have rn : ∀ W, Ext wa W → W.cell? ⟨w.heap.size, 4, none⟩ = some (.slice A2 ns.length c2) := Ext.rule (hBa.cell (k := 4) rfl)
 have hEa3 : Ext wa w3 := hEb.trans hE3
 clear hBa hBb hEa hEb hza hzb hE3
 go_wp2_with fail
 obtain ⟨gm, hgm⟩ : ∃ gm, gm = w3.heap.size := ⟨_, rfl⟩
 rw [← hgm]
 generalize hw5 : w3.alloc (.cells #[.int .i64 m.w, .int .i64 m.h, .int .i64 m.l, .slice Af m.free.length cf, .slice Au m.up.length cu, .slice At m.tasks.length ct] 31) = w5
 have hE5 : Ext w3 w5 := by rw [← hw5]; exact (Ext.refl _).alloc _
 have hBm : Blk w5 gm 31 #[.int .i64 m.w, .int .i64 m.h, .int .i64 m.l, .slice Af m.free.length cf, .slice Au m.up.length cu, .slice At m.tasks.length ct] := by rw [← hw5, hgm]; exact Blk.new _ _ _ rfl
 clear hw5 hgm
 obtain ⟨m0, m1, m2, m3, m4, m5⟩ := cells6 hBm
 have q0 := Ext.rule m0
 have q1 := Ext.rule m1
 have q2 := Ext.rule m2
 have q3 := Ext.rule m3
 have q4 := Ext.rule m4
 have q5 := Ext.rule m5
 clear m0 m1 m2 m3 m4 m5 hBm
 have HE5 := Lib.hid hE5
 have hEa5 : Ext wa w5 := hEa3.trans hE5
 have hdimW := HMM.out.w
 have hdimn := HMM.out.n
 have hdimWH : 2 ≤ m.w * m.h ∧ m.w * m.h ≤ 16 := by
  have h1 := HMM.out.good.dim.layer
  have h2 : m.n = m.w * m.h * m.l := rfl
  have h3 := Int.mul_le_mul_of_nonneg_left HMM.out.h.1 (show 0 ≤ m.w by omega)
  omega
 have hdimN : 2 ≤ m.w * m.h * m.l ∧ m.w * m.h * m.l ≤ 16 := hdimn
 have HDN := Lib.hid hdimN
 clear hEa3 hE5
 go_loopg [5, 6] 12 (fun gk v5 v wr => ∃ (k : Nat) (l : List Int), v = .int .i64 k ∧ k ≤ 12 ∧ gk = 12 - k ∧ Hid (l.length = k ∧ (∀ x ∈ l, 0 ≤ x ∧ x ≤ m.n) ∧ Mk w5 wr v5 l))
 case atStart => exact ⟨0, [], rfl, by omega, rfl, rfl, fun x hx => absurd hx List.not_mem_nil, Mk.nil _⟩
 case round =>
  obtain ⟨k, l, rfl, hk, rfl, hM⟩ := hrel
  have hxr : Ext w5 wr := hM.out.2.2.ext
  have hxar : Ext wa wr := hEa5.trans hxr
  obtain ⟨A5, c5, rfl, hc5⟩ := own_slice hM.out.2.2.own
  by_cases hgo : k < ns.length ∧ k < 12
  ·obtain ⟨hk1, hk2⟩ := hgo
   have hd1 : decide ((k : Int) < (ns.length : Int)) = true := decide_eq_true (by omega)
   have hd2 : decide (k < ns.length) = true := decide_eq_true hk1
   have hd3 : decide ((k : Int) < 12) = true := decide_eq_true (by omega)
   obtain ⟨bn, on, rfl, -, hcell⟩ := intsAt HR2.out hk1 hk1
   obtain ⟨x, hx⟩ : ∃ x, x = ns[k] := ⟨_, rfl⟩
   rw [← hx] at hcell
   have rx : ∀ W, Ext w W → W.cell? ⟨bn, on + k, none⟩ = some (.int .i64 x) := Ext.rule hcell
   clear hcell hx
   have hxw : Ext w wr := (HE0.out.trans HE5.out).trans hxr
   have hk0 : (0 : Int) ≤ (k : Int) ∧ (k : Int) < (ns.length : Int) := by omega
   have hp1 : IntKind.i64.wrap (m.w * m.h) = m.w * m.h := by rw [IntKind.wrap_i64]; omega
   have hp2 : IntKind.i64.wrap (m.w * m.h * m.l) = m.w * m.h * m.l := by rw [IntKind.wrap_i64]; omega
   have hp3 : IntKind.i64.wrap (m.w * m.h * m.l + 1) = m.w * m.h * m.l + 1 := by rw [IntKind.wrap_i64]; omega
   have HMk := Lib.hid hM.out.2.2
   have hl20 : l.length ≤ 20 := by have := hM.out.1; omega
   go_wp2_with fail
   refine wp_region_held_drew (S := fun W' => Ext wa W' ∧ Ext w5 W' ∧ Ext w W') mixedA ⟨hxar.drew, hxr.drew, hxw.drew⟩ (fun hHeld => ?_)
   refine wpAnyH_take (i := 0) (v := ?v201) rfl (by kernel_rfl) (by kernel_rfl) (by kernel_rfl) (fun _ _ _ h => h) (Or.inl ⟨?w201, ?y201⟩) hHeld ?r201
   case w201 => rfl
   case y201 => (intro w hSw; (obtain ⟨s1, s2, s3⟩ := hSw; go_simp); try with_reducible rfl)
   simp only [rtPr, Act.put]
   refine wpAnyH_take (i := 1) (v := ?v202) rfl (by kernel_rfl) (by kernel_rfl) (by kernel_rfl) (fun _ _ _ h => h) (Or.inl ⟨?w202, ?y202⟩) hHeld ?r202
   case w202 => rfl
   case y202 => (intro w hSw; (obtain ⟨s1, s2, s3⟩ := hSw; go_simp); try with_reducible rfl)
   simp only [rtPr, Act.put]
   refine wpAnyH_take (i := 2) (v := ?v203) rfl (by kernel_rfl) (by kernel_rfl) (by kernel_rfl) (fun _ _ _ h => h) (Or.inl ⟨?w203, ?y203⟩) hHeld ?r203
   case w203 => rfl
   case y203 => (intro w hSw; (obtain ⟨s1, s2, s3⟩ := hSw; go_simp); try with_reducible rfl)
   simp only [rtPr, Act.put]
   refine wpAnyH_take (i := 3) (v := ?v204) rfl (by kernel_rfl) (by kernel_rfl) (by kernel_rfl) (fun _ _ _ h => h) (Or.inl ⟨?w204, ?y204⟩) hHeld ?r204
   case w204 => rfl
   case y204 => (intro w hSw; (obtain ⟨s1, s2, s3⟩ := hSw; go_simp); try with_reducible rfl)
   simp only [rtPr, Act.put]
   refine wpAnyH_take (i := 4) (v := ?v205) rfl (by kernel_rfl) (by kernel_rfl) (by kernel_rfl) (fun _ _ _ h => h) (Or.inl ⟨?w205, ?y205⟩) hHeld ?r205
   case w205 => rfl
   case y205 => (intro w hSw; (obtain ⟨s1, s2, s3⟩ := hSw; go_simp); try with_reducible rfl)
   simp only [rtPr, Act.put]
   refine wpAnyH_take (i := 5) (v := ?v206) rfl (by kernel_rfl) (by kernel_rfl) (by kernel_rfl) (fun _ _ _ h => h) (Or.inl ⟨?w206, ?y206⟩) hHeld ?r206
   case w206 => rfl
   case y206 => (intro w hSw; (obtain ⟨s1, s2, s3⟩ := hSw; go_simp); try with_reducible rfl)
   simp only [rtPr, Act.put]
   refine wpAnyH_take (i := 6) (v := ?v207) rfl (by kernel_rfl) (by kernel_rfl) (by kernel_rfl) (fun _ _ _ h => h) (Or.inl ⟨?w207, ?y207⟩) hHeld ?r207
   case w207 => rfl
   case y207 => (intro w hSw; (obtain ⟨s1, s2, s3⟩ := hSw; go_simp); try with_reducible rfl)
   simp only [rtPr, Act.put]
   refine wpAnyH_take (i := 7) (v := ?v208) rfl (by kernel_rfl) (by kernel_rfl) (by kernel_rfl) (fun _ _ _ h => h) (Or.inl ⟨?w208, ?y208⟩) hHeld ?r208
   case w208 => rfl
   case y208 => (intro w hSw; (obtain ⟨s1, s2, s3⟩ := hSw; go_simp); try with_reducible rfl)
   simp only [rtPr, Act.put]
   refine wpAnyH_take (i := 8) (v := ?v209) rfl (by kernel_rfl) (by kernel_rfl) (by kernel_rfl) (fun _ _ _ h => h) (Or.inl ⟨?w209, ?y209⟩) hHeld ?r209
   case w209 => rfl
   case y209 => (intro w hSw; (obtain ⟨s1, s2, s3⟩ := hSw; go_simp); try with_reducible rfl)
   simp only [rtPr, Act.put]
   refine wpAnyH_take (i := 9) (v := ?v210) rfl (by kernel_rfl) (by kernel_rfl) (by kernel_rfl) (fun _ _ _ h => h) (Or.inl ⟨?w210, ?y210⟩) hHeld ?r210
   case w210 => rfl
   case y210 => (intro w hSw; (obtain ⟨s1, s2, s3⟩ := hSw; go_simp); try with_reducible rfl)
   simp only [rtPr, Act.put]
   refine wpAnyH_take (i := 10) (v := ?v211) rfl (by kernel_rfl) (by kernel_rfl) (by kernel_rfl) (fun _ _ _ h => h) (Or.inl ⟨?w211, ?y211⟩) hHeld ?r211
   case w211 => rfl
   case y211 => (intro w hSw; (obtain ⟨s1, s2, s3⟩ := hSw; go_simp); try with_reducible rfl)
   simp only [rtPr, Act.put]
   refine wpAnyH_take (i := 11) (v := ?v212) rfl (by kernel_rfl) (by kernel_rfl) (by kernel_rfl) (fun _ _ _ h => h) (Or.inl ⟨?w212, ?y212⟩) hHeld ?r212
   case w212 => rfl
   case y212 => (intro w hSw; (obtain ⟨s1, s2, s3⟩ := hSw; go_simp); try with_reducible rfl)
   simp only [rtPr, Act.put]
   refine wpAnyH_take (i := 12) (v := ?v213) rfl (by kernel_rfl) (by kernel_rfl) (by kernel_rfl) (fun _ _ _ h => h) (Or.inl ⟨?w213, ?y213⟩) hHeld ?r213
   case w213 => rfl
   case y213 => (intro w hSw; (obtain ⟨s1, s2, s3⟩ := hSw; go_simp); try with_reducible rfl)
   simp only [rtPr, Act.put]
   refine wpAnyH_take (i := 13) (v := ?v214) rfl (by kernel_rfl) (by kernel_rfl) (by kernel_rfl) (fun _ _ _ h => h) (Or.inl ⟨?w214, ?y214⟩) hHeld ?r214
   case w214 => rfl
   case y214 => (intro w hSw; (obtain ⟨s1, s2, s3⟩ := hSw; go_simp); try with_reducible rfl)
   simp only [rtPr, Act.put]
   refine wpAnyH_take (i := 14) (v := ?v215) rfl (by kernel_rfl) (by kernel_rfl) (by kernel_rfl) (fun _ _ _ h => h) (Or.inl ⟨?w215, ?y215⟩) hHeld ?r215
   case w215 => rfl
   case y215 => (intro w hSw; (obtain ⟨s1, s2, s3⟩ := hSw; go_simp); try with_reducible rfl)
   simp only [rtPr, Act.put]
   refine wpAnyH_ready (rs := [15]) (by kernel_rfl) (by simp) ?_
   refine AllReadyH.cons rfl (fun K hK => ?_) ?_
   ·go_simp
    go_at_call 47
    refine (mod_calls x (m.w * m.h * m.l + 1) _ (by omega) (by omega)).mono ?_
    rintro e w9 ⟨rfl, rfl⟩
    go_simp
    refine hK.out _ _ hHeld (fun hHeld => ?_)
    clear hK K
    try simp only [rtPr, Act.put]
    refine wpAnyH_ready (rs := [16]) (by kernel_rfl) (by simp) ?_
    refine AllReadyH.cons rfl (fun K hK => ?_) ?_
    ·go_simp
     refine hK.out _ _ ⟨hHeld.1.alloc _, hHeld.2.1.alloc _, hHeld.2.2.alloc _⟩ (fun hHeld => ?_)
     clear hK K
     try simp only [rtPr, Act.put]
     refine wpAnyH_ready (rs := [17]) (by kernel_rfl) (by simp) ?_
     refine AllReadyH.cons rfl (fun K hK => ?_) ?_
     ·refine step_append_lies (P := Try.prog) _ (by rfl) _ _ 24 (by rfl) w5.heap.size 3 iI (.int .i64 0) 1 8 Try.underlying24 JF.out JZ0.out JZ1.out JZ2.out rfl (by decide) (.slice A5 l.length c5) l.length _ (by rfl) (World.ownsRow.alloc (HMk.out.drew).own _) ⟨wr.heap.size, 0, none⟩ 1 1 [.int .i64 (x % (m.w * m.h * m.l + 1))] (by rfl) rfl (cell_one_new wr.drew _ _) (by simp [Value.oneCell']) (by decide) (by unfold maxLen; omega) (by omega) (by have := hxr.size; simp; omega) (wr.heap.size + 1) (by simp) ?_
      intro gq cq w9 hown hg hv _
      have HM9 := Lib.hid (mk_app1 (HMk.out.drew) hown hg)
      clear hown hg hv
      refine hK.out _ _ ⟨hEa5.trans HM9.out.ext, HM9.out.ext, (HE0.out.trans HE5.out).trans HM9.out.ext⟩ (fun hHeld => ?_)
      clear hK K
      try simp only [rtPr, Act.put]
      refine wpAnyH_ready (rs := [18]) (by kernel_rfl) (by simp) ?_
      refine AllReadyH.cons rfl (fun K hK => ?_) ?_
      ·go_simp
       refine hK.out _ _ hHeld (fun hHeld => ?_)
       clear hK K
       try simp only [rtPr, Act.put]
       refine wpAnyH_done (by kernel_rfl) ?_ _
       go_wp2_with fail
       go_roundg (12 - (k + 1))
       case measure => omega
       case rel => exact ⟨k + 1, l ++ [x % (m.w * m.h * m.l + 1)], by go_num, hk2, rfl, by have := hM.out.1; simp; omega, ran_app hM.out.2.1 (by have := HDN.out; exact HDN.out.1), HM9.out⟩
      exact AllReadyH.nil
     exact AllReadyH.nil
    exact AllReadyH.nil
   exact AllReadyH.nil
  ·have hno : decide (k < ns.length) = false ∨ (decide (k < ns.length) = true ∧ decide ((k : Int) < 12) = false) := by
    by_cases h1 : k < ns.length
    ·exact .inr ⟨decide_eq_true h1, decide_eq_false (by omega)⟩
    ·exact .inl (decide_eq_false h1)
   have HMk := Lib.hid hM.out.2.2
   have HRG := Lib.hid hM.out.2.1
   have hl12 : Hid (l.length ≤ 12) := by have := hM.out.1; show _ ≤ _; omega
   have hB2 : Blk wr (w.heap.size + 1) 31 #[.int .i64 0, .int .i64 0, .int .i64 0, .slice none 0 0, .slice none 0 0, .slice none 0 0] := (HB2.out.ext HE5.out).ext hxr
   have z0 : wr.cell? ⟨w.heap.size + 1, 0, none⟩ = some (.int .i64 0) := hB2.cell (k := 0) rfl
   have z1 : wr.cell? ⟨w.heap.size + 1, 1, none⟩ = some (.int .i64 0) := hB2.cell (k := 1) rfl
   have z2 : wr.cell? ⟨w.heap.size + 1, 2, none⟩ = some (.int .i64 0) := hB2.cell (k := 2) rfl
   have z3 : wr.cell? ⟨w.heap.size + 1, 3, none⟩ = some (.slice none 0 0) := hB2.cell (k := 3) rfl
   have z4 : wr.cell? ⟨w.heap.size + 1, 4, none⟩ = some (.slice none 0 0) := hB2.cell (k := 4) rfl
   have z5 : wr.cell? ⟨w.heap.size + 1, 5, none⟩ = some (.slice none 0 0) := hB2.cell (k := 5) rfl
   have hfz : ∀ j, wr.frozen? ⟨w.heap.size + 1, j, none⟩ = false := fun j => hB2.frozen j
   have HBZ := Lib.hid hB2
   have HX := Lib.hid hxr
   clear hgo hB2
   rcases hno with h1 | ⟨h1, h2⟩
   all_goals
    go_wp2_with fail
    refine case_fin (P := fun W => bodyPost Try.prog Try.f12 (CasePost w) Exit.ret _ W) (g2 := w.heap.size + 1) ?_ HBZ.out
    intro WZ hbz hEb hk
    have hEz : Below w.heap.size wr WZ := hEb.mono (Nat.le_succ _)
    have y0 : WZ.cell? ⟨w.heap.size + 1, 0, none⟩ = some (.int .i64 m.w) := hbz.cell (k := 0) rfl
    have y1 : WZ.cell? ⟨w.heap.size + 1, 1, none⟩ = some (.int .i64 m.h) := hbz.cell (k := 1) rfl
    have y2 : WZ.cell? ⟨w.heap.size + 1, 2, none⟩ = some (.int .i64 m.l) := hbz.cell (k := 2) rfl
    have y3 : WZ.cell? ⟨w.heap.size + 1, 3, none⟩ = some (.slice Af m.free.length cf) := hbz.cell (k := 3) rfl
    have y4 : WZ.cell? ⟨w.heap.size + 1, 4, none⟩ = some (.slice Au m.up.length cu) := hbz.cell (k := 4) rfl
    have y5 : WZ.cell? ⟨w.heap.size + 1, 5, none⟩ = some (.slice At m.tasks.length ct) := hbz.cell (k := 5) rfl
    have hxw : Ext w wr := (HE0.out.trans HE5.out).trans HX.out
    have hm' := (HM3.out.below (HE5.out.trans HX.out)).keep (w' := WZ) (fun b hb hlt => hk b hlt (by have := HZB.out; omega))
    have hmk' : Mk w WZ (.slice A5 l.length c5) l := ⟨World.ownsRow.mono (own_keep HMk.out.own fun g hg => by
     have h1 := World.ownsRow.lt HMk.out.own g hg
     have h2 := (HE0.out.trans HE5.out).size
     have h3 := HE5.out.size
     have h4 := HS3.out
     have h5 := HZB.out
     exact hk g h1.2 (by omega)) (HE0.out.trans HE5.out).size, Below.trans hxw hEz⟩
    exact bodyPost_ret (v := .tuple #[.agg #[.int .i64 m.w, .int .i64 m.h, .int .i64 m.l, .slice Af m.free.length cf, .slice Au m.up.length cu, .slice At m.tasks.length ct], .slice A5 l.length c5]) (by simp [results, Try.results12, go_sem, y0, y1, y2, y3, y4, y5]) rfl
     ⟨_, m, _, l, rfl, Below.trans hxw hEz, hm'.weaken (fun b hb => by have := HZB.out; omega), HMM.out, hmk', hl12.out, HRG.out⟩
end Go.Proofs.Ytgpjfpcjiebjiaa
