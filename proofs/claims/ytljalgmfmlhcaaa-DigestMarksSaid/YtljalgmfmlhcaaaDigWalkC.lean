/- Walks. -/
import Derived.Test.YtljalgmfmlhcaaaDigWalkB
namespace Go.Proofs.Ytljalgmfmlhcaaa
open Go.RowKit

def cat (ss : List ByteArray) : List UInt8 := (ss.map (·.data.toList)).flatten
theorem cat_snoc (ss : List ByteArray) (k : Nat) (h : k < ss.length) : cat (ss.take (k + 1)) = cat (ss.take k) ++ ss[k].data.toList := by
  unfold cat
  rw [List.take_succ_eq_append_getElem h, List.map_append, List.flatten_append]
  simp
theorem take_snoc (l : List UInt8) (k : Nat) (h : k < l.length) : l.take (k + 1) = l.take k ++ [l[k]] := by
  rw [List.take_succ_eq_append_getElem h]

theorem bytesRow_get (s : ByteArray) (c j : Nat) (hj : j < s.size) : (bytesRow s c)[j]? = some (.int .u8 (s.data.toList[j]'(by simpa using hj)).toNat) := by
  unfold bytesRow
  rw [Array.getElem?_append_left (by simpa using hj)]
  rw [Array.getElem?_map, Array.getElem?_eq_getElem (by simpa using hj)]
  simp

theorem digV_four (x y : Nat) (hx : x < 2147483647) (hy : y < 2147483629) : digV (four x ++ four y) = .agg #[.int .u8 ((x : Int) / 16777216), .int .u8 ((x : Int) / 65536 % 256), .int .u8 ((x : Int) / 256 % 256), .int .u8 ((x : Int) % 256), .int .u8 ((y : Int) / 16777216), .int .u8 ((y : Int) / 65536 % 256), .int .u8 ((y : Int) / 256 % 256), .int .u8 ((y : Int) % 256)] := by
  have e1 : (x / 16777216) % 256 = x / 16777216 := by omega
  have e2 : (y / 16777216) % 256 = y / 16777216 := by omega
  simp [digV, four, e1, e2]
theorem below_row {B g : Nat} {w0 w : World} (hb : Below B w0 w) (hBg : B ≤ g) (cs : Array Value) : Below B w0 (w.setRow g cs) :=
  hb.trans ⟨rfl, rfl, rfl, by simp [World.setRow], fun k hk => setRow_other w g k cs (by omega)⟩
theorem lt_of_some {w : World} {k : Nat} {o : Obj} (h : w.heap[k]? = some o) : k < w.heap.size := by
  rcases Nat.lt_or_ge k w.heap.size with h1 | h1
  · exact h1
  · rw [Array.getElem?_eq_none h1] at h; cases h

set_option maxRecDepth 100000 in
theorem of_calls (w : World) (b n : Nat) (ss : List ByteArray) (hn : n = ss.length) (hlt : b < w.heap.size) (hn5 : ss.length ≤ 5)
    (hc : ∀ i (h : i < ss.length), w.cell? ⟨b, i, none⟩ = some (.string ss[i])) (hsz : ∀ i (h : i < ss.length), ss[i].size ≤ 400) :
    Calls Try.prog 19 #[.slice (some ⟨b, 0, none⟩) n n] w fun e w' => e = .returned (digV (dig (cat ss))) ∧ Below w.heap.size w w' := by
  subst hn
  have H := Lib.hid hc; clear hc
  have H2 := Lib.hid hsz; clear hsz
  go_enter Try.func19, Try.ntmps19
  go_wp2
  go_loopw [3, 4, 13] (fun x y i wr => ∃ k : Nat, k ≤ ss.length ∧ i = .int .i64 k ∧ x = .int .u64 (runX 20 (cat (ss.take k))) ∧ y = .int .u64 (runY 26 (cat (ss.take k))) ∧ Hid (wr.heap[w.heap.size]? = some (.cells #[.int .u8 0, .int .u8 0, .int .u8 0, .int .u8 0, .int .u8 0, .int .u8 0, .int .u8 0, .int .u8 0] 36 (0, 0))) ∧ Below w.heap.size w wr) (fun _ _ i _ => ss.length - (intOf i).toNat)
  case atStart => exact ⟨0, Nat.zero_le _, rfl, rfl, rfl, heap_alloc_new _ _, (Below.refl _ _).alloc (Nat.le_refl _) _⟩
  case round =>
    obtain ⟨k, hk, rfl, rfl, rfl, hz, hb⟩ := hrel
    by_cases hlt' : k < ss.length
    · have hx := cat_snoc ss k hlt'
      have hcell := (hb.cell (p := ⟨b, k, none⟩) hlt).trans (H.out k hlt')
      have hs4 := H2.out k hlt'
      obtain ⟨s, hs⟩ : ∃ s, s = ss[k] := ⟨_, rfl⟩
      rw [← hs] at hcell hx hs4
      have HS := Lib.hid hs; clear hs
      have HX := Lib.hid hx; clear hx
      have hx1 := runX_lt (cat (ss.take k)) 20 (by decide)
      have hy1 := runY_lt (cat (ss.take k)) 26 (by decide)
      obtain ⟨x0, hx0⟩ : ∃ x0, x0 = runX 20 (cat (ss.take k)) := ⟨_, rfl⟩
      obtain ⟨y0, hy0⟩ : ∃ y0, y0 = runY 26 (cat (ss.take k)) := ⟨_, rfl⟩
      rw [← hx0] at hx1 ⊢
      rw [← hy0] at hy1 ⊢
      have HX0 := Lib.hid hx0; clear hx0
      have HY0 := Lib.hid hy0; clear hy0
      have hconv := run_bytes_of_string wr 9 29 5 s Try.underlying9 Try.underlying29 Try.underlying5
      obtain ⟨c, hcc⟩ : ∃ c, c = grownCap wr s.size 0 5 := ⟨_, rfl⟩
      rw [← hcc] at hconv
      clear hcc
      obtain ⟨C, hC⟩ : ∃ C, C = bytesRow s c := ⟨_, rfl⟩
      rw [← hC] at hconv
      have HC := Lib.hid hC; clear hC
      go_wp2
      have hcells : Hid (∀ j (hj : j < s.size), (wr.alloc (.cells C 5 (C.size, C.size + 1))).cell? ⟨wr.heap.size, j, none⟩ = some (.int .u8 (s.data.toList[j]'(by simpa using hj)).toNat)) := by
        intro j hj
        rw [HC.out]
        have hh := heap_alloc_new wr (.cells (bytesRow s c) 5 ((bytesRow s c).size, (bytesRow s c).size + 1))
        unfold World.cell?
        simp only [hh]
        exact bytesRow_get s c j hj
      go_loop [3, 4, 20] (fun x y i => ∃ j : Nat, j ≤ s.size ∧ i = .int .i64 j ∧ x = .int .u64 (runX x0 (s.data.toList.take j)) ∧ y = .int .u64 (runY y0 (s.data.toList.take j))) (fun _ _ i => s.size - (intOf i).toNat)
      case atStart => exact ⟨0, Nat.zero_le _, rfl, rfl, rfl⟩
      case round =>
        obtain ⟨j, hj, rfl, rfl, rfl⟩ := hrel
        by_cases hjl : j < s.size
        · have hcj := hcells.out j hjl
          have htk := take_snoc s.data.toList j (by simpa using hjl)
          have hx2 := runX_lt (s.data.toList.take j) x0 hx1
          have hy2 := runY_lt (s.data.toList.take j) y0 hy1
          obtain ⟨ch, hch⟩ : ∃ ch, ch = s.data.toList[j]'(by simpa using hjl) := ⟨_, rfl⟩
          rw [← hch] at hcj htk
          clear hch
          have hX : runX x0 (s.data.toList.take (j + 1)) = stepX (runX x0 (s.data.toList.take j)) ch := by rw [htk, runX_append]; rfl
          have hY : runY y0 (s.data.toList.take (j + 1)) = stepY (runY y0 (s.data.toList.take j)) ch := by rw [htk, runY_append]; rfl
          clear htk
          have HX1 := Lib.hid hX; clear hX
          have HY1 := Lib.hid hY; clear hY
          obtain ⟨x1, hx3⟩ : ∃ x1, x1 = runX x0 (s.data.toList.take j) := ⟨_, rfl⟩
          obtain ⟨y1, hy3⟩ : ∃ y1, y1 = runY y0 (s.data.toList.take j) := ⟨_, rfl⟩
          rw [← hx3] at hx2 HX1 ⊢
          rw [← hy3] at hy2 HY1 ⊢
          clear hx3 hy3
          have hch := ch.toNat_lt
          go_wp2
          go_round
          case rel => exact ⟨j + 1, by omega, by go_num, by rw [HX1.out]; unfold stepX; congr 1, by rw [HY1.out]; unfold stepY; congr 1⟩
          case measure => simp [intOf]; omega
        · have : j = s.size := by omega
          subst this
          have e1 : runX x0 (s.data.toList.take s.size) = runX 20 (cat (ss.take (k + 1))) := by
            rw [List.take_of_length_le (by simp), HX.out, runX_append, ← HX0.out]
          have e2 : runY y0 (s.data.toList.take s.size) = runY 26 (cat (ss.take (k + 1))) := by
            rw [List.take_of_length_le (by simp), HX.out, runY_append, ← HY0.out]
          rw [e1, e2]
          clear e1 e2
          go_wp2
          go_roundw
          case rel => exact ⟨k + 1, by omega, by go_num, rfl, rfl, (Below.heap_alloc _ _ _ (lt_of_some hz.out)).trans hz, (hb.alloc hb.size _).drew⟩
          case measure => simp [intOf]; omega
    · obtain rfl : k = ss.length := by omega
      rw [List.take_length]
      have hx1 := runX_lt (cat ss) 20 (by decide)
      have hy1 := runY_lt (cat ss) 26 (by decide)
      obtain ⟨x0, hx0⟩ : ∃ x0, x0 = runX 20 (cat ss) := ⟨_, rfl⟩
      obtain ⟨y0, hy0⟩ : ∃ y0, y0 = runY 26 (cat ss) := ⟨_, rfl⟩
      have hd : dig (cat ss) = four x0 ++ four y0 := by rw [hx0, hy0]; rfl
      rw [← hx0] at hx1 ⊢
      rw [← hy0] at hy1 ⊢
      clear hx0 hy0
      have HD := Lib.hid hd; clear hd
      go_wp2
      refine wp_loop_rounds 5 ?_
      rw [rounds_succ]
      go_wp2
      go_region
      go_wp2
      rw [rounds_succ]
      go_wp2
      go_region
      go_wp2
      rw [rounds_succ]
      go_wp2
      go_region
      go_wp2
      rw [rounds_succ]
      go_wp2
      go_region
      go_wp2
      rw [rounds_succ]
      have hzz : ∀ o : Obj, (wr.alloc o).heap[w.heap.size]? = some (.cells #[.int .u8 0, .int .u8 0, .int .u8 0, .int .u8 0, .int .u8 0, .int .u8 0, .int .u8 0, .int .u8 0] 36 (0, 0)) := fun o => (Below.heap_alloc _ _ _ (lt_of_some hz.out)).trans hz.out
      go_wp2_with (refine wpList_store_row rfl 36 (.tmp 2) (.tmp 61) rfl w.heap.size #[.int .u8 (x0 / 16777216), .int .u8 (x0 / 65536 % 256), .int .u8 (x0 / 256 % 256), .int .u8 (x0 % 256), .int .u8 (y0 / 16777216), .int .u8 (y0 / 65536 % 256), .int .u8 (y0 / 256 % 256), .int .u8 (y0 % 256)] rfl rfl 36 #[.int .u8 0, .int .u8 0, .int .u8 0, .int .u8 0, .int .u8 0, .int .u8 0, .int .u8 0, .int .u8 0] ?c1 ?c2 ?c3 ?c4 ?_)
      case c1 => exact hzz _
      case c2 => kernel_rfl
      case c3 => rfl
      case c4 => simp [Value.oneCell']
      refine bodyPost_ret (v := .agg #[.int .u8 (x0 / 16777216), .int .u8 (x0 / 65536 % 256), .int .u8 (x0 / 256 % 256), .int .u8 (x0 % 256), .int .u8 (y0 / 16777216), .int .u8 (y0 / 65536 % 256), .int .u8 (y0 / 256 % 256), .int .u8 (y0 % 256)]) ?_ rfl ⟨?_, ?_⟩
      · exact results_cell_row (p := 2) (ty := 36) rfl _ _ w.heap.size 36 _ (0, 0) _ rfl (setRow_heap _ _ _ _ 36 (0, 0) (hzz _)) Try.underlying36 rfl (by kernel_rfl)
      · rw [HD.out, digV_four x0 y0 hx1 hy1]
      · exact below_row (((hb.alloc hb.size _).drew.drew.drew.drew)) (Nat.le_refl _) _

theorem text_dig (l : List UInt8) (h : l.length = 8) (w : World) :
    Calls Try.prog 20 #[digV l] w fun e w' => e = .returned (.string (mk l)) ∧ Below w.heap.size w w' := by
  match l, h with
  | [a, b, c, d, e, f, g, i], _ =>
    refine (text_calls a.toNat b.toNat c.toNat d.toNat e.toNat f.toNat g.toNat i.toNat w).mono ?_
    rintro e w' ⟨rfl, hb⟩
    refine ⟨?_, hb⟩
    rw [strI_eq]
    simp
end Go.Proofs.Ytljalgmfmlhcaaa
