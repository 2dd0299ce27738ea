/- Walks: the maze of the chapter's examples. -/
import Derived.Test.YtgpjfpcjiebjiaaRtSo
namespace Go.Proofs.Ytgpjfpcjiebjiaa
open Go.RowKit
set_option linter.unusedVariables false
set_option linter.unusedSimpArgs false
attribute [local go_sem ↓] Go.wp_at_zero Go.wp_at_succ

def exFree : List Bool := [true, true, true, true, false, true, true, true, true]
/-- The maze of the examples. -/
def exM (a b : Int) : MZ := ⟨3, 3, 1, [exFree, exFree], List.replicate 9 false, [([0], [2]), ([a], [b])]⟩

theorem allocs_ext : ∀ (os : List Obj) (w : World), Ext w (os.foldl World.alloc w)
  | [], w => Ext.refl w
  | o :: os, w => ((Ext.refl w).alloc o).trans (allocs_ext os (w.alloc o))
theorem allocs_at : ∀ (os : List Obj) (w : World) (i : Nat) (o : Obj), os[i]? = some o → (os.foldl World.alloc w).heap[w.heap.size + i]? = some o
  | o :: os, w, 0, o', h => by
    have : o = o' := by simpa using h
    subst this
    exact ((allocs_ext os (w.alloc o)).block _ (by simp)).trans (heap_alloc_new w o)
  | o :: os, w, i + 1, o', h => by
    have := allocs_at os (w.alloc o) i o' (by simpa using h)
    rw [show w.heap.size + (i + 1) = (w.alloc o).heap.size + i from by simp; omega]
    exact this
theorem fin_allocs {P : World → Prop} (w : World) (os : List Obj) (h : ∀ W, Ext w W → (∀ (i : Nat) o, os[i]? = some o → W.heap[w.heap.size + i]? = some o) → P W) : P (os.foldl World.alloc w) := h _ (allocs_ext os w) (fun i o hi => allocs_at os w i o hi)

set_option maxHeartbeats 2000000 in
set_option maxRecDepth 100000 in
theorem example_calls (a b : Int) (w : World) : Calls Try.prog 45 #[.int .i64 a, .int .i64 b] w fun e w' => ∃ v, e = .returned v ∧ Ext w w' ∧ MazeV w' (fun x => w.heap.size ≤ x) v (exM a b) := by
  have hmk : ∀ w, (Instr.makeSlice 28 (.int .i64 9) (.int .i64 9)).run Try.prog w = .ok (.slice (some ⟨w.heap.size, 0, none⟩) 9 9) (w.alloc (.cells #[.bool false, .bool false, .bool false, .bool false, .bool false, .bool false, .bool false, .bool false, .bool false] 4)) := fun _ => by kernel_rfl
  go_enter Try.func45, Try.ntmps45
  go_wp2_with fail
  change (fun W => bodyPost Try.prog Try.f45 (fun e w' => ∃ v, e = Ending.returned v ∧ Ext w w' ∧ MazeV w' (fun x => w.heap.size ≤ x) v (exM a b)) Exit.ret _ W) ([_, _, _, _, _, _, _, _, _, _].foldl World.alloc w)
  refine fin_allocs w _ fun W hE hB => ?_
  have b0 := hB 0 _ rfl
  have b1 := hB 1 _ rfl
  have b2 := hB 2 _ rfl
  have b3 := hB 3 _ rfl
  have b4 := hB 4 _ rfl
  have b5 := hB 5 _ rfl
  have b6 := hB 6 _ rfl
  have b8 := hB 8 _ rfl
  have b9 := hB 9 _ rfl
  clear hB
  generalize w.heap.size = H at *
  have hc : ∀ k v, (#[Value.int IntKind.i64 3, Value.int IntKind.i64 3, Value.int IntKind.i64 1, Value.slice (some ⟨H + 9, 0, none⟩) 2 2, Value.slice (some ⟨H + 1, 0, none⟩) 9 9, Value.slice (some ⟨H + 6, 0, none⟩) 2 2] : Array Value)[k]? = some v → W.cell? ⟨H, k, none⟩ = some v := fun k v hk => Blk.cell (cs := #[Value.int IntKind.i64 3, Value.int IntKind.i64 3, Value.int IntKind.i64 1, Value.slice (some ⟨H + 9, 0, none⟩) 2 2, Value.slice (some ⟨H + 1, 0, none⟩) 9 9, Value.slice (some ⟨H + 6, 0, none⟩) 2 2]) b0 hk
  have c0 := hc 0 _ rfl
  have c1 := hc 1 _ rfl
  have c2 := hc 2 _ rfl
  have c3 := hc 3 _ rfl
  have c4 := hc 4 _ rfl
  have c5 := hc 5 _ rfl
  clear hc
  have hI : ∀ (k : Nat) (x : Int), H ≤ k → W.heap[k]? = some (.cells #[.int .i64 x] 3 (0, 0)) → Ints W (fun b => H ≤ b) (.slice (some ⟨k, 0, none⟩) 1 1) [x] := fun k x hk hb => ⟨_, _, rfl, Nat.le_refl _, RowA.block (cs := #[.int .i64 x]) hb hk rfl⟩
  have hM : MazeV W (fun b => H ≤ b) (.agg #[.int .i64 3, .int .i64 3, .int .i64 1, .slice (some ⟨H + 9, 0, none⟩) 2 2, .slice (some ⟨H + 1, 0, none⟩) 9 9, .slice (some ⟨H + 6, 0, none⟩) 2 2]) (exM a b) := by
    have hF : Bools W (fun b => H ≤ b) (.slice (some ⟨H + 8, 0, none⟩) 9 9) exFree := ⟨_, _, rfl, Nat.le_refl _, RowA.block (cs := #[.bool true, .bool true, .bool true, .bool true, .bool false, .bool true, .bool true, .bool true, .bool true]) b8 (by omega) rfl⟩
    refine ⟨_, _, _, rfl, ⟨_, ⟨_, _, rfl, Nat.le_refl _, RowA.block b9 (by omega) rfl⟩, fun i x hx => ?_⟩, ⟨_, _, rfl, Nat.le_refl _, RowA.block (cs := #[.bool false, .bool false, .bool false, .bool false, .bool false, .bool false, .bool false, .bool false, .bool false]) b1 (by omega) rfl⟩,
      ⟨[.string ⟨#[97]⟩, .slice (some ⟨H + 2, 0, none⟩) 1 1, .slice (some ⟨H + 3, 0, none⟩) 1 1, .string ⟨#[98]⟩, .slice (some ⟨H + 4, 0, none⟩) 1 1, .slice (some ⟨H + 5, 0, none⟩) 1 1], ⟨_, _, rfl, Nat.le_refl _, rfl, fun _ => ⟨H + 6, 0, rfl, by omega, fun j u hu => by rw [Nat.zero_add]; exact Blk.cell (cs := #[.string ⟨#[97]⟩, .slice (some ⟨H + 2, 0, none⟩) 1 1, .slice (some ⟨H + 3, 0, none⟩) 1 1, .string ⟨#[98]⟩, .slice (some ⟨H + 4, 0, none⟩) 1 1, .slice (some ⟨H + 5, 0, none⟩) 1 1]) b6 (by simpa using hu)⟩⟩, fun i x hx => ?_⟩⟩
    · match i, hx with
      | 0, hx =>
        have : exFree = x := by simpa [exM] using hx
        subst this
        exact ⟨_, rfl, hF⟩
      | 1, hx =>
        have : exFree = x := by simpa [exM] using hx
        subst this
        exact ⟨_, rfl, hF⟩
    · match i, hx with
      | 0, hx =>
        have : (([0], [2]) : List Int × List Int) = x := by simpa [exM] using hx
        subst this
        exact ⟨_, _, _, rfl, rfl, rfl, hI _ _ (by omega) b2, hI _ _ (by omega) b3⟩
      | 1, hx =>
        have : (([a], [b]) : List Int × List Int) = x := by simpa [exM] using hx
        subst this
        exact ⟨_, _, _, rfl, rfl, rfl, hI _ _ (by omega) b4, hI _ _ (by omega) b5⟩
  exact bodyPost_ret (v := .agg #[.int .i64 3, .int .i64 3, .int .i64 1, .slice (some ⟨H + 9, 0, none⟩) 2 2, .slice (some ⟨H + 1, 0, none⟩) 9 9, .slice (some ⟨H + 6, 0, none⟩) 2 2]) (by simp [results, Try.results45, go_sem, c0, c1, c2, c3, c4, c5]) rfl ⟨_, rfl, hE, hM⟩
end Go.Proofs.Ytgpjfpcjiebjiaa
