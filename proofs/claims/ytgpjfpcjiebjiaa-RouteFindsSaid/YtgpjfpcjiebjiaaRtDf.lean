/- Blocks are bounded; walks: DeleteFunc at numbers and at lists, by the library's contract. -/
import Derived.Test.YtgpjfpcjiebjiaaRtCa
import Derived.Shelf.SlicesE.DeleteFunc
import Derived.Ground.SlgfProg
namespace Go.Proofs.Ytgpjfpcjiebjiaa
open Go.RowKit Go.Sort Go.Shelf
set_option linter.unusedVariables false
set_option linter.unusedSimpArgs false

section
variable {w : World} {ok : Nat → Prop} {size n : Nat} {A : Option Addr} {v : Value} {xs : List Value}
theorem RowA.bound (h : RowA w ok size A n xs) (hs : 0 < size) : RowA w (fun b => ok b ∧ b < w.heap.size) size A n xs := by
  refine ⟨h.1, fun hn => ?_⟩
  obtain ⟨b, off, e, hb, hc⟩ := h.2 hn
  have h0 : 0 < xs.length := by rw [h.1]; exact Nat.mul_pos hn hs
  exact ⟨b, off, e, ⟨hb, lt_of_cell (hc 0 _ (List.getElem?_eq_getElem h0))⟩, hc⟩
theorem Row.bound (h : Row w ok size v n xs) (hs : 0 < size) : Row w (fun b => ok b ∧ b < w.heap.size) size v n xs := by
  obtain ⟨A, c, e, hc, hr⟩ := h
  exact ⟨A, c, e, hc, hr.bound hs⟩
theorem Bools.bound {l : List Bool} (h : Bools w ok v l) : Bools w (fun b => ok b ∧ b < w.heap.size) v l := Row.bound h (by decide)
theorem Each.bound {α : Type} {R R' : Value → α → Prop} {l : List α} (h : Each R w ok v l) (hR : ∀ u x, R u x → R' u x) : Each R' w (fun b => ok b ∧ b < w.heap.size) v l := by
  obtain ⟨vs, hr, he⟩ := h
  refine ⟨vs, hr.bound (by decide), fun i x hx => ?_⟩
  obtain ⟨u, hu, hr⟩ := he i x hx
  exact ⟨u, hu, hR _ _ hr⟩
theorem Boolss.bound {l : List (List Bool)} (h : Boolss w ok v l) : Boolss w (fun b => ok b ∧ b < w.heap.size) v l := Each.bound h (fun _ _ h => Bools.bound h)
theorem Intss.bound {l : List (List Int)} (h : Intss w ok v l) : Intss w (fun b => ok b ∧ b < w.heap.size) v l := Each.bound h (fun _ _ h => Ints.bound h)
theorem Tasks.bound {l : List (List Int × List Int)} (h : Tasks w ok v l) : Tasks w (fun b => ok b ∧ b < w.heap.size) v l := by
  obtain ⟨vs, hr, he⟩ := h
  refine ⟨vs, hr.bound (by decide), fun i x hx => ?_⟩
  obtain ⟨s, u1, u2, h0, h1, h2, i1, i2⟩ := he i x hx
  exact ⟨s, u1, u2, h0, h1, h2, i1.bound, i2.bound⟩
theorem MazeV.bound {m : MZ} (h : MazeV w ok v m) : MazeV w (fun b => ok b ∧ b < w.heap.size) v m := by
  obtain ⟨f, u, t, rfl, h1, h2, h3⟩ := h
  exact ⟨f, u, t, rfl, h1.bound, h2.bound, h3.bound⟩
theorem StAt.bound {g gu : Nat} {m : MZ} {ch us : List Int} {ps : List (List Int)} {f u t vc vp : Value} (h : StAt w ok g m ch ps us f u t vc vp gu) : StAt w (fun b => ok b ∧ b < w.heap.size) g m ch ps us f u t vc vp gu :=
  ⟨h.blk, ⟨h.okg, lt_of_some h.blk⟩, h.maze.bound, h.ch.bound, h.ps.bound, ⟨h.oku, lt_of_some h.us⟩, h.us⟩
end


/-- A number in a range. -/
abbrev InR (R : Int → Prop) := { x : Int // R x }
theorem holds_sub {R : Int → Prop} {w : World} {B g cap : Nat} {l : List (InR R)} [Inhabited (InR R)] (h : OwnI w B (.slice (some ⟨g, 0, none⟩) (l.map (·.1)).length cap) (l.map (·.1))) : Holds (fun x : InR R => Value.int .i64 x.1) w g 0 l.toArray := by
  intro j hj
  have hj' : j < l.length := by simpa using hj
  refine ⟨?_, by have := World.ownsRow.frozenAt h j; simpa using this⟩
  have := World.ownsRow.cellAt h j (by simpa using hj')
  rw [Nat.zero_add, this]
  simp [getElem!_pos, hj']

theorem sortWorld_same {α : Type} [Inhabited α] {enc : α → Value} {w : World} {blk off n B : Nat} {dk : Array α} {os : Array Obj} (hB : B ≤ blk) (hw : B ≤ w.heap.size) : Same (fun b => b < B) w (sortWorld enc w blk off n dk os) := by
  intro b hb hlt
  have hne : blk ≠ b := by omega
  simp [sortWorld, grow, putRow, mapBlock, Sort.ahead, Array.getElem?_append, Array.getElem?_modify, Array.getElem_modify, hlt, hne]

theorem deleteFuncI_calls {w1 w : World} {v : Value} {l : List Int} (hM : Mk w1 w v l) (R : Int → Prop) (hR : ∀ x ∈ l, R x) (h0 : R 0) (hl : l.length ≤ 1000000000000) (fn : FuncId) (lb : Array Value) (p : Int → Bool)
    (eg : ∀ args w, (callFunc fn args).run Try.prog w = .ok (.enter fn args) w)
    (hp : ∀ x, R x → ∀ W, Same (fun b => b < w1.heap.size) w W → Calls Try.prog fn (#[.int .i64 x] ++ lb) W fun e w' => e = .returned (.bool (p x)) ∧ Drew W w') :
    Calls Try.prog 100 #[v, .func (.func fn) #[] lb] w fun e w' => ∃ v', e = .returned v' ∧ Mk w1 w' v' (l.filter fun x => !p x) := by
  rcases Nat.eq_zero_or_pos l.length with hl0 | hl0
  · have hnil := List.eq_nil_of_length_eq_zero hl0
    subst hnil
    obtain ⟨A, c, rfl, _⟩ := hM.slice
    have hI := Lib.hid (indexFuncI_calls fn lb p w hM.ints (by simp) eg (fun x hx => by cases hx))
    have HM := Lib.hid hM; clear hM hp
    go_enter Try.func100, Try.ntmps100
    go_wp2_with fail
    refine hI.out.mono ?_
    rintro e w2 ⟨r, rfl, hr, hr1, hd⟩
    have hr2 : r = -1 := by
      have : ¬ 0 ≤ r := fun h => by have := hr.1 h; simp at this
      omega
    subst hr2
    have hE : Ext w w2 := hd.below _
    clear hd hr
    go_wp2_with fail
    go_ret
    exact ⟨_, rfl, HM.out.more hE⟩
  · letI : Inhabited (InR R) := ⟨⟨0, h0⟩⟩
    obtain ⟨l', rfl⟩ : ∃ l' : List (InR R), l'.map (·.1) = l := ⟨l.attachWith R hR, by simp⟩
    obtain ⟨g, cap, rfl, hg, hlt⟩ := World.ownsRow.form hM.own hl0
    have hcap := own_cap hM.own
    have hll : (l'.map (·.1)).length = l'.toArray.size := by simp
    have hc := AnyE.slices_DeleteFunc dfIA (fun x : InR R => Value.int .i64 x.1) (fun _ => rfl) (fun x => p x.1) fn lb eg ⟨0, h0⟩ Try.zeroValue3 g 0 cap l'.toArray w
      (fun W x hb => by
        refine Calls.mono (hp x.1 x.2 W (fun b hb' hlt' => hb.block b hlt')) ?_
        rintro e w' ⟨rfl, q, rfl⟩
        exact ⟨rfl, q, rfl⟩)
      (fun n os dk x _ => by
        refine Calls.mono (hp x.1 x.2 _ (sortWorld_same hg hM.ext.size)) ?_
        rintro e w' ⟨rfl, q, rfl⟩
        exact ⟨rfl, q, rfl⟩)
      (holds_sub hM.own) (by rw [← hll]; omega) (by rw [← hll]; exact hcap)
    change Calls Try.prog 100 _ _ _ at hc
    rw [← hll] at hc
    refine Calls.mono hc ?_
    rintro e w' ⟨rfl, q, rfl⟩
    have hfm : (l'.map (·.1)).filter (fun x => !p x) = (l'.filter fun x => !p x.1).map (·.1) := by rw [List.filter_map]; rfl
    have hfl : (l'.filter fun x => !p x.1).length ≤ l'.length := List.length_filter_le _ _
    refine ⟨_, rfl, ?_, Lib.below_putRow hM.ext hg⟩
    have ho : w.ownsRow w1.heap.size 3 1 (.slice (some ⟨g, 0, none⟩) (l'.map (·.1)).length cap) (l'.map (·.1)).length (l'.map fun x : InR R => Value.int .i64 x.1) := by
      have := hM.own
      unfold OwnI at this
      rw [List.map_map] at this
      exact this
    have := Lib.ownsRow_putRow (enc := fun x : InR R => Value.int .i64 x.1) (q := q) (k := (l'.filter fun x => !p x.1).length) (ys := (l'.filter fun x => !p x.1) ++ List.replicate (l'.length - (l'.filter fun x => !p x.1).length) ⟨0, h0⟩) ho (by simp; omega) (by simpa using hfl)
    rw [List.take_left' rfl] at this
    rw [hfm]
    unfold OwnI
    rw [List.map_map, List.length_map]
    simpa using this
end Go.Proofs.Ytgpjfpcjiebjiaa
