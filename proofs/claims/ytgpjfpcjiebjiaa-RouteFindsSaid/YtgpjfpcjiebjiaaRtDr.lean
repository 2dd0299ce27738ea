/- Walks: numbers drawn out of a list. -/
import Derived.Test.YtgpjfpcjiebjiaaRtT
import Derived.Deep.DeepCutAuto
namespace Go.Proofs.Ytgpjfpcjiebjiaa
open Go.RowKit
set_option linter.unusedVariables false
set_option linter.unusedSimpArgs false

/-- What is drawn next, and how many have been drawn. -/
def drawV (l : List Int) (k : Nat) (n : Int) : Int := if h : k < l.length then l[k] % n else 0
def drawK (l : List Int) (k : Nat) : Nat := if k < l.length then k + 1 else k

set_option maxHeartbeats 1000000 in
set_option maxRecDepth 100000 in
theorem draw_calls {ok : Nat → Prop} {v : Value} {l : List Int} (gd k : Nat) (n : Int) (w : World) (hb : Blk w gd 104 #[v, .int .i64 k]) (h : Ints w ok v l) (hg : ¬ ok gd) (hl : l.length ≤ 9223372036854775807) (hk : k ≤ l.length) (hn : 0 < n) (hn2 : n ≤ 1000000) :
    Calls Try.prog 80 #[.pointer (some ⟨gd, 0, none⟩), .int .i64 n] w fun e w' => e = .returned (.int .i64 (drawV l k n)) ∧ Blk w' gd 104 #[v, .int .i64 (drawK l k)] ∧ w.grownBy w' (some gd) := by
  obtain ⟨A, c, rfl, hc, hr⟩ := h
  have hc0 := hb.cell (k := 0) rfl
  have hc1 := hb.cell (k := 1) rfl
  have hx := Ext.refl w
  by_cases hlt : k < l.length
  · obtain ⟨b, off, rfl, hob, hcell⟩ := intsAt hr hlt hlt
    have hbg : b ≠ gd := fun e => hg (e ▸ hob)
    have hv : drawV l k n = l[k] % n := by unfold drawV; rw [dif_pos hlt]
    have hkk : drawK l k = k + 1 := by unfold drawK; rw [if_pos hlt]
    rw [hv, hkk]
    clear hv hkk hr
    obtain ⟨x, hxx⟩ : ∃ x, x = l[k] := ⟨_, rfl⟩
    rw [← hxx] at hcell ⊢
    clear hxx
    have hf := hb.frozen 1
    have HB := Lib.hid hb; clear hb
    have hd : decide ((l.length : Int) ≤ (k : Int)) = false := decide_eq_false (by omega)
    go_enter Try.func80, Try.ntmps80
    go_wp2_with fail
    go_quiet (fail)
    generalize hw1 : w.drewN nq = w1
    have hd1 : Drew w w1 := ⟨nq, hw1.symm⟩
    have hE1 : Ext w w1 := hd1.below _
    have hh : w1.heap = w.heap := by rw [← hw1]; rfl
    clear hw1 hc0 hc1 hf
    have hB1 : Blk w1 gd 104 #[.slice (some ⟨b, off, none⟩) l.length c, .int .i64 k] := HB.out.ext hE1
    have hc0 := hB1.cell (k := 0) rfl
    have hc1 := hB1.cell (k := 1) rfl
    have hf := hB1.frozen 1
    have hcell1 := hE1.cell hcell
    have hB2 : Hid (Blk (w1.setCell ⟨gd, 1, none⟩ (.int .i64 ((k : Int) + 1))) gd 104 #[.slice (some ⟨b, off, none⟩) l.length c, .int .i64 ((k : Int) + 1)]) := hB1.set (k := 1) _
    have hcell2 : (w1.setCell ⟨gd, 1, none⟩ (.int .i64 ((k : Int) + 1))).cell? ⟨b, off + k, none⟩ = some (.int .i64 x) := (World.cell?_of_block (w := w1) (Below.heap_setCell w1 _ _ b hbg)).trans hcell1
    have HG : Hid (w.grownBy (w1.setCell ⟨gd, 1, none⟩ (.int .i64 ((k : Int) + 1))) (some gd)) := ⟨hE1.os, hE1.tape, hE1.output, by simp [hh], fun i hi hne => by rw [Below.heap_setCell w1 _ _ i (fun e => hne (by rw [e])), hh]⟩
    have hcb0 := hB2.out.cell (k := 0) rfl
    have hcb1 := hB2.out.cell (k := 1) rfl
    clear hB1 hcell
    go_upto_region 4 with fail
    generalize w1.setCell ⟨gd, 1, none⟩ (.int .i64 ((k : Int) + 1)) = w2 at *
    clear hc0 hc1 hf hcell1
    have hx2 := Ext.refl w2
    have hkl : (k : Int) < (l.length : Int) := by omega
    go_quiet ((go_at_call 47; refine (mod_calls x n _ hn hn2).mono ?_; rintro e w9 ⟨he9, rfl⟩; exact ⟨he9, ⟨_, rfl⟩⟩))
    go_wp2
    go_ret
    refine ⟨rfl, hB2.out.ext ((Ext.refl w2).drewN _), ?_⟩
    have h := HG.out
    exact ⟨h.os, h.tape, h.output, h.size, h.block⟩
  · have hv : drawV l k n = 0 := by unfold drawV; rw [dif_neg hlt]
    have hkk : drawK l k = k := by unfold drawK; rw [if_neg hlt]
    rw [hv, hkk]
    clear hv hkk hr
    have HB := Lib.hid hb; clear hb
    have hd : decide ((l.length : Int) ≤ (k : Int)) = true := decide_eq_true (by omega)
    go_enter Try.func80, Try.ntmps80
    go_wp2_with fail
    go_quiet (fail)
    go_wp2
    go_ret
    exact ⟨rfl, HB.out, ⟨rfl, rfl, rfl, Nat.le_refl _, fun _ _ _ => rfl⟩⟩
end Go.Proofs.Ytgpjfpcjiebjiaa
