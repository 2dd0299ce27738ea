/- Walks: comparisons of lists. -/
import Derived.Test.YtgpjfpcjiebjiaaRtA
namespace Go.Proofs.Ytgpjfpcjiebjiaa
open Go.RowKit
set_option linter.unusedVariables false
set_option linter.unusedSimpArgs false

theorem below_drewN {B : Nat} {a w : World} (h : Below B a w) (n : Nat) : Below B a (w.drewN n) := ⟨h.os, h.tape, h.output, h.size, h.block⟩
theorem take_succ_eq {α : Type} {a b : List α} {k : Nat} (ha : k < a.length) (hb : k < b.length) : a.take (k + 1) = b.take (k + 1) ↔ a.take k = b.take k ∧ a[k] = b[k] := by
  rw [List.take_succ_eq_append_getElem ha, List.take_succ_eq_append_getElem hb]
  constructor
  · intro h
    have hl : (a.take k).length = (b.take k).length := by simp; omega
    have := List.append_inj h hl
    simpa using this
  · rintro ⟨h1, h2⟩
    rw [h1, h2]

/-- w' is w but for some draws. -/
def Drew (w w' : World) : Prop := ∃ n, w' = w.drewN n
theorem Drew.refl (w : World) : Drew w w := ⟨0, rfl⟩
theorem Drew.trans {a b c : World} (h : Drew a b) (h' : Drew b c) : Drew a c := by
  obtain ⟨n, rfl⟩ := h
  obtain ⟨m, rfl⟩ := h'
  exact ⟨n + m, by rw [World.drewN_drewN]⟩
theorem Drew.more {a b : World} (h : Drew a b) (n : Nat) : Drew a (b.drewN n) := h.trans ⟨n, rfl⟩
theorem Drew.same {a b : World} (h : Drew a b) (ok : Nat → Prop) : Same ok a b := by
  obtain ⟨n, rfl⟩ := h
  exact fun _ _ _ => rfl
theorem Drew.below {a b : World} (h : Drew a b) (B : Nat) : Below B a b := by
  obtain ⟨n, rfl⟩ := h
  exact below_drewN (Below.refl _ _) n
theorem Drew.of_eq {a b : World} (h : a = b) : Drew a b := ⟨0, h.symm⟩

set_option maxRecDepth 100000 in
theorem same_calls {ok ok' : Nat → Prop} {v v' : Value} {a b : List Int} (w : World) (h : Ints w ok v a) (h' : Ints w ok' v' b) (hl : a.length ≤ 20000000000000) (hl' : b.length ≤ 20000000000000) :
    Calls Try.prog 54 #[v, v'] w fun e w' => e = .returned (.bool (decide (a = b))) ∧ Drew w w' := by
  obtain ⟨A, c, rfl, hc, hr⟩ := h
  obtain ⟨A', c', rfl, hc', hr'⟩ := h'
  have HR := Lib.hid hr; clear hr
  have HR' := Lib.hid hr'; clear hr'
  by_cases hlen : a.length = b.length
  · have hlb : ((a.length : Int) != (b.length : Int)) = false := by simp [hlen]
    have hle : a.length ≤ b.length := by omega
    have hle' : b.length ≤ a.length := by omega
    have HL := Lib.hid hlen; clear hlen
    go_enter Try.func54, Try.ntmps54
    go_wp2
    go_loopw [5] (fun i wr => ∃ k : Nat, k ≤ a.length ∧ i = .int .i64 k ∧ Hid (a.take k = b.take k) ∧ Hid (Drew w wr)) (fun i _ => a.length - (intOf i).toNat)
    case atStart => exact ⟨0, Nat.zero_le _, rfl, by simp [Hid], Drew.refl _⟩
    case round =>
      obtain ⟨k, hk, rfl, heq, hq⟩ := hrel
      by_cases hlt : k < a.length
      · have hlt' : k < b.length := by omega
        obtain ⟨bA, off, rfl, _, hcell⟩ := intsAt (HR.out.keep (hq.out.same ok)) hlt hlt
        obtain ⟨bB, off', rfl, _, hcell'⟩ := intsAt (HR'.out.keep (hq.out.same ok')) hlt' hlt'
        obtain ⟨x, hx⟩ : ∃ x, x = a[k] := ⟨_, rfl⟩
        obtain ⟨y, hy⟩ : ∃ y, y = b[k] := ⟨_, rfl⟩
        rw [← hx] at hcell
        rw [← hy] at hcell'
        have HX := Lib.hid hx; clear hx
        have HY := Lib.hid hy; clear hy
        by_cases hxy : x = y
        · have hbt : (x != y) = false := by simp [hxy]
          have HXY := Lib.hid hxy; clear hxy
          go_wp2
          go_quiet (fail)
          go_wp2
          go_roundw
          case rel => exact ⟨k + 1, by omega, by go_num, (take_succ_eq hlt hlt').2 ⟨heq.out, by rw [← HX.out, ← HY.out, HXY.out]⟩, hq.out.more _⟩
          case measure => simp [intOf]; omega
        · have hbt : (x != y) = true := by simp [hxy]
          have HXY := Lib.hid hxy; clear hxy
          go_wp2
          go_quiet (fail)
          go_wp2
          go_ret
          refine ⟨ret_bool ?_, hq.out.more _⟩
          rw [eq_comm, decide_eq_false_iff_not]
          rintro rfl
          exact HXY.out (HX.out.trans HY.out.symm)
      · obtain rfl : k = a.length := by omega
        go_wp2
        go_ret
        refine ⟨ret_bool ?_, hq.out⟩
        have h := heq.out
        rw [List.take_length, HL.out, List.take_length] at h
        simp [h]
  · have hlb : ((a.length : Int) != (b.length : Int)) = true := by simp only [bne_iff_ne]; omega
    have HL := Lib.hid hlen; clear hlen
    go_enter Try.func54, Try.ntmps54
    go_wp2
    go_ret
    refine ⟨ret_bool ?_, Drew.refl _⟩
    rw [eq_comm, decide_eq_false_iff_not]
    rintro rfl
    exact HL.out rfl

set_option maxRecDepth 100000 in
theorem is_calls {ok ok' : Nat → Prop} {v v' : Value} {a b : List Int} (w : World) (h : Ints w ok v a) (h' : Ints w ok' v' b) (hl : a.length ≤ 20000000000000) (hl' : b.length ≤ 20000000000000) :
    Calls Try.prog 17 #[v, v'] w fun e w' => e = .returned (.bool (decide (a = b))) ∧ Drew w w' := by
  have H := Lib.hid (same_calls w h h' hl hl')
  obtain ⟨A, c, rfl, hc, hr⟩ := h
  obtain ⟨A', c', rfl, hc', hr'⟩ := h'
  clear hr hr'
  go_enter Try.func17, Try.ntmps17
  go_wp2_with fail
  refine H.out.mono ?_
  rintro e w1 ⟨rfl, hd⟩
  have HD := Lib.hid hd; clear hd
  go_wp2_with fail
  go_ret
  exact ⟨rfl, HD.out⟩

set_option maxRecDepth 100000 in
theorem samePaths_calls {ok ok' : Nat → Prop} {v v' : Value} {a b : List (List Int)} (w : World) (h : Intss w ok v a) (h' : Intss w ok' v' b) (hl : a.length ≤ 20000000000000) (hl' : b.length ≤ 20000000000000)
    (ha : ∀ x ∈ a, x.length ≤ 20000000000000) (hb : ∀ x ∈ b, x.length ≤ 20000000000000) :
    Calls Try.prog 30 #[v, v'] w fun e w' => e = .returned (.bool (decide (a = b))) ∧ Drew w w' := by
  obtain ⟨vs, ⟨A, c, rfl, hc, hr⟩, he⟩ := h
  obtain ⟨vs', ⟨A', c', rfl, hc', hr'⟩, he'⟩ := h'
  have HR := Lib.hid hr; clear hr
  have HR' := Lib.hid hr'; clear hr'
  have HE := Lib.hid he; clear he
  have HE' := Lib.hid he'; clear he'
  have HA := Lib.hid ha; clear ha
  have HB := Lib.hid hb; clear hb
  by_cases hlen : a.length = b.length
  · have hlb : ((a.length : Int) != (b.length : Int)) = false := by simp [hlen]
    have hle : a.length ≤ b.length := by omega
    have hle' : b.length ≤ a.length := by omega
    have HL := Lib.hid hlen; clear hlen
    go_enter Try.func30, Try.ntmps30
    go_wp2
    go_loopw [5] (fun i wr => ∃ k : Nat, k ≤ a.length ∧ i = .int .i64 k ∧ Hid (a.take k = b.take k) ∧ Hid (Drew w wr)) (fun i _ => a.length - (intOf i).toNat)
    case atStart => exact ⟨0, Nat.zero_le _, rfl, by simp [Hid], Drew.refl _⟩
    case round =>
      obtain ⟨k, hk, rfl, heq, hq⟩ := hrel
      by_cases hlt : k < a.length
      · have hlt' : k < b.length := by omega
        obtain ⟨bA, off, u, rfl, _, hcell, hu⟩ := eachAt (HR.out.keep (hq.out.same ok)) HE.out hlt hlt
        obtain ⟨bB, off', u', rfl, _, hcell', hu'⟩ := eachAt (HR'.out.keep (hq.out.same ok')) HE'.out hlt' hlt'
        have hla := HA.out _ (List.getElem_mem hlt)
        have hlb2 := HB.out _ (List.getElem_mem hlt')
        obtain ⟨x, hx⟩ : ∃ x, x = a[k] := ⟨_, rfl⟩
        obtain ⟨y, hy⟩ : ∃ y, y = b[k] := ⟨_, rfl⟩
        rw [← hx] at hu hla
        rw [← hy] at hu' hlb2
        have HX := Lib.hid hx; clear hx
        have HY := Lib.hid hy; clear hy
        have hcallS : ∀ n, Calls Try.prog 54 #[u, u'] (wr.drewN n) fun e w' => e = .returned (.bool (decide (x = y))) ∧ ∃ m, w' = (wr.drewN n).drewN m :=
          fun n => same_calls (wr.drewN n) (hu.keep ((hq.out.more n).same ok)) (hu'.keep ((hq.out.more n).same ok')) hla hlb2
        have HS := Lib.hid hcallS; clear hcallS hu hu' hla hlb2
        by_cases hxy : x = y
        · have hbt : decide (x = y) = true := by simp [hxy]
          rw [hbt] at HS
          have HXY := Lib.hid hxy; clear hxy hbt
          go_wp2
          go_quiet ((go_at_call 54; exact Calls.quiet_of (HS.out _)))
          go_wp2
          go_roundw
          case rel => exact ⟨k + 1, by omega, by go_num, (take_succ_eq hlt hlt').2 ⟨heq.out, by rw [← HX.out, ← HY.out, HXY.out]⟩, hq.out.more _⟩
          case measure => simp [intOf]; omega
        · have hbt : decide (x = y) = false := by simp [hxy]
          rw [hbt] at HS
          have HXY := Lib.hid hxy; clear hxy hbt
          go_wp2
          go_quiet ((go_at_call 54; exact Calls.quiet_of (HS.out _)))
          go_wp2
          go_ret
          refine ⟨ret_bool ?_, hq.out.more _⟩
          rw [eq_comm, decide_eq_false_iff_not]
          rintro rfl
          exact HXY.out (HX.out.trans HY.out.symm)
      · obtain rfl : k = a.length := by omega
        go_wp2
        go_ret
        refine ⟨ret_bool ?_, hq.out⟩
        have h := heq.out
        rw [List.take_length, HL.out, List.take_length] at h
        simp [h]
  · have hlb : ((a.length : Int) != (b.length : Int)) = true := by simp only [bne_iff_ne]; omega
    have HL := Lib.hid hlen; clear hlen
    go_enter Try.func30, Try.ntmps30
    go_wp2
    go_ret
    refine ⟨ret_bool ?_, Drew.refl _⟩
    rw [eq_comm, decide_eq_false_iff_not]
    rintro rfl
    exact HL.out rfl
end Go.Proofs.Ytgpjfpcjiebjiaa
