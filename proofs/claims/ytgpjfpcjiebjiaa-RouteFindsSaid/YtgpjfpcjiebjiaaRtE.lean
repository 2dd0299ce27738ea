/- Walks: functions that are handed a predicate. -/
import Derived.Test.YtgpjfpcjiebjiaaRtD
namespace Go.Proofs.Ytgpjfpcjiebjiaa
open Go.RowKit
set_option linter.unusedVariables false
set_option linter.unusedSimpArgs false

theorem any_take_succ {α : Type} {l : List α} {k : Nat} (p : α → Bool) (h : k < l.length) : (l.take (k + 1)).any p = ((l.take k).any p || p l[k]) := by
  rw [List.take_succ_eq_append_getElem h, List.any_append]; simp

theorem callFunc_run {P : Program} {n : FuncId} {fn : Func} (h : P.funcs[n]? = some fn) (hn : (fn.name == "runtime.NumGoroutine") = false) (hb : fn.body.isNone = false) (a : Array Value) (w : World) : (callFunc n a).run P w = .ok (.enter n a) w := by
  unfold callFunc
  simp only [Sem.run_bind, run_program, Result.andThen_ok, h, hn, hb, Bool.false_eq_true, if_false, Sem.run_pure]

set_option maxRecDepth 100000 in
theorem indexFuncI_calls {ok : Nat → Prop} {v : Value} {l : List Int} (n : FuncId) (caps : Array Value) (p : Int → Bool) (w : World) (h : Ints w ok v l) (hl : l.length ≤ 20000000000000)
    (hcf : ∀ (a : Array Value) (w : World), (callFunc n a).run Try.prog w = .ok (.enter n a) w)
    (hp : ∀ x ∈ l, ∀ w1, Drew w w1 → Calls Try.prog n (#[.int .i64 x] ++ caps) w1 fun e w' => e = .returned (.bool (p x)) ∧ Drew w1 w') :
    Calls Try.prog 82 #[v, .func (.func n) #[] caps] w fun e w' => ∃ r : Int, e = .returned (.int .i64 r) ∧ (0 ≤ r ↔ l.any p = true) ∧ -1 ≤ r ∧ Drew w w' := by
  obtain ⟨A, c, rfl, hc, hr⟩ := h
  have HR := Lib.hid hr; clear hr
  have HP := Lib.hid hp; clear hp
  go_enter Try.func82, Try.ntmps82
  go_wp2_with fail
  go_loopw [8] (fun i wr => ∃ k : Nat, k ≤ l.length ∧ i = .int .i64 k ∧ Hid ((l.take k).any p = false) ∧ Hid (Drew w wr)) (fun i _ => l.length - (intOf i).toNat)
  case atStart => exact ⟨0, Nat.zero_le _, rfl, by simp [Hid], Drew.refl _⟩
  case round =>
    obtain ⟨k, hk, rfl, hn, hd⟩ := hrel
    by_cases hlt : k < l.length
    · obtain ⟨b, off, rfl, _, hcell⟩ := intsAt (HR.out.keep (hd.out.same ok)) hlt hlt
      obtain ⟨x, hx⟩ : ∃ x, x = l[k] := ⟨_, rfl⟩
      rw [← hx] at hcell
      have hxl : x ∈ l := by rw [hx]; exact List.getElem_mem _
      have hsucc := Lib.hid (any_take_succ p hlt)
      rw [← hx] at hsucc
      clear hx
      have hcall := Lib.hid (HP.out x hxl wr hd.out)
      by_cases hpx : p x = true
      · go_wp2_with fail
        refine hcall.out.mono ?_
        rintro e w1 ⟨rfl, hd1⟩
        rw [hpx]
        have HD1 := Lib.hid (hd.out.trans hd1); clear hd1
        have HPX := Lib.hid hpx; clear hpx
        go_wp2_with fail
        go_ret
        refine ⟨_, rfl, ⟨fun _ => ?_, fun _ => by omega⟩, by omega, HD1.out⟩
        rw [List.any_eq_true]
        exact ⟨x, hxl, HPX.out⟩
      · have hpf : p x = false := by simpa using hpx
        clear hpx
        go_wp2_with fail
        refine hcall.out.mono ?_
        rintro e w1 ⟨rfl, hd1⟩
        rw [hpf]
        have HD1 := Lib.hid (hd.out.trans hd1); clear hd1
        have HPX := Lib.hid hpf; clear hpf
        go_wp2_with fail
        go_roundw
        case rel => exact ⟨k + 1, by omega, by go_num, by
          show _ = false
          rw [hsucc.out, hn.out, HPX.out]; rfl, HD1⟩
        case measure => simp [intOf]; omega
    · obtain rfl : k = l.length := by omega
      go_wp2
      go_ret
      have h := hn.out
      rw [List.take_length] at h
      refine ⟨_, rfl, ⟨fun h' => by omega, fun h' => ?_⟩, by omega, hd.out⟩
      rw [h] at h'
      cases h'
set_option maxRecDepth 100000 in
theorem indexFuncB_calls {ok : Nat → Prop} {v : Value} {l : List (List Bool)} (n : FuncId) (caps : Array Value) (p : List Bool → Bool) (w : World) (h : Each (Bools w ok) w ok v l) (hl : l.length ≤ 20000000000000)
    (hcf : ∀ (a : Array Value) (w : World), (callFunc n a).run Try.prog w = .ok (.enter n a) w)
    (hp : ∀ x ∈ l, ∀ u, Bools w ok u x → ∀ w1, Drew w w1 → Calls Try.prog n (#[u] ++ caps) w1 fun e w' => e = .returned (.bool (p x)) ∧ Drew w1 w') :
    Calls Try.prog 81 #[v, .func (.func n) #[] caps] w fun e w' => ∃ r : Int, e = .returned (.int .i64 r) ∧ (0 ≤ r ↔ l.any p = true) ∧ -1 ≤ r ∧ Drew w w' := by
  obtain ⟨vs, ⟨A, c, rfl, hc, hr⟩, he⟩ := h
  have HR := Lib.hid hr; clear hr
  have HE := Lib.hid he; clear he
  have HP := Lib.hid hp; clear hp
  go_enter Try.func81, Try.ntmps81
  go_wp2_with fail
  go_loopw [8] (fun i wr => ∃ k : Nat, k ≤ l.length ∧ i = .int .i64 k ∧ Hid ((l.take k).any p = false) ∧ Hid (Drew w wr)) (fun i _ => l.length - (intOf i).toNat)
  case atStart => exact ⟨0, Nat.zero_le _, rfl, by simp [Hid], Drew.refl _⟩
  case round =>
    obtain ⟨k, hk, rfl, hn, hd⟩ := hrel
    by_cases hlt : k < l.length
    · obtain ⟨b, off, u, rfl, _, hcell, hu⟩ := eachAt (HR.out.keep (hd.out.same ok)) HE.out hlt hlt
      obtain ⟨x, hx⟩ : ∃ x, x = l[k] := ⟨_, rfl⟩
      rw [← hx] at hu
      have hxl : x ∈ l := by rw [hx]; exact List.getElem_mem _
      have hsucc := Lib.hid (any_take_succ p hlt)
      rw [← hx] at hsucc
      clear hx
      have hcall := Lib.hid (HP.out x hxl u hu wr hd.out)
      clear hu
      by_cases hpx : p x = true
      · go_wp2_with fail
        refine hcall.out.mono ?_
        rintro e w1 ⟨rfl, hd1⟩
        rw [hpx]
        have HD1 := Lib.hid (hd.out.trans hd1); clear hd1
        have HPX := Lib.hid hpx; clear hpx
        go_wp2_with fail
        go_ret
        refine ⟨_, rfl, ⟨fun _ => ?_, fun _ => by omega⟩, by omega, HD1.out⟩
        rw [List.any_eq_true]
        exact ⟨x, hxl, HPX.out⟩
      · have hpf : p x = false := by simpa using hpx
        clear hpx
        go_wp2_with fail
        refine hcall.out.mono ?_
        rintro e w1 ⟨rfl, hd1⟩
        rw [hpf]
        have HD1 := Lib.hid (hd.out.trans hd1); clear hd1
        have HPX := Lib.hid hpf; clear hpf
        go_wp2_with fail
        go_roundw
        case rel => exact ⟨k + 1, by omega, by go_num, by
          show _ = false
          rw [hsucc.out, hn.out, HPX.out]; rfl, HD1⟩
        case measure => simp [intOf]; omega
    · obtain rfl : k = l.length := by omega
      go_wp2
      go_ret
      have h := hn.out
      rw [List.take_length] at h
      refine ⟨_, rfl, ⟨fun h' => by omega, fun h' => ?_⟩, by omega, hd.out⟩
      rw [h] at h'
      cases h'
set_option maxRecDepth 100000 in
theorem indexFuncL_calls {ok : Nat → Prop} {v : Value} {l : List (List Int)} (n : FuncId) (caps : Array Value) (p : List Int → Bool) (w : World) (h : Each (Ints w ok) w ok v l) (hl : l.length ≤ 20000000000000)
    (hcf : ∀ (a : Array Value) (w : World), (callFunc n a).run Try.prog w = .ok (.enter n a) w)
    (hp : ∀ x ∈ l, ∀ u, Ints w ok u x → ∀ w1, Drew w w1 → Calls Try.prog n (#[u] ++ caps) w1 fun e w' => e = .returned (.bool (p x)) ∧ Drew w1 w') :
    Calls Try.prog 94 #[v, .func (.func n) #[] caps] w fun e w' => ∃ r : Int, e = .returned (.int .i64 r) ∧ (0 ≤ r ↔ l.any p = true) ∧ -1 ≤ r ∧ Drew w w' := by
  obtain ⟨vs, ⟨A, c, rfl, hc, hr⟩, he⟩ := h
  have HR := Lib.hid hr; clear hr
  have HE := Lib.hid he; clear he
  have HP := Lib.hid hp; clear hp
  go_enter Try.func94, Try.ntmps94
  go_wp2_with fail
  go_loopw [8] (fun i wr => ∃ k : Nat, k ≤ l.length ∧ i = .int .i64 k ∧ Hid ((l.take k).any p = false) ∧ Hid (Drew w wr)) (fun i _ => l.length - (intOf i).toNat)
  case atStart => exact ⟨0, Nat.zero_le _, rfl, by simp [Hid], Drew.refl _⟩
  case round =>
    obtain ⟨k, hk, rfl, hn, hd⟩ := hrel
    by_cases hlt : k < l.length
    · obtain ⟨b, off, u, rfl, _, hcell, hu⟩ := eachAt (HR.out.keep (hd.out.same ok)) HE.out hlt hlt
      obtain ⟨x, hx⟩ : ∃ x, x = l[k] := ⟨_, rfl⟩
      rw [← hx] at hu
      have hxl : x ∈ l := by rw [hx]; exact List.getElem_mem _
      have hsucc := Lib.hid (any_take_succ p hlt)
      rw [← hx] at hsucc
      clear hx
      have hcall := Lib.hid (HP.out x hxl u hu wr hd.out)
      clear hu
      by_cases hpx : p x = true
      · go_wp2_with fail
        refine hcall.out.mono ?_
        rintro e w1 ⟨rfl, hd1⟩
        rw [hpx]
        have HD1 := Lib.hid (hd.out.trans hd1); clear hd1
        have HPX := Lib.hid hpx; clear hpx
        go_wp2_with fail
        go_ret
        refine ⟨_, rfl, ⟨fun _ => ?_, fun _ => by omega⟩, by omega, HD1.out⟩
        rw [List.any_eq_true]
        exact ⟨x, hxl, HPX.out⟩
      · have hpf : p x = false := by simpa using hpx
        clear hpx
        go_wp2_with fail
        refine hcall.out.mono ?_
        rintro e w1 ⟨rfl, hd1⟩
        rw [hpf]
        have HD1 := Lib.hid (hd.out.trans hd1); clear hd1
        have HPX := Lib.hid hpf; clear hpf
        go_wp2_with fail
        go_roundw
        case rel => exact ⟨k + 1, by omega, by go_num, by
          show _ = false
          rw [hsucc.out, hn.out, HPX.out]; rfl, HD1⟩
        case measure => simp [intOf]; omega
    · obtain rfl : k = l.length := by omega
      go_wp2
      go_ret
      have h := hn.out
      rw [List.take_length] at h
      refine ⟨_, rfl, ⟨fun h' => by omega, fun h' => ?_⟩, by omega, hd.out⟩
      rw [h] at h'
      cases h'
set_option maxRecDepth 100000 in
theorem containsFuncI_calls {ok : Nat → Prop} {v : Value} {l : List (Int)} (n : FuncId) (caps : Array Value) (p : Int → Bool) (w : World) (h : Ints w ok v l) (hl : l.length ≤ 20000000000000) (hcf : ∀ (a : Array Value) (w : World), (callFunc n a).run Try.prog w = .ok (.enter n a) w)
    (hp : ∀ x ∈ l, ∀ w1, Drew w w1 → Calls Try.prog n (#[.int .i64 x] ++ caps) w1 fun e w' => e = .returned (.bool (p x)) ∧ Drew w1 w') :
    Calls Try.prog 53 #[v, .func (.func n) #[] caps] w fun e w' => e = .returned (.bool (l.any p)) ∧ Drew w w' := by
  have H := Lib.hid (indexFuncI_calls n caps p w h hl hcf hp)
  clear hp
  obtain ⟨A, c, rfl, hc, hr⟩ := h
  clear hr
  go_enter Try.func53, Try.ntmps53
  go_wp2_with fail
  refine H.out.mono ?_
  rintro e w1 ⟨r, rfl, hr, hr1, hd⟩
  have HR := Lib.hid hr; clear hr
  have HD := Lib.hid hd; clear hd
  go_wp2_with fail
  go_ret
  refine ⟨ret_bool ?_, HD.out⟩
  rw [Bool.eq_iff_iff, decide_eq_true_iff]
  exact HR.out

set_option maxRecDepth 100000 in
theorem containsFuncB_calls {ok : Nat → Prop} {v : Value} {l : List (List Bool)} (n : FuncId) (caps : Array Value) (p : List Bool → Bool) (w : World) (h : Each (Bools w ok) w ok v l) (hl : l.length ≤ 20000000000000) (hcf : ∀ (a : Array Value) (w : World), (callFunc n a).run Try.prog w = .ok (.enter n a) w)
    (hp : ∀ x ∈ l, ∀ u, Bools w ok u x → ∀ w1, Drew w w1 → Calls Try.prog n (#[u] ++ caps) w1 fun e w' => e = .returned (.bool (p x)) ∧ Drew w1 w') :
    Calls Try.prog 50 #[v, .func (.func n) #[] caps] w fun e w' => e = .returned (.bool (l.any p)) ∧ Drew w w' := by
  have H := Lib.hid (indexFuncB_calls n caps p w h hl hcf hp)
  clear hp
  obtain ⟨vs, ⟨A, c, rfl, hc, hr⟩, he⟩ := h
  clear hr he
  go_enter Try.func50, Try.ntmps50
  go_wp2_with fail
  refine H.out.mono ?_
  rintro e w1 ⟨r, rfl, hr, hr1, hd⟩
  have HR := Lib.hid hr; clear hr
  have HD := Lib.hid hd; clear hd
  go_wp2_with fail
  go_ret
  refine ⟨ret_bool ?_, HD.out⟩
  rw [Bool.eq_iff_iff, decide_eq_true_iff]
  exact HR.out

end Go.Proofs.Ytgpjfpcjiebjiaa
