/- A region that draws its order, walked by an invariant: each operation once, whatever came before it; also inside a round of a range over a function. -/
import Derived.Test.YtgpjfpcjiebjiaaRtT
import Derived.Deep.RegionHeld
import Derived.CallsIn
import Derived.OrdersIn
import Derived.RangeFuncCalls
namespace Go.Proofs.Ytgpjfpcjiebjiaa
open Go.RowKit
set_option linter.unusedVariables false
set_option linter.unusedSimpArgs false

section
variable {P : Program} {ops : Array Oper} {Q : Exit → Act → World → Prop} {md : Region.Mode} {S : World → Prop}

/-- Where operation j puts its value. -/
def dstOf (ops : Array Oper) (j : Nat) : Option Tmp := (ops[j]?).bind (·.dst)
def putAll (ops : Array Oper) (v : Nat → Value) : List Nat → Act → Act
  | [], a => a
  | j :: js, a => putAll ops v js (a.put (dstOf ops j) (v j))
def upd {α : Type} (f : Nat → α) (j : Nat) (x : α) : Nat → α := fun k => if k = j then x else f k
theorem upd_same {α : Type} (f : Nat → α) (j : Nat) (x : α) : upd f j x j = x := by simp [upd]
theorem upd_ne {α : Type} (f : Nat → α) {j k : Nat} (x : α) (h : k ≠ j) : upd f j x k = f k := by simp [upd, h]

theorem put_put (a : Act) (d : Option Tmp) (x y : Value) : (a.put d x).put d y = a.put d y := by
  cases d with
  | none => rfl
  | some d => simp [Act.put]
theorem put_comm (a : Act) {d d' : Option Tmp} (x y : Value) (h : d = d' → d = none) : (a.put d x).put d' y = (a.put d' y).put d x := by
  cases d with
  | none => rfl
  | some d =>
    cases d' with
    | none => rfl
    | some d' =>
      have hne : d ≠ d' := fun e => by subst e; exact absurd (h rfl) (by simp)
      simp only [Act.put]
      rw [Array.setIfInBounds_comm _ _ hne]
theorem putAll_put (v : Nat → Value) (d : Option Tmp) (x : Value) : ∀ (js : List Nat) (a : Act), (∀ k ∈ js, dstOf ops k = d → d = none) → (putAll ops v js a).put d x = putAll ops v js (a.put d x)
  | [], _, _ => rfl
  | k :: js, a, h => by
    simp only [putAll]
    rw [putAll_put v d x js _ (fun k' hk' => h k' (List.mem_cons_of_mem _ hk')), put_comm a _ _ (fun e => by rw [e]; exact h k (List.mem_cons_self ..) e)]
theorem putAll_upd (v : Nat → Value) (j : Nat) (x : Value) : ∀ (js : List Nat) (a : Act), j ∉ js → putAll ops (upd v j x) js a = putAll ops v js a
  | [], _, _ => rfl
  | k :: js, a, h => by
    simp only [putAll]
    rw [upd_ne v x (fun e => h (by simp [e])), putAll_upd v j x js _ (fun h' => h (List.mem_cons_of_mem _ h'))]
/-- Different operations put into different places. -/
def Dist (ops : Array Oper) (js : List Nat) : Prop := ∀ j ∈ js, ∀ k ∈ js, j ≠ k → dstOf ops j = dstOf ops k → dstOf ops k = none
theorem putAll_set (v : Nat → Value) (j : Nat) (x : Value) : ∀ (js : List Nat) (a : Act), js.Nodup → Dist ops js → j ∈ js → (putAll ops v js a).put (dstOf ops j) x = putAll ops (upd v j x) js a
  | [], _, _, _, h => by cases h
  | k :: js, a, hn, hd, h => by
    obtain ⟨hk, hn'⟩ := List.nodup_cons.1 hn
    simp only [putAll]
    by_cases e : j = k
    · subst e
      rw [upd_same, putAll_upd v j x js _ hk, putAll_put v _ x js _ (fun k' hk' he => hd k' (List.mem_cons_of_mem _ hk') j (List.mem_cons_self ..) (fun e => hk (e ▸ hk')) he), put_put]
    · have hj : j ∈ js := by
        rcases List.mem_cons.1 h with h | h
        · exact absurd h e
        · exact h
      rw [upd_ne v x (fun h => e h.symm)]
      exact putAll_set v j x js _ hn' (fun a ha b hb => hd a (List.mem_cons_of_mem _ ha) b (List.mem_cons_of_mem _ hb)) hj
theorem put_self (a : Act) (d : Option Tmp) : ∃ x, a.put d x = a := by
  cases d with
  | none => exact ⟨undef, rfl⟩
  | some d =>
    refine ⟨a.tmps.getD d undef, ?_⟩
    obtain ⟨t, ds⟩ := a
    simp only [Act.put, Act.mk.injEq, and_true]
    apply Array.ext_getElem?
    intro i
    rw [Array.getElem?_setIfInBounds]
    split
    · rename_i h
      subst h
      split
      · rename_i h; simp [Array.getD, h]
      · rename_i h; rw [Array.getElem?_eq_none (by omega)]
    · rfl
theorem putAll_self (a : Act) : ∀ (js : List Nat), js.Nodup → ∃ v, putAll ops v js a = a
  | [], _ => ⟨fun _ => undef, rfl⟩
  | j :: js, h => by
    obtain ⟨hj, hn⟩ := List.nodup_cons.1 h
    obtain ⟨v, hv⟩ := putAll_self a js hn
    obtain ⟨x, hx⟩ := put_self a (dstOf ops j)
    refine ⟨upd v j x, ?_⟩
    simp only [putAll]
    rw [upd_same, putAll_upd v j x js _ hj, hx, hv]

/-- What is asked of the region: no operation waits for a later one; the operations js are different ones, put into different places, and are there. -/
def regionB (md : Region.Mode) (ops : Array Oper) (js : List Nat) : Bool :=
  ((List.range ops.size).all fun j => match ops[j]? with | none => false | some o => o.after.toList.all fun e => !Region.binds md e || decide (e.on < j)) &&
  decide js.Nodup && (js.all fun j => decide (j < ops.size)) && (js.all fun j => js.all fun k => decide (j = k) || !(decide (dstOf ops j = dstOf ops k)) || decide (dstOf ops k = none))
/-- The operations that have not come up are among js. -/
def leftB (ops : Array Oper) (listed : Array Bool) (js : List Nat) : Bool := decide (listed.size = ops.size) && (List.range listed.size).all fun k => listed.getD k true || decide (k ∈ js)

/-- What an operation's step must show: behind it, its value in its place, the invariant holds. -/
def StepTo (ops : Array Oper) (S : World → Prop) (J : (Nat → Bool) → (Nat → Value) → World → Prop) (js : List Nat) (a0 : Act) (j : Nat) (e : Nat → Bool) (v : Nat → Value) (K : Act → World → Prop) : Prop :=
  ∀ a' x w', (putAll ops v js a0).put (dstOf ops j) x = a' → S w' → J (upd e j true) (upd v j x) w' → K a' w'

theorem wpAnyH_inv {js : List Nat} {a0 : Act} {J : (Nat → Bool) → (Nat → Value) → World → Prop} (hB : regionB md ops js = true)
    (step : ∀ j ∈ js, ∀ e v w, J e v w → S w → e j = false → (∀ o, ops[j]? = some o → ∀ d ∈ o.after, Region.binds md d = true → e d.on = true) → ∀ o, ops[j]? = some o → ∀ K : Act → World → Prop, Hid (StepTo ops S J js a0 j e v K) →
      if Region.wanted o (yielded ops (putAll ops v js a0).tmps) = true then Oper.wp P o (putAll ops v js a0) w K Q else K ((putAll ops v js a0).put o.dst undef) w)
    (fin : ∀ v w, J (fun _ => true) v w → S w → Q .normal (putAll ops v js a0) w) :
    ∀ (fuel : Nat) (listed : Array Bool) (v : Nat → Value) (w : World), listed.size = ops.size → (∀ k, listed.getD k true = false → k ∈ js) → (js.filter fun k => !listed.getD k true).length ≤ fuel → S w → J (fun k => listed.getD k true) v w →
      wpAnyH P md ops Q S fuel listed (putAll ops v js a0) w := by
  unfold regionB at hB
  simp only [Bool.and_eq_true, List.all_eq_true, decide_eq_true_eq, Bool.or_eq_true, Bool.not_eq_true', decide_eq_false_iff_not] at hB
  obtain ⟨⟨⟨h1, h2⟩, h3⟩, h4⟩ := hB
  have hD : Dist ops js := fun j hj k hk hne he => by
    rcases h4 j hj k hk with (h | h) | h
    · exact absurd h hne
    · exact absurd he h
    · exact h
  have hall : ∀ listed : Array Bool, (∀ k, listed.getD k true = true) → (fun k => listed.getD k true) = fun _ => true := fun listed h => funext h
  -- nothing may come up: all have come up
  have hready : ∀ listed : Array Bool, listed.size = ops.size → (∀ k, listed.getD k true = false → k ∈ js) → Region.ready md ops listed = [] → ∀ k, listed.getD k true = true := by
    intro listed hsz hjs hr
    have hk : ∀ n k, k < n → listed.getD k true = true := by
      intro n
      induction n with
      | zero => intro k h; omega
      | succ n ih =>
        intro k hkn
        cases hv : listed.getD k true with
        | true => rfl
        | false =>
          exfalso
          have hlt := h3 k (hjs k hv)
          have hmem : k ∈ Region.ready md ops listed := mem_ready.2 ⟨hv, ops[k], Array.getElem?_eq_getElem hlt, fun e he hb => by
            have := h1 k (List.mem_range.2 hlt)
            rw [Array.getElem?_eq_getElem hlt] at this
            have h5 := (List.all_eq_true.1 this) e (by simpa using he)
            simp only [Bool.or_eq_true, Bool.not_eq_true', decide_eq_true_eq] at h5
            have h6 : e.on < k := by
              rcases h5 with h5 | h5
              · rw [hb] at h5; cases h5
              · exact h5
            have h7 := ih e.on (by omega)
            have h8 : e.on < listed.size := by omega
            simp only [Array.getD, h8, dif_pos] at h7 ⊢
            exact h7⟩
          rw [hr] at hmem
          cases hmem
    exact fun k => hk (k + 1) k (by omega)
  intro fuel
  induction fuel with
  | zero =>
    intro listed v w hsz hjs hc hS hJ
    have hf : ∀ k, listed.getD k true = true := fun k => by
      cases hv : listed.getD k true with
      | true => rfl
      | false =>
        exfalso
        have : k ∈ js.filter fun k => !listed.getD k true := List.mem_filter.2 ⟨hjs k hv, by rw [hv]; rfl⟩
        rw [List.eq_nil_of_length_eq_zero (Nat.le_zero.1 hc)] at this
        cases this
    refine ⟨?_, fin v w (by rw [← hall listed hf]; exact hJ) hS⟩
    apply List.eq_nil_iff_forall_not_mem.2
    intro j hj
    have := (mem_ready.1 hj).1
    rw [hf j] at this
    cases this
  | succ fuel ih =>
    intro listed v w hsz hjs hc hS hJ
    refine ⟨fun hr => fin v w (by rw [← hall listed (hready listed hsz hjs hr)]; exact hJ) hS, fun i hi => ?_⟩
    obtain ⟨hun, o, ho, hdeps⟩ := mem_ready.1 hi
    have hij := hjs i hun
    refine wpOp_step ho fun K' hK => ?_
    have hlt : i < listed.size := by have := h3 i hij; omega
    refine step i hij (fun k => listed.getD k true) v w hJ hS hun (fun o' ho' d hd hb => ?_) o ho K' (fun a' x w' ha hS' hJ' => ?_)
    · rw [ho] at ho'
      injection ho' with ho'
      subst ho'
      have h9 := hdeps d hd hb
      by_cases h10 : d.on < listed.size
      · simp only [Array.getD, h10, dif_pos] at h9 ⊢; exact h9
      · simp only [Array.getD, h10, dif_neg, not_false_eq_true] at h9; cases h9
    · refine hK _ _ ⟨hS', ?_⟩
      have hupd : upd (fun k => listed.getD k true) i true = fun k => (listed.setIfInBounds i true).getD k true := by
        funext k
        by_cases hk : k = i
        · subst hk
          rw [upd_same]
          simp [Array.getD, hlt]
        · rw [upd_ne _ _ hk]
          simp only [Array.getD, Array.size_setIfInBounds]
          split
          · rename_i h
            show listed[k] = (listed.setIfInBounds i true)[k]'(by simpa using h)
            rw [Array.getElem_setIfInBounds, if_neg (Ne.symm hk)]
          · rfl
      rw [hupd] at hJ'
      rw [← ha, putAll_set v i x js a0 h2 hD hij]
      refine ih (listed.setIfInBounds i true) (upd v i x) w' (by simpa using hsz) (fun k hk => ?_) ?_ hS' hJ'
      · by_cases hki : k = i
        · rw [hki]; exact hij
        · have := congrFun hupd k
          rw [upd_ne _ _ hki] at this
          exact hjs k (this.trans hk)
      · have hfl : (js.filter fun k => !(listed.setIfInBounds i true).getD k true) = (js.filter fun k => !listed.getD k true).erase i := by
          rw [List.Nodup.erase_eq_filter (h2.filter _), List.filter_filter]
          apply List.filter_congr
          intro k hk
          have := congrFun hupd k
          rw [← this]
          by_cases hki : k = i
          · subst hki; simp [upd_same]
          · rw [upd_ne _ _ hki]; simp [hki]
        rw [hfl, List.length_erase_of_mem (List.mem_filter.2 ⟨hij, by show (!listed.getD i true) = true; rw [hun]; rfl⟩)]
        omega

/-- The same at a state as it stands. -/
theorem wpAnyH_by_inv (js : List Nat) (J : (Nat → Bool) → (Nat → Value) → World → Prop) {fuel : Nat} {listed : Array Bool} {a0 : Act} {w : World} (hB : regionB md ops js = true) (hL : leftB ops listed js = true) (hf : js.length ≤ fuel) (hS : S w)
    (init : ∀ e v, (∀ j ∈ js, e j = false) → J e v w)
    (hun : (js.all fun j => !listed.getD j true) = true)
    (step : ∀ j ∈ js, ∀ e v w, J e v w → S w → e j = false → (∀ o, ops[j]? = some o → ∀ d ∈ o.after, Region.binds md d = true → e d.on = true) → ∀ o, ops[j]? = some o → ∀ K : Act → World → Prop, Hid (StepTo ops S J js a0 j e v K) →
      if Region.wanted o (yielded ops (putAll ops v js a0).tmps) = true then Oper.wp P o (putAll ops v js a0) w K Q else K ((putAll ops v js a0).put o.dst undef) w)
    (fin : ∀ v w, J (fun _ => true) v w → S w → Q .normal (putAll ops v js a0) w) : wpAnyH P md ops Q S fuel listed a0 w := by
  unfold leftB at hL
  simp only [Bool.and_eq_true, List.all_eq_true, decide_eq_true_eq, Bool.or_eq_true] at hL
  have hn : js.Nodup := by
    unfold regionB at hB
    simp only [Bool.and_eq_true, decide_eq_true_eq] at hB
    exact hB.1.1.2
  obtain ⟨v, hv⟩ := putAll_self (ops := ops) a0 js hn
  have h := wpAnyH_inv hB step fin fuel listed v w hL.1 (fun k hk => by
    by_cases hlt : k < listed.size
    · rcases hL.2 k (List.mem_range.2 hlt) with h | h
      · rw [hk] at h; cases h
      · exact h
    · simp [Array.getD, hlt] at hk) (Nat.le_trans (List.length_filter_le _ _) hf) hS (init _ _ (fun j hj => by
      have := List.all_eq_true.1 hun j hj
      simpa using this))
  rwa [hv] at h
end

/-! ### In a round -/
/-- No operation of the region defers. -/
def noDeferB (ops : Array Oper) : Bool := ops.toList.all fun o => match o.op with | .defer _ => false | _ => true
theorem operIn_of {P : Program} {o : Oper} {a : Act} {w : World} {K : Act → World → Prop} {Q : Exit → Act → World → Prop} (l n : Nat) (hd : ∀ c, o.op ≠ .defer c) (h : o.wp P a w K Q) : o.wpIn (Fence.wide.inRound l) n P a w K Q := by
  have hdep : (Fence.wide.inRound l).depth.isSome = true → 1 ≤ n := fun h => absurd h (by simp [Fence.wide])
  refine ⟨fun f _ => trivial, ?_⟩
  rw [Oper.semAt_eq _ _ _ hd]
  unfold Oper.wp at h
  generalize (execOp a.eval o).run P w = r at *
  cases r with
  | ok x w' =>
    cases x with
    | enter f args => exact ⟨hdep, (CallsIn.inRound l (callsIn_wide.2 h)).mono (fun e w'' he => by cases e <;> exact he)⟩
    | row row args => exact ⟨hdep, fun c cs _ => let ⟨v, w'', r, s⟩ := h c cs; ⟨v, w'', r, stepsIn_wide.2 s⟩⟩
    | _ => first | exact h | exact (h : False).elim
  | halt x w' => cases x <;> exact h
section
variable {P : Program} {ops : Array Oper} {Q : Exit → Act → World → Prop} {md : Region.Mode} {S : World → Prop}
theorem wpOpIn_step (l n : Nat) (hND : noDeferB ops = true) {i : Nat} {o : Oper} {K : Act → World → Prop} {a : Act} {w : World} (ho : ops[i]? = some o)
    (h : ∀ K' : Act → World → Prop, (∀ a w, K a w → K' a w) → if Region.wanted o (yielded ops a.tmps) = true then Oper.wp P o a w K' Q else K' (a.put o.dst undef) w) : wpOpIn (Fence.wide.inRound l) n P ops Q i K a w := by
  have h1 := h K (fun _ _ h => h)
  unfold wpOpIn
  rw [ho]
  have hd : ∀ c, o.op ≠ .defer c := by
    intro c e
    have := List.all_eq_true.1 hND o (by simpa using Array.mem_of_getElem? ho)
    rw [e] at this
    cases this
  by_cases hw : Region.wanted o (yielded ops a.tmps) = true
  · rw [if_pos hw] at h1
    simp only [hw, if_true]
    exact operIn_of l n hd h1
  · rw [if_neg hw] at h1
    simp only [hw]
    exact ⟨fun f _ => trivial, h1⟩
theorem wpAnyIn_inv (l n : Nat) (hND : noDeferB ops = true) {js : List Nat} {a0 : Act} {J : (Nat → Bool) → (Nat → Value) → World → Prop} (hB : regionB md ops js = true)
    (step : ∀ j ∈ js, ∀ e v w, J e v w →  e j = false → (∀ o, ops[j]? = some o → ∀ d ∈ o.after, Region.binds md d = true → e d.on = true) → ∀ o, ops[j]? = some o → ∀ K : Act → World → Prop, Hid (StepTo ops (fun _ => True) J js a0 j e v K) →
      if Region.wanted o (yielded ops (putAll ops v js a0).tmps) = true then Oper.wp P o (putAll ops v js a0) w K Q else K ((putAll ops v js a0).put o.dst undef) w)
    (fin : ∀ v w, J (fun _ => true) v w →  Q .normal (putAll ops v js a0) w) :
    ∀ (fuel : Nat) (listed : Array Bool) (v : Nat → Value) (w : World), listed.size = ops.size → (∀ k, listed.getD k true = false → k ∈ js) → (js.filter fun k => !listed.getD k true).length ≤ fuel →  J (fun k => listed.getD k true) v w →
      wpAnyIn (Fence.wide.inRound l) n P md ops Q fuel listed (putAll ops v js a0) w := by
  unfold regionB at hB
  simp only [Bool.and_eq_true, List.all_eq_true, decide_eq_true_eq, Bool.or_eq_true, Bool.not_eq_true', decide_eq_false_iff_not] at hB
  obtain ⟨⟨⟨h1, h2⟩, h3⟩, h4⟩ := hB
  have hD : Dist ops js := fun j hj k hk hne he => by
    rcases h4 j hj k hk with (h | h) | h
    · exact absurd h hne
    · exact absurd he h
    · exact h
  have hall : ∀ listed : Array Bool, (∀ k, listed.getD k true = true) → (fun k => listed.getD k true) = fun _ => true := fun listed h => funext h
  -- nothing may come up: all have come up
  have hready : ∀ listed : Array Bool, listed.size = ops.size → (∀ k, listed.getD k true = false → k ∈ js) → Region.ready md ops listed = [] → ∀ k, listed.getD k true = true := by
    intro listed hsz hjs hr
    have hk : ∀ n k, k < n → listed.getD k true = true := by
      intro n
      induction n with
      | zero => intro k h; omega
      | succ n ih =>
        intro k hkn
        cases hv : listed.getD k true with
        | true => rfl
        | false =>
          exfalso
          have hlt := h3 k (hjs k hv)
          have hmem : k ∈ Region.ready md ops listed := mem_ready.2 ⟨hv, ops[k], Array.getElem?_eq_getElem hlt, fun e he hb => by
            have := h1 k (List.mem_range.2 hlt)
            rw [Array.getElem?_eq_getElem hlt] at this
            have h5 := (List.all_eq_true.1 this) e (by simpa using he)
            simp only [Bool.or_eq_true, Bool.not_eq_true', decide_eq_true_eq] at h5
            have h6 : e.on < k := by
              rcases h5 with h5 | h5
              · rw [hb] at h5; cases h5
              · exact h5
            have h7 := ih e.on (by omega)
            have h8 : e.on < listed.size := by omega
            simp only [Array.getD, h8, dif_pos] at h7 ⊢
            exact h7⟩
          rw [hr] at hmem
          cases hmem
    exact fun k => hk (k + 1) k (by omega)
  intro fuel
  induction fuel with
  | zero =>
    intro listed v w hsz hjs hc hJ
    have hf : ∀ k, listed.getD k true = true := fun k => by
      cases hv : listed.getD k true with
      | true => rfl
      | false =>
        exfalso
        have : k ∈ js.filter fun k => !listed.getD k true := List.mem_filter.2 ⟨hjs k hv, by rw [hv]; rfl⟩
        rw [List.eq_nil_of_length_eq_zero (Nat.le_zero.1 hc)] at this
        cases this
    refine ⟨?_, fin v w (by rw [← hall listed hf]; exact hJ)⟩
    apply List.eq_nil_iff_forall_not_mem.2
    intro j hj
    have := (mem_ready.1 hj).1
    rw [hf j] at this
    cases this
  | succ fuel ih =>
    intro listed v w hsz hjs hc hJ
    refine ⟨fun hr => fin v w (by rw [← hall listed (hready listed hsz hjs hr)]; exact hJ), fun i hi => ?_⟩
    obtain ⟨hun, o, ho, hdeps⟩ := mem_ready.1 hi
    have hij := hjs i hun
    refine wpOpIn_step l n hND ho fun K' hK => ?_
    have hlt : i < listed.size := by have := h3 i hij; omega
    refine step i hij (fun k => listed.getD k true) v w hJ hun (fun o' ho' d hd hb => ?_) o ho K' (fun a' x w' ha hS' hJ' => ?_)
    · rw [ho] at ho'
      injection ho' with ho'
      subst ho'
      have h9 := hdeps d hd hb
      by_cases h10 : d.on < listed.size
      · simp only [Array.getD, h10, dif_pos] at h9 ⊢; exact h9
      · simp only [Array.getD, h10, dif_neg, not_false_eq_true] at h9; cases h9
    · refine hK _ _ ?_
      have hupd : upd (fun k => listed.getD k true) i true = fun k => (listed.setIfInBounds i true).getD k true := by
        funext k
        by_cases hk : k = i
        · subst hk
          rw [upd_same]
          simp [Array.getD, hlt]
        · rw [upd_ne _ _ hk]
          simp only [Array.getD, Array.size_setIfInBounds]
          split
          · rename_i h
            show listed[k] = (listed.setIfInBounds i true)[k]'(by simpa using h)
            rw [Array.getElem_setIfInBounds, if_neg (Ne.symm hk)]
          · rfl
      rw [hupd] at hJ'
      rw [← ha, putAll_set v i x js a0 h2 hD hij]
      refine ih (listed.setIfInBounds i true) (upd v i x) w' (by simpa using hsz) (fun k hk => ?_) ?_ hJ'
      · by_cases hki : k = i
        · rw [hki]; exact hij
        · have := congrFun hupd k
          rw [upd_ne _ _ hki] at this
          exact hjs k (this.trans hk)
      · have hfl : (js.filter fun k => !(listed.setIfInBounds i true).getD k true) = (js.filter fun k => !listed.getD k true).erase i := by
          rw [List.Nodup.erase_eq_filter (h2.filter _), List.filter_filter]
          apply List.filter_congr
          intro k hk
          have := congrFun hupd k
          rw [← this]
          by_cases hki : k = i
          · subst hki; simp [upd_same]
          · rw [upd_ne _ _ hki]; simp [hki]
        rw [hfl, List.length_erase_of_mem (List.mem_filter.2 ⟨hij, by show (!listed.getD i true) = true; rw [hun]; rfl⟩)]
        omega

/-- The same at a state as it stands. -/
theorem wpAnyIn_by_inv (l n : Nat) (hND : noDeferB ops = true) (js : List Nat) (J : (Nat → Bool) → (Nat → Value) → World → Prop) {fuel : Nat} {listed : Array Bool} {a0 : Act} {w : World} (hB : regionB md ops js = true) (hL : leftB ops listed js = true) (hf : js.length ≤ fuel)
    (init : ∀ e v, (∀ j ∈ js, e j = false) → J e v w)
    (hun : (js.all fun j => !listed.getD j true) = true)
    (step : ∀ j ∈ js, ∀ e v w, J e v w → e j = false → (∀ o, ops[j]? = some o → ∀ d ∈ o.after, Region.binds md d = true → e d.on = true) → ∀ o, ops[j]? = some o → ∀ K : Act → World → Prop, Hid (StepTo ops (fun _ => True) J js a0 j e v K) →
      if Region.wanted o (yielded ops (putAll ops v js a0).tmps) = true then Oper.wp P o (putAll ops v js a0) w K Q else K ((putAll ops v js a0).put o.dst undef) w)
    (fin : ∀ v w, J (fun _ => true) v w → Q .normal (putAll ops v js a0) w) : wpAnyIn (Fence.wide.inRound l) n P md ops Q fuel listed a0 w := by
  unfold leftB at hL
  simp only [Bool.and_eq_true, List.all_eq_true, decide_eq_true_eq, Bool.or_eq_true] at hL
  have hn : js.Nodup := by
    unfold regionB at hB
    simp only [Bool.and_eq_true, decide_eq_true_eq] at hB
    exact hB.1.1.2
  obtain ⟨v, hv⟩ := putAll_self (ops := ops) a0 js hn
  have h := wpAnyIn_inv l n hND hB step fin fuel listed v w hL.1 (fun k hk => by
    by_cases hlt : k < listed.size
    · rcases hL.2 k (List.mem_range.2 hlt) with h | h
      · rw [hk] at h; cases h
      · exact h
    · simp [Array.getD, hlt] at hk) (Nat.le_trans (List.length_filter_le _ _) hf) (init _ _ (fun j hj => by
      have := List.all_eq_true.1 hun j hj
      simpa using this))
  rwa [hv] at h

end

/-! ### As the walk takes it: the frame written out, one operation after the other -/
section
variable {P : Program} {ops : Array Oper} {Q : Exit → Act → World → Prop} {md : Region.Mode} {S : World → Prop}
def StepToF (F : (Nat → Value) → Act) (d : Option Tmp) (S : World → Prop) (J : (Nat → Bool) → (Nat → Value) → World → Prop) (j : Nat) (e : Nat → Bool) (v : Nat → Value) (K : Act → World → Prop) : Prop :=
  ∀ a' x w', (F v).put d x = a' → S w' → J (upd e j true) (upd v j x) w' → K a' w'
def StepsOf (P : Program) (ops : Array Oper) (Q : Exit → Act → World → Prop) (md : Region.Mode) (F : (Nat → Value) → Act) (S : World → Prop) (J : (Nat → Bool) → (Nat → Value) → World → Prop) (js : List Nat) : Prop :=
  ∀ j ∈ js, ∀ e v w, J e v w → S w → e j = false → ∀ o, ops[j]? = some o → (∀ d ∈ o.after, Region.binds md d = true → e d.on = true) → ∀ K : Act → World → Prop, Hid (StepToF F o.dst S J j e v K) →
      if Region.wanted o (yielded ops (F v).tmps) = true then Oper.wp P o (F v) w K Q else K ((F v).put o.dst undef) w
theorem StepsOf.nil {F : (Nat → Value) → Act} {J : (Nat → Bool) → (Nat → Value) → World → Prop} : StepsOf P ops Q md F S J [] := fun _ h => by cases h
theorem StepsOf.cons {F : (Nat → Value) → Act} {J : (Nat → Bool) → (Nat → Value) → World → Prop} {j : Nat} {js : List Nat} {o : Oper} (ho : ops[j]? = some o)
    (h : ∀ e v w (K : Act → World → Prop), J e v w → S w → e j = false → (∀ d ∈ o.after, Region.binds md d = true → e d.on = true) → Hid (StepToF F o.dst S J j e v K) →
      if Region.wanted o (yielded ops (F v).tmps) = true then Oper.wp P o (F v) w K Q else K ((F v).put o.dst undef) w)
    (hs : StepsOf P ops Q md F S J js) : StepsOf P ops Q md F S J (j :: js) := by
  intro k hk
  rcases List.mem_cons.1 hk with rfl | hk
  · intro e v w hJ hS he o' ho' hd K hK
    rw [ho] at ho'
    injection ho' with ho'
    subst ho'
    exact h e v w K hJ hS he hd hK
  · exact hs k hk
theorem wpAnyH_by_invF (js : List Nat) (J : (Nat → Bool) → (Nat → Value) → World → Prop) {F : (Nat → Value) → Act} {fuel : Nat} {listed : Array Bool} {a0 : Act} {w : World} (hB : regionB md ops js = true) (hL : leftB ops listed js = true) (hf : js.length ≤ fuel) (hS : S w)
    (hF : ∀ v, putAll ops v js a0 = F v) (init : ∀ e v, (∀ j ∈ js, e j = false) → J e v w) (hun : (js.all fun j => !listed.getD j true) = true) (step : StepsOf P ops Q md F S J js)
    (fin : ∀ v w, J (fun _ => true) v w → S w → Q .normal (F v) w) : wpAnyH P md ops Q S fuel listed a0 w := by
  refine wpAnyH_by_inv js J hB hL hf hS init hun (fun j hj e v w hJ hS he hd o ho K hK => ?_) (fun v w hJ hS => by rw [hF v]; exact fin v w hJ hS)
  have hdst : dstOf ops j = o.dst := by unfold dstOf; rw [ho]; rfl
  have h := step j hj e v w hJ hS he o ho (hd o ho) K (fun a' x w' ha hS' hJ' => hK.out a' x w' (by rw [hF v, hdst]; exact ha) hS' hJ')
  rw [hF v]
  exact h
theorem wpAnyIn_by_invF (l n : Nat) (hND : noDeferB ops = true) (js : List Nat) (J : (Nat → Bool) → (Nat → Value) → World → Prop) {F : (Nat → Value) → Act} {fuel : Nat} {listed : Array Bool} {a0 : Act} {w : World} (hB : regionB md ops js = true) (hL : leftB ops listed js = true) (hf : js.length ≤ fuel)
    (hF : ∀ v, putAll ops v js a0 = F v) (init : ∀ e v, (∀ j ∈ js, e j = false) → J e v w) (hun : (js.all fun j => !listed.getD j true) = true) (step : StepsOf P ops Q md F (fun _ => True) J js)
    (fin : ∀ v w, J (fun _ => true) v w → Q .normal (F v) w) : wpAnyIn (Fence.wide.inRound l) n P md ops Q fuel listed a0 w := by
  refine wpAnyIn_by_inv l n hND js J hB hL hf init hun (fun j hj e v w hJ he hd o ho K hK => ?_) (fun v w hJ => by rw [hF v]; exact fin v w hJ)
  have hdst : dstOf ops j = o.dst := by unfold dstOf; rw [ho]; rfl
  have h := step j hj e v w hJ trivial he o ho (hd o ho) K (fun a' x w' ha hS' hJ' => hK.out a' x w' (by rw [hF v, hdst]; exact ha) hS' hJ')
  rw [hF v]
  exact h
end
end Go.Proofs.Ytgpjfpcjiebjiaa
