/- Walks. -/
import Derived.Test.YtljalgmfmlhcaaaDigWalkD
import Derived.Deep.RegionWith
import Derived.Deep.MidRow
import Derived.Deep.RegionHeld3
namespace Go.Proofs.Ytljalgmfmlhcaaa
open Go.RowKit

theorem part5 (w : World) (xs : Array Value) (i : Nat) (v : Value) (h : xs[i]? = some v) : (part 5 xs i).run Try.prog w = .ok v w := by
  have ha : ∀ w, (isAgg 5).run Try.prog w = .ok false w := fun w => by kernel_rfl
  unfold part
  simp only [Sem.run_bind, ha, Result.andThen_ok, Bool.false_eq_true, if_false, h, Sem.run_pure]
theorem eq5 (w : World) (a b : UInt8) : (Op.equalIn 9999 5 (.int .u8 (a.toNat : Int)) (.int .u8 (b.toNat : Int))).run Try.prog w = .ok (a == b) w := by
  rw [show (9999 : Nat) = 9998 + 1 from rfl, run_equalIn_int w 9998 5 .u8 .u8 _ _ Try.underlying5]
  congr 1
  rw [Bool.eq_iff_iff, beq_iff_eq, beq_iff_eq, ← UInt8.toNat_inj]
  omega
def cellsOf8 (l : List UInt8) : Array Value := (l.map fun c => Value.int .u8 (c.toNat : Int)).toArray
theorem cells8_get (l : List UInt8) (i : Nat) (h : i < l.length) : (cellsOf8 l)[i]? = some (.int .u8 ((l[i]).toNat : Int)) := by
  simp [cellsOf8, h]
theorem eqloop (w : World) (l1 l2 : List UInt8) : ∀ (n i : Nat), i + n = l1.length → i + n = l2.length →
    (forIn (m := Sem) (List.range' i n) ((none, ()) : Option Bool × Unit) fun i __s => do
            let x ← part 5 (cellsOf8 l1) (i * 1)
            let y ← part 5 (cellsOf8 l2) (i * 1)
            let r ← Op.equalIn 9999 5 x y
            if (!r) = true then pure (ForInStep.done (some false, ())) else pure (ForInStep.yield (none, ()))).run Try.prog w = .ok (if l1.drop i == l2.drop i then (none, ()) else (some false, ())) w
  | 0, i, h1, h2 => by
    simp only [List.range'_zero, List.forIn_nil, Sem.run_pure]
    rw [List.drop_of_length_le (by omega), List.drop_of_length_le (by omega)]
    rfl
  | n + 1, i, h1, h2 => by
    have g1 : i < l1.length := by omega
    have g2 : i < l2.length := by omega
    simp only [List.range'_succ, List.forIn_cons, Sem.run_bind, Nat.mul_one, part5 _ _ _ _ (cells8_get l1 i g1), part5 _ _ _ _ (cells8_get l2 i g2), Result.andThen_ok, eq5]
    rw [List.drop_eq_getElem_cons g1, List.drop_eq_getElem_cons g2]
    by_cases hc : l1[i] = l2[i]
    · have ih := eqloop w l1 l2 n (i + 1) (by omega) (by omega)
      simp only [hc, beq_self_eq_true, Bool.not_true, Bool.false_eq_true, if_false, Sem.run_pure, Result.andThen_ok, List.cons_beq_cons, Bool.true_and]
      simp only [Nat.mul_one] at ih
      exact ih
    · have hc' : (l1[i] == l2[i]) = false := by simpa using hc
      have hne : (l1[i] :: l1.drop (i + 1) == l2[i] :: l2.drop (i + 1)) = false := by rw [List.cons_beq_cons, hc']; rfl
      simp only [hc', hne, Bool.not_false, if_true, Sem.run_pure, Result.andThen_ok, Bool.false_eq_true, if_false]
theorem eq36 (w : World) (l1 l2 : List UInt8) (h1 : l1.length = 8) (h2 : l2.length = 8) :
    (binOp .eql 36 (digV l1) (digV l2)).run Try.prog w = .ok (.bool (l1 == l2)) w := by
  have hz : ∀ w, (sizeOf 5).run Try.prog w = .ok 1 w := fun w => by kernel_rfl
  have key : ∀ w, (Op.equalIn (9999 + 1) 36 (.agg (cellsOf8 l1)) (.agg (cellsOf8 l2))).run Try.prog w = .ok (l1 == l2) w := by
    intro w
    unfold Op.equalIn
    simp only [Sem.run_bind, run_underlying Try.underlying36, Result.andThen_ok, hz]
    rw [Std.Legacy.Range.forIn_eq_forIn_range']
    have := eqloop w l1 l2 8 0 (by omega) (by omega)
    simp only [Std.Legacy.Range.size, Nat.sub_zero, Nat.add_sub_cancel, Nat.div_one]
    rw [this]
    simp only [Result.andThen_ok, List.drop_zero]
    by_cases hc : l1 == l2 <;> simp [hc]
  show (binOp .eql 36 (.agg (cellsOf8 l1)) (.agg (cellsOf8 l2))).run Try.prog w = _
  rw [run_eql_struct, show (10000 : Nat) = 9999 + 1 from rfl, key w]
  rfl

set_option maxRecDepth 100000 in
theorem Check_nokey (b m : ByteArray) (w : World) :
    Calls Try.prog 16 #[.string ⟨#[]⟩, .string b, .string m] w fun e w' => e = .returned (.bool false) ∧ Below w.heap.size w w' := by
  go_enter Try.func16, Try.ntmps16
  go_wp2_with fail
  go_region
  go_wp2
  go_ret
  exact ⟨rfl, (Below.refl _ w).drew⟩

set_option maxRecDepth 100000 in
theorem Check_size (k b m : ByteArray) (w : World) (hk : k.toList.isEmpty = false) (hm : ((m.size : Int) == 8) = false) :
    Calls Try.prog 16 #[.string k, .string b, .string m] w fun e w' => e = .returned (.bool false) ∧ Below w.heap.size w w' := by
  go_enter Try.func16, Try.ntmps16
  go_wp2_with fail
  go_region
  go_wp2
  go_ret
  exact ⟨rfl, (Below.refl _ w).drew⟩


/-- Block g holds the bytes of m (and room behind). -/
def HasRow (w : World) (g : Nat) (m : ByteArray) : Prop := ∃ c fz, w.heap[g]? = some (.cells (bytesRow m c) 5 fz)
theorem HasRow.load {w : World} {g : Nat} {m : ByteArray} (h : HasRow w g m) (hm : m.size = 8) : (Instr.loadAt 36 (.pointer (some ⟨g, 0, none⟩))).run Try.prog w = .ok (digV m.data.toList) w := by
  obtain ⟨c, fz, h⟩ := h
  have hr : w.rangeAt g 0 (cellsOf8 m.data.toList).toList := by
    intro j v hv
    unfold World.cell?
    simp only [h, Nat.zero_add]
    have hj : j < m.size := by
      have := (List.getElem?_eq_some_iff.1 hv).1
      simpa [cellsOf8] using this
    have e := bytesRow_get m c j hj
    have e2 := cells8_get m.data.toList j (by simpa using hj)
    rw [Array.getElem?_toList, e2] at hv
    simpa using e.trans hv
  have := run_loadAt_mid (P := Try.prog) w g 0 36 _ _ hr Try.underlying36 rfl (by rw [show (cellsOf8 m.data.toList).toList.length = 8 by simp [cellsOf8]; exact hm]; kernel_rfl)
  exact this
theorem HasRow.below {w w' : World} {g : Nat} {m : ByteArray} (h : HasRow w g m) (hb : Below w.heap.size w w') : HasRow w' g m := by
  obtain ⟨c, fz, h⟩ := h
  exact ⟨c, fz, (hb.block g (lt_of_some h)).trans h⟩
theorem HasRow.drew {w : World} {g : Nat} {m : ByteArray} (h : HasRow w g m) : HasRow w.drew g m := h
theorem wp_load8 {o : Oper} {a : Act} {w : World} {K : Act → World → Prop} {Q : Exit → Act → World → Prop} (x : Operand) (ho : o.op = .load 36 x) (g : Nat) (m : ByteArray) (ml : Value)
    (hx : a.eval x = .pointer (some ⟨g, 0, none⟩)) (hml : ml = digV m.data.toList) (hm : m.size = 8) (hr : HasRow w g m) (h : K (a.put o.dst ml) w) : o.wp Try.prog a w K Q := by
  subst hml
  unfold Oper.wp execOp
  simp only [ho, hx, Sem.run_bind, hr.load hm, Result.andThen_ok]
  exact h
theorem HasRow.new (w : World) (m : ByteArray) (c : Nat) (fz : Nat × Nat) : HasRow (w.alloc (.cells (bytesRow m c) 5 fz)) w.heap.size m := ⟨c, fz, heap_alloc_new _ _⟩

set_option maxRecDepth 100000 in
theorem Check_full (k b m : ByteArray) (w : World) (hk : k.toList.isEmpty = false) (hm : m.size = 8) (hk4 : k.size ≤ 400) (hb4 : b.size ≤ 400) :
    Calls Try.prog 16 #[.string k, .string b, .string m] w fun e w' => e = .returned (.bool (m.data.toList == markb k.data.toList b.data.toList)) ∧ Below w.heap.size w w' := by
  have hconv : ∀ W : World, _ := fun W => run_bytes_of_string W 9 29 5 m Try.underlying9 Try.underlying29 Try.underlying5
  have hm' : ((m.size : Int) == 8) = true := by rw [hm]; rfl
  have hm2 : (8 : Nat) ≤ m.size := by omega
  have hld : ∀ (w : World) (g : Nat), HasRow w g m → (Instr.loadAt 36 (.pointer (some ⟨g, 0, none⟩))).run Try.prog w = .ok (digV m.data.toList) w := fun w g h => h.load hm
  have hnew : ∀ (w : World) (c : Nat) (fz : Nat × Nat), HasRow (w.alloc (.cells (bytesRow m c) 5 fz)).drew w.heap.size m := fun w c fz => HasRow.new w m c fz
  have heq := fun w => eq36 w m.data.toList (markb k.data.toList b.data.toList) (by simpa using hm) (length_dig _)
  obtain ⟨mm, hmm⟩ : ∃ mm, mm = digV (markb k.data.toList b.data.toList) := ⟨_, rfl⟩
  rw [← hmm] at heq
  have hmk := fun w => marked_calls k b w hk4 hb4
  rw [← hmm] at hmk
  have HMK := Lib.hid hmk; clear hmk
  have HMM := Lib.hid hmm; clear hmm
  have HM := Lib.hid hm; clear hm
  obtain ⟨bb, hbb⟩ : ∃ bb, bb = (m.data.toList == markb k.data.toList b.data.toList) := ⟨_, rfl⟩
  rw [← hbb] at heq ⊢
  clear hbb
  obtain ⟨ml, hml⟩ : ∃ ml, ml = digV m.data.toList := ⟨_, rfl⟩
  rw [← hml] at heq
  clear hld
  have HML := Lib.hid hml; clear hml
  have heg : ∀ (W : World) (x y : Operand), (eqGuard .eql 36 x y ml mm).run Try.prog W = .ok () W := by
    intro W x y
    rw [HML.out, HMM.out]
    exact run_eqGuard_agg _ _ _ _ _ _ _ (by kernel_rfl)
  have harr : ∀ (W : World) (g c : Nat), (Instr.arrayAt 36 (.slice (some ⟨g, 0, none⟩) m.size c)).run Try.prog W = .ok (.pointer (some ⟨g, 0, none⟩)) W := by
    intro W g c
    have h8 : ¬ m.size < 8 := by omega
    unfold Instr.arrayAt
    simp [run_underlying Try.underlying36, h8]
  go_enter Try.func16, Try.ntmps16
  go_wp2_with fail
  refine wp_region_noPanic ?_
  refine wp_region_held_drew (S := fun _ => True) (by kernel_rfl) trivial (fun hHeld => ?_)
  refine wpAnyH_take (i := 0) (v := ?v1) rfl (by kernel_rfl) (by kernel_rfl) (by kernel_rfl) (fun _ _ _ h => h) (Or.inl ⟨?w1, ?y1⟩) hHeld ?r1
  case w1 => rfl
  case y1 => (intro w hSw; go_simp; try with_reducible rfl)
  simp only [List.getElem_toArray, List.getElem_cons_zero, Act.put, List.setIfInBounds_toArray, List.set_cons_zero, List.set_cons_succ]
  refine wpAnyH_take (i := 1) (v := ?v2) rfl (by kernel_rfl) (by kernel_rfl) (by kernel_rfl) (fun _ _ _ h => h) (Or.inl ⟨?w2, ?y2⟩) hHeld ?r2
  case w2 => rfl
  case y2 => (intro w hSw; go_simp; try with_reducible rfl)
  simp only [List.getElem_toArray, List.getElem_cons_succ, List.getElem_cons_zero, Act.put, List.setIfInBounds_toArray, List.set_cons_zero, List.set_cons_succ]
  refine wpAnyH_take (i := 2) (v := ?v3) rfl (by kernel_rfl) (by kernel_rfl) (by kernel_rfl) (fun _ _ _ h => h) (Or.inl ⟨?w3, ?y3⟩) hHeld ?r3
  case w3 => rfl
  case y3 => (intro w hSw; go_simp; try with_reducible rfl)
  simp only [List.getElem_toArray, List.getElem_cons_succ, List.getElem_cons_zero, Act.put, List.setIfInBounds_toArray, List.set_cons_zero, List.set_cons_succ]
  refine wpAnyH_take (i := 3) (v := ?v4) rfl (by kernel_rfl) (by kernel_rfl) (by kernel_rfl) (fun _ _ _ h => h) (Or.inl ⟨?w4, ?y4⟩) hHeld ?r4
  case w4 => rfl
  case y4 => (intro w hSw; go_simp; try with_reducible rfl)
  simp only [List.getElem_toArray, List.getElem_cons_succ, List.getElem_cons_zero, Act.put, List.setIfInBounds_toArray, List.set_cons_zero, List.set_cons_succ]
  refine wpAnyH_take (i := 4) (v := ?v5) rfl (by kernel_rfl) (by kernel_rfl) (by kernel_rfl) (fun _ _ _ h => h) (Or.inl ⟨?w5, ?y5⟩) hHeld ?r5
  case w5 => rfl
  case y5 => (intro w hSw; go_simp; try with_reducible rfl)
  simp only [List.getElem_toArray, List.getElem_cons_succ, List.getElem_cons_zero, Act.put, List.setIfInBounds_toArray, List.set_cons_zero, List.set_cons_succ]
  refine wpAnyH_take (i := 5) (v := ?v6) rfl (by kernel_rfl) (by kernel_rfl) (by kernel_rfl) (fun _ _ _ h => h) (Or.inl ⟨?w6, ?y6⟩) hHeld ?r6
  case w6 => rfl
  case y6 => (intro w hSw; go_simp; try with_reducible rfl)
  simp only [List.getElem_toArray, List.getElem_cons_succ, List.getElem_cons_zero, Act.put, List.setIfInBounds_toArray, List.set_cons_zero, List.set_cons_succ]
  refine wpAnyH_take (i := 6) (v := ?v7) rfl (by kernel_rfl) (by kernel_rfl) (by kernel_rfl) (fun _ _ _ h => h) (Or.inl ⟨?w7, ?y7⟩) hHeld ?r7
  case w7 => rfl
  case y7 => (intro w hSw; go_simp; try with_reducible rfl)
  simp only [List.getElem_toArray, List.getElem_cons_succ, List.getElem_cons_zero, Act.put, List.setIfInBounds_toArray, List.set_cons_zero, List.set_cons_succ]
  refine wpAnyH_take (i := 7) (v := ?v8) rfl (by kernel_rfl) (by kernel_rfl) (by kernel_rfl) (fun _ _ _ h => h) (Or.inl ⟨?w8, ?y8⟩) hHeld ?r8
  case w8 => rfl
  case y8 => (intro w hSw; go_simp; try with_reducible rfl)
  simp only [List.getElem_toArray, List.getElem_cons_succ, List.getElem_cons_zero, Act.put, List.setIfInBounds_toArray, List.set_cons_zero, List.set_cons_succ]
  refine wpAnyH_take (i := 8) (v := ?v9) rfl (by kernel_rfl) (by kernel_rfl) (by kernel_rfl) (fun _ _ _ h => h) (Or.inl ⟨?w9, ?y9⟩) hHeld ?r9
  case w9 => rfl
  case y9 => (intro w hSw; go_simp; try with_reducible rfl)
  simp only [List.getElem_toArray, List.getElem_cons_succ, List.getElem_cons_zero, Act.put, List.setIfInBounds_toArray, List.set_cons_zero, List.set_cons_succ]
  refine wpAnyH_take (i := 12) (v := ?v10) rfl (by kernel_rfl) (by kernel_rfl) (by kernel_rfl) (fun _ _ _ h => h) (Or.inl ⟨?w10, ?y10⟩) hHeld ?r10
  case w10 => rfl
  case y10 => (intro w hSw; go_simp; try with_reducible rfl)
  simp only [List.getElem_toArray, List.getElem_cons_succ, List.getElem_cons_zero, Act.put, List.setIfInBounds_toArray, List.set_cons_zero, List.set_cons_succ]
  refine wpAnyH_take (i := 13) (v := ?v11) rfl (by kernel_rfl) (by kernel_rfl) (by kernel_rfl) (fun _ _ _ h => h) (Or.inl ⟨?w11, ?y11⟩) hHeld ?r11
  case w11 => rfl
  case y11 => (intro w hSw; go_simp; try with_reducible rfl)
  simp only [List.getElem_toArray, List.getElem_cons_succ, List.getElem_cons_zero, Act.put, List.setIfInBounds_toArray, List.set_cons_zero, List.set_cons_succ]
  refine wpAnyH_ready (rs := [9, 14]) (by kernel_rfl) (by simp) ?_
  refine AllReadyH.cons rfl (fun K hK => ?_) ?_
  · go_simp
    refine hK.out _ _ trivial (fun hHeld => ?_)
    clear hK K
    try simp only [List.getElem_toArray, List.getElem_cons_succ, List.getElem_cons_zero, Act.put, List.setIfInBounds_toArray, List.set_cons_zero, List.set_cons_succ]
    refine wpAnyH_take (i := 10) (v := ?v12) rfl (by kernel_rfl) (by kernel_rfl) (by kernel_rfl) (fun _ _ _ h => h) (Or.inl ⟨?w12, ?y12⟩) hHeld ?r12
    case w12 => rfl
    case y12 => (intro w hSw; go_simp; try with_reducible rfl)
    simp only [List.getElem_toArray, List.getElem_cons_succ, List.getElem_cons_zero, Act.put, List.setIfInBounds_toArray, List.set_cons_zero, List.set_cons_succ]
    refine wpAnyH_ready (rs := [11, 14]) (by kernel_rfl) (by simp) ?_
    refine AllReadyH.cons rfl (fun K hK => ?_) ?_
    · (rw [if_pos (by rfl)]; refine wp_load8 (.tmp 17) rfl _ m ml rfl HML.out HM.out ((HasRow.new w m _ _).drew.drew) ?_)
      refine hK.out _ _ trivial (fun hHeld => ?_)
      clear hK K
      try simp only [List.getElem_toArray, List.getElem_cons_succ, List.getElem_cons_zero, Act.put, List.setIfInBounds_toArray, List.set_cons_zero, List.set_cons_succ]
      refine wpAnyH_ready (rs := [14]) (by kernel_rfl) (by simp) ?_
      refine AllReadyH.cons rfl (fun K hK => ?_) ?_
      · (go_simp; go_at_call 23; refine (HMK.out _).mono ?_; rintro e w' ⟨rfl, hb⟩; go_simp)
        refine hK.out _ _ trivial (fun hHeld => ?_)
        clear hK K
        try simp only [List.getElem_toArray, List.getElem_cons_succ, List.getElem_cons_zero, Act.put, List.setIfInBounds_toArray, List.set_cons_zero, List.set_cons_succ]
        refine wpAnyH_take (i := 15) (v := ?v13) rfl (by kernel_rfl) (by kernel_rfl) (by kernel_rfl) (fun _ _ _ h => h) (Or.inl ⟨?w13, ?y13⟩) hHeld ?r13
        case w13 => rfl
        case y13 => (intro w hSw; go_simp; try with_reducible rfl)
        simp only [List.getElem_toArray, List.getElem_cons_succ, List.getElem_cons_zero, Act.put, List.setIfInBounds_toArray, List.set_cons_zero, List.set_cons_succ]
        refine wpAnyH_take (i := 16) (v := ?v14) rfl (by kernel_rfl) (by kernel_rfl) (by kernel_rfl) (fun _ _ _ h => h) (Or.inl ⟨?w14, ?y14⟩) hHeld ?r14
        case w14 => rfl
        case y14 => (intro w hSw; go_simp; try with_reducible rfl)
        simp only [List.getElem_toArray, List.getElem_cons_succ, List.getElem_cons_zero, Act.put, List.setIfInBounds_toArray, List.set_cons_zero, List.set_cons_succ]
        refine wpAnyH_take (i := 17) (v := ?v15) rfl (by kernel_rfl) (by kernel_rfl) (by kernel_rfl) (fun _ _ _ h => h) (Or.inl ⟨?w15, ?y15⟩) hHeld ?r15
        case w15 => rfl
        case y15 => (intro w hSw; go_simp; try with_reducible rfl)
        simp only [List.getElem_toArray, List.getElem_cons_succ, List.getElem_cons_zero, Act.put, List.setIfInBounds_toArray, List.set_cons_zero, List.set_cons_succ]
        refine wpAnyH_done (by kernel_rfl) ?_ _
        refine NoPanic.normal ?_
        go_wp2
        go_ret
        exact ⟨rfl, below_tr (((Below.refl _ w).alloc (Nat.le_refl _) _).drew.drew) hb (Nat.le_refl _)⟩
      exact AllReadyH.nil
    refine AllReadyH.cons rfl (fun K hK => ?_) ?_
    · (go_simp; go_at_call 23; refine (HMK.out _).mono ?_; rintro e w' ⟨rfl, hb⟩; go_simp)
      refine hK.out _ _ trivial (fun hHeld => ?_)
      clear hK K
      try simp only [List.getElem_toArray, List.getElem_cons_succ, List.getElem_cons_zero, Act.put, List.setIfInBounds_toArray, List.set_cons_zero, List.set_cons_succ]
      refine wpAnyH_ready (rs := [11]) (by kernel_rfl) (by simp) ?_
      refine AllReadyH.cons rfl (fun K hK => ?_) ?_
      · (rw [if_pos (by rfl)]; refine wp_load8 (.tmp 17) rfl _ m ml rfl HML.out HM.out ((HasRow.new w m _ _).drew.drew.below hb) ?_)
        refine hK.out _ _ trivial (fun hHeld => ?_)
        clear hK K
        try simp only [List.getElem_toArray, List.getElem_cons_succ, List.getElem_cons_zero, Act.put, List.setIfInBounds_toArray, List.set_cons_zero, List.set_cons_succ]
        refine wpAnyH_take (i := 15) (v := ?v16) rfl (by kernel_rfl) (by kernel_rfl) (by kernel_rfl) (fun _ _ _ h => h) (Or.inl ⟨?w16, ?y16⟩) hHeld ?r16
        case w16 => rfl
        case y16 => (intro w hSw; go_simp; try with_reducible rfl)
        simp only [List.getElem_toArray, List.getElem_cons_succ, List.getElem_cons_zero, Act.put, List.setIfInBounds_toArray, List.set_cons_zero, List.set_cons_succ]
        refine wpAnyH_take (i := 16) (v := ?v17) rfl (by kernel_rfl) (by kernel_rfl) (by kernel_rfl) (fun _ _ _ h => h) (Or.inl ⟨?w17, ?y17⟩) hHeld ?r17
        case w17 => rfl
        case y17 => (intro w hSw; go_simp; try with_reducible rfl)
        simp only [List.getElem_toArray, List.getElem_cons_succ, List.getElem_cons_zero, Act.put, List.setIfInBounds_toArray, List.set_cons_zero, List.set_cons_succ]
        refine wpAnyH_take (i := 17) (v := ?v18) rfl (by kernel_rfl) (by kernel_rfl) (by kernel_rfl) (fun _ _ _ h => h) (Or.inl ⟨?w18, ?y18⟩) hHeld ?r18
        case w18 => rfl
        case y18 => (intro w hSw; go_simp; try with_reducible rfl)
        simp only [List.getElem_toArray, List.getElem_cons_succ, List.getElem_cons_zero, Act.put, List.setIfInBounds_toArray, List.set_cons_zero, List.set_cons_succ]
        refine wpAnyH_done (by kernel_rfl) ?_ _
        refine NoPanic.normal ?_
        go_wp2
        go_ret
        exact ⟨rfl, below_tr (((Below.refl _ w).alloc (Nat.le_refl _) _).drew.drew) hb (Nat.le_refl _)⟩
      exact AllReadyH.nil
    exact AllReadyH.nil
  refine AllReadyH.cons rfl (fun K hK => ?_) ?_
  · (go_simp; go_at_call 23; refine (HMK.out _).mono ?_; rintro e w' ⟨rfl, hb⟩; go_simp)
    refine hK.out _ _ trivial (fun hHeld => ?_)
    clear hK K
    try simp only [List.getElem_toArray, List.getElem_cons_succ, List.getElem_cons_zero, Act.put, List.setIfInBounds_toArray, List.set_cons_zero, List.set_cons_succ]
    refine wpAnyH_ready (rs := [9]) (by kernel_rfl) (by simp) ?_
    refine AllReadyH.cons rfl (fun K hK => ?_) ?_
    · go_simp
      refine hK.out _ _ trivial (fun hHeld => ?_)
      clear hK K
      try simp only [List.getElem_toArray, List.getElem_cons_succ, List.getElem_cons_zero, Act.put, List.setIfInBounds_toArray, List.set_cons_zero, List.set_cons_succ]
      refine wpAnyH_take (i := 10) (v := ?v19) rfl (by kernel_rfl) (by kernel_rfl) (by kernel_rfl) (fun _ _ _ h => h) (Or.inl ⟨?w19, ?y19⟩) hHeld ?r19
      case w19 => rfl
      case y19 => (intro w hSw; go_simp; try with_reducible rfl)
      simp only [List.getElem_toArray, List.getElem_cons_succ, List.getElem_cons_zero, Act.put, List.setIfInBounds_toArray, List.set_cons_zero, List.set_cons_succ]
      refine wpAnyH_ready (rs := [11]) (by kernel_rfl) (by simp) ?_
      refine AllReadyH.cons rfl (fun K hK => ?_) ?_
      · (rw [if_pos (by rfl)]; refine wp_load8 (.tmp 17) rfl _ m ml rfl HML.out HM.out ((HasRow.new w' m _ _).drew) ?_)
        refine hK.out _ _ trivial (fun hHeld => ?_)
        clear hK K
        try simp only [List.getElem_toArray, List.getElem_cons_succ, List.getElem_cons_zero, Act.put, List.setIfInBounds_toArray, List.set_cons_zero, List.set_cons_succ]
        refine wpAnyH_take (i := 15) (v := ?v20) rfl (by kernel_rfl) (by kernel_rfl) (by kernel_rfl) (fun _ _ _ h => h) (Or.inl ⟨?w20, ?y20⟩) hHeld ?r20
        case w20 => rfl
        case y20 => (intro w hSw; go_simp; try with_reducible rfl)
        simp only [List.getElem_toArray, List.getElem_cons_succ, List.getElem_cons_zero, Act.put, List.setIfInBounds_toArray, List.set_cons_zero, List.set_cons_succ]
        refine wpAnyH_take (i := 16) (v := ?v21) rfl (by kernel_rfl) (by kernel_rfl) (by kernel_rfl) (fun _ _ _ h => h) (Or.inl ⟨?w21, ?y21⟩) hHeld ?r21
        case w21 => rfl
        case y21 => (intro w hSw; go_simp; try with_reducible rfl)
        simp only [List.getElem_toArray, List.getElem_cons_succ, List.getElem_cons_zero, Act.put, List.setIfInBounds_toArray, List.set_cons_zero, List.set_cons_succ]
        refine wpAnyH_take (i := 17) (v := ?v22) rfl (by kernel_rfl) (by kernel_rfl) (by kernel_rfl) (fun _ _ _ h => h) (Or.inl ⟨?w22, ?y22⟩) hHeld ?r22
        case w22 => rfl
        case y22 => (intro w hSw; go_simp; try with_reducible rfl)
        simp only [List.getElem_toArray, List.getElem_cons_succ, List.getElem_cons_zero, Act.put, List.setIfInBounds_toArray, List.set_cons_zero, List.set_cons_succ]
        refine wpAnyH_done (by kernel_rfl) ?_ _
        refine NoPanic.normal ?_
        go_wp2
        go_ret
        exact ⟨rfl, ((below_tr (Below.refl _ w).drew hb (Nat.le_refl _)).alloc (Nat.le_trans (Below.refl w.heap.size w).drew.size hb.size) _).drew⟩
      exact AllReadyH.nil
    exact AllReadyH.nil
  exact AllReadyH.nil
end Go.Proofs.Ytljalgmfmlhcaaa
