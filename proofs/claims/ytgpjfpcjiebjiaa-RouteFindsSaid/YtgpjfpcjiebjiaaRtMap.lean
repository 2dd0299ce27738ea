/- Sets of numbers that are kept as maps from numbers to true: what look-ups, stores and ranges over them do. -/
import Derived.Test.YtgpjfpcjiebjiaaRtB
import Derived.ChangeMaps4
import Derived.Maps.RangeRun
namespace Go.Proofs.Ytgpjfpcjiebjiaa
open Go.RowKit
open Go.ChangeMaps (setBlock)
set_option linter.unusedVariables false
set_option linter.unusedSimpArgs false

def entFrom : List Int → Nat → List MapEntry
  | [], _ => []
  | x :: l, b => { key := .int .i64 x, val := .bool true, born := b } :: entFrom l (b + 1)
/-- A set of numbers as an object of memory. -/
def mapObj (l : List Int) : Obj := .map (entFrom l 0).toArray l.length
/-- The set l lies at g. -/
def SetIs (w : World) (g : Nat) (l : List Int) : Prop := w.heap[g]? = some (mapObj l)
/-- l with x. -/
def ins (l : List Int) (x : Int) : List Int := if x ∈ l then l else l ++ [x]
theorem mem_ins {l : List Int} {x y : Int} : y ∈ ins l x ↔ y ∈ l ∨ y = x := by
  unfold ins
  split
  · constructor
    · exact .inl
    · rintro (h | rfl)
      · exact h
      · assumption
  · simp
theorem ins_len (l : List Int) (x : Int) : (ins l x).length ≤ l.length + 1 := by unfold ins; split <;> simp
theorem entFrom_length : ∀ (l : List Int) (b : Nat), (entFrom l b).length = l.length
  | [], _ => rfl
  | _ :: l, b => by simp [entFrom, entFrom_length l]
theorem entFrom_append : ∀ (l l' : List Int) (b : Nat), entFrom (l ++ l') b = entFrom l b ++ entFrom l' (b + l.length)
  | [], _, _ => by simp [entFrom]
  | _ :: l, l', b => by simp [entFrom, entFrom_append l l' (b + 1), Nat.add_assoc, Nat.add_comm 1]
theorem entFrom_get : ∀ (l : List Int) (b i : Nat), (entFrom l b)[i]? = (l[i]?).map fun x => { key := .int .i64 x, val := .bool true, born := b + i }
  | [], _, _ => by simp [entFrom]
  | x :: l, b, 0 => by simp [entFrom]
  | x :: l, b, i + 1 => by simp [entFrom, entFrom_get l (b + 1) i, Nat.add_assoc, Nat.add_comm 1]

theorem SetIs.keep {ok : Nat → Prop} {w w' : World} {g : Nat} {l : List Int} (h : SetIs w g l) (hk : Same ok w w') (hg : ok g) : SetIs w' g l := (hk g hg (lt_of_some h)).trans h
theorem SetIs.below {w w' : World} {g : Nat} {l : List Int} (h : SetIs w g l) (hb : Below w.heap.size w w') : SetIs w' g l := (hb.block g (lt_of_some h)).trans h
theorem SetIs.new (w : World) : SetIs (w.alloc (.map #[] 0)) w.heap.size [] := heap_alloc_new _ _

open Go.Instr in
theorem findNow_ent (x : Int) : ∀ (l : List Int) (b s : Nat), findNow (.int .i64) (.int .i64 x) (entFrom l b) s = some (if x ∈ l then some (s + l.idxOf x, .bool true) else none)
  | [], _, _ => by simp [entFrom, findNow]
  | y :: l, b, s => by
    simp only [entFrom, findNow, sameNow, if_true]
    by_cases h : x = y
    · subst h; simp
    · have hb : (x == y) = false := by simpa using h
      have hb' : (y == x) = false := by simpa using fun e : y = x => h e.symm
      simp only [hb]
      rw [findNow_ent x l (b + 1) (s + 1)]
      by_cases hm : x ∈ l
      · have hm' : x ∈ y :: l := List.mem_cons_of_mem _ hm
        rw [if_pos hm, if_pos hm', List.idxOf_cons, hb']
        simp only [cond_false, Bool.false_eq_true, if_false]
        rw [show s + 1 + l.idxOf x = s + (l.idxOf x + 1) by omega]
      · have hm' : ¬ x ∈ y :: l := by simp [h, hm]
        rw [if_neg hm, if_neg hm']

theorem run_getObj' {P : Program} {w : World} {g : Nat} {es : Array MapEntry} {n : Nat} (h : w.heap[g]? = some (.map es n)) : (getObj g).run P w = .ok (.map es n) w := by simp [getObj, Sem.run, h]

theorem run_setObj' {P : Program} {w : World} {g : Nat} {es : Array MapEntry} {n : Nat} (o' : Obj) (h : w.heap[g]? = some (.map es n)) : (setObj g o').run P w = .ok () (setBlock w g o') := by
  simp [setObj, Sem.run, h, setBlock]

open Go.Instr in
theorem run_checkKey (b : Bool) (n : Nat) (x : Int) (w : World) : (checkKey b (n + 1) 3 (.int .i64 x)).run Try.prog w = .ok () w := by
  simp [checkKey, run_underlying Try.underlying3]

/-- 's[x]'. -/
theorem run_look {w : World} {g : Nat} {l : List Int} (h : SetIs w g l) (x : Int) (t : TypeId) (ht : Try.prog.underlying t = some (.map 3 4)) :
    (Instr.lookup t (.map (some g)) (.int .i64 x) false).run Try.prog w = .ok (.bool (decide (x ∈ l))) w := by
  have hz : ∀ w, (zeroValue 4).run Try.prog w = .ok (.bool false) w := fun w => by kernel_rfl
  unfold Instr.lookup
  simp only [Sem.run_bind, run_underlying ht, Result.andThen_ok, run_getObj' h, mapObj, Sem.run_pure]
  rw [show (10000 : Nat) = 9999 + 1 from rfl, run_checkKey]
  simp only [Result.andThen_ok, Instr.findKey, Sem.run_bind, run_underlying Try.underlying3, List.toList_toArray, findNow_ent]
  by_cases hm : x ∈ l
  · simp [hm]
  · simp [hm, hz]

theorem setBlk_same {w : World} {g : Nat} {o o' : Obj} (h : w.heap[g]? = some o) : (setBlock w g o').heap[g]? = some o' := by
  have := lt_of_some h
  simp [setBlock, this]
theorem setBlk_other {w : World} {g k : Nat} (o : Obj) (h : k ≠ g) : (setBlock w g o).heap[k]? = w.heap[k]? := by
  simp [setBlock, Ne.symm h]

/-- 's[x] = true'. -/
theorem run_add {w : World} {g : Nat} {l : List Int} (h : SetIs w g l) (x : Int) (t : TypeId) (ht : Try.prog.underlying t = some (.map 3 4)) :
    ∃ w', (Instr.mapUpdate t (.map (some g)) (.int .i64 x) (.bool true)).run Try.prog w = .ok () w' ∧ SetIs w' g (ins l x) ∧ w.grownBy w' (some g) := by
  refine ⟨setBlock w g (mapObj (ins l x)), ?_, setBlk_same h, ⟨rfl, rfl, rfl, by simp [setBlock], fun k _ hk => setBlk_other _ (fun e => hk (by rw [e]))⟩⟩
  unfold Instr.mapUpdate
  simp only [Sem.run_bind, run_underlying ht, Result.andThen_ok, run_getObj' h, mapObj]
  rw [show (10000 : Nat) = 9999 + 1 from rfl, run_checkKey]
  simp only [Result.andThen_ok, Instr.findKey, Sem.run_bind, run_underlying Try.underlying3, List.toList_toArray, findNow_ent]
  by_cases hm : x ∈ l
  · simp only [hm, if_true, Sem.run_pure, Result.andThen_ok, Nat.zero_add]
    have hi : l.idxOf x < l.length := List.idxOf_lt_length_of_mem hm
    have hx : l[l.idxOf x] = x := List.getElem_idxOf hi
    have hk : ∀ W, (Instr.keyThatStays ((((entFrom l 0).toArray[l.idxOf x]?).map (·.key)).getD (.int .i64 x)) (.int .i64 x)).run Try.prog W = .ok (.int .i64 x) W := by
      intro W
      rw [List.getElem?_toArray, entFrom_get, List.getElem?_eq_getElem hi]
      simp [Instr.keyThatStays, Instr.sameBits, hx]
    rw [Sem.run_bind, hk]
    simp only [Result.andThen_ok]
    have hmod : (entFrom l 0).toArray.modify (l.idxOf x) (fun e => { e with key := .int .i64 x, val := .bool true }) = (entFrom l 0).toArray := by
      apply Array.ext_getElem?
      intro i
      rw [Array.getElem?_modify]
      split
      · rename_i e
        subst e
        rw [List.getElem?_toArray, entFrom_get, List.getElem?_eq_getElem hi]
        simp [hx]
      · rfl
    rw [hmod, run_setObj' _ h]
    have : ins l x = l := by simp [ins, hm]
    rw [this]
  · simp only [hm, if_false, Sem.run_pure, Result.andThen_ok]
    rw [run_setObj' _ h]
    have : ins l x = l ++ [x] := by simp [ins, hm]
    rw [this, entFrom_append]
    simp [entFrom]

theorem wpSetAdd {ops : Array Oper} {rest : List Oper} {o : Oper} {a : Act} {w : World} {Q : Exit → Act → World → Prop} (hg : o.guard = none) (m y v : Operand) (t : TypeId) (hop : o.op = Op.mapUpdate t m y v)
    (ht : Try.prog.underlying t = some (.map 3 4)) (g : Nat) (l : List Int) (x : Int) (hm : a.eval m = .map (some g)) (hy : a.eval y = .int .i64 x) (hv : a.eval v = .bool true) (hs : SetIs w g l)
    (hK : ∀ w', SetIs w' g (ins l x) → w.grownBy w' (some g) → wpList Try.prog ops Q rest (a.put o.dst undef) w') : wpList Try.prog ops Q (o :: rest) a w := by
  refine wpList_plain hg fun K' hK' => ?_
  obtain ⟨w', hrun, h1, h2⟩ := run_add hs x t ht
  unfold Oper.wp
  simp [execOp, hop, hm, hy, hv, hrun, Result.andThen]
  exact hK' _ _ (hK w' h1 h2)
end Go.Proofs.Ytgpjfpcjiebjiaa
