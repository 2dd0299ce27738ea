/- Walks. -/
import Derived.Test.YtljalgmfmlhcaaaDigWalkA
import Derived.Laws.IdiomStrings
namespace Go.Proofs.Ytljalgmfmlhcaaa
open Go.RowKit

def mk (l : List UInt8) : ByteArray := ⟨l.toArray⟩
def strI (ns : List Int) : ByteArray := ns.foldl (fun r n => r.push (UInt8.ofNat n.toNat)) ByteArray.empty
theorem strI_eq (ns : List Int) : strI ns = mk (ns.map fun n => UInt8.ofNat n.toNat) := by
  have h : ∀ (ns : List Int) (r : ByteArray), ns.foldl (fun r n => r.push (UInt8.ofNat n.toNat)) r = ⟨r.data ++ (ns.map fun n => UInt8.ofNat n.toNat).toArray⟩ := by
    intro ns
    induction ns with
    | nil => intro r; simp
    | cons n ns ih => intro r; simp only [List.foldl_cons]; rw [ih]; simp [ByteArray.push]
  unfold strI mk
  rw [h]
  simp [ByteArray.empty, ByteArray.emptyWithCapacity]
  rfl

theorem conv_raw (w : World) (b : Nat) (ns : List Int) (t : TypeId) (fz : Nat × Nat) (c : Nat) (hh : w.heap[b]? = some (.cells (ns.map (Value.int .u8)).toArray t fz)) :
    (convert 29 9 (.slice (some ⟨b, 0, none⟩) ns.length c)).run Try.prog w = .ok (.string (strI ns)) w := by
  rw [run_convert_bytes_string w 29 9 5 (some ⟨b, 0, none⟩) ns.length c Try.underlying29 Try.underlying5 Try.underlying9]
  have hl := run_loadCells_list (P := Try.prog) w ⟨b, 0, none⟩ (ns.map (Value.int .u8)) (fun j v hj => by
    have : (⟨b, 0, none⟩ : Addr).add j = ⟨b, j, none⟩ := by unfold Addr.add; split <;> simp_all
    rw [this]
    unfold World.cell?
    simp only [hh]
    simpa using hj)
  rw [List.length_map] at hl
  exact run_bytesToString w ⟨b, 0, none⟩ ns.length c ns hl

theorem conv4 (w : World) (a0 a1 a2 a3 : Int) :
    (convert 29 9 (.slice (some ⟨w.heap.size, 0, none⟩) 4 4)).run Try.prog (w.alloc (.cells #[.int .u8 a0, .int .u8 a1, .int .u8 a2, .int .u8 a3] 5)) =
      .ok (.string (strI [a0, a1, a2, a3])) (w.alloc (.cells #[.int .u8 a0, .int .u8 a1, .int .u8 a2, .int .u8 a3] 5)) :=
  conv_raw _ _ [a0, a1, a2, a3] 5 (0, 0) 4 (heap_alloc_new _ _)
theorem conv1 (w : World) (a0 : Int) :
    (convert 29 9 (.slice (some ⟨w.heap.size, 0, none⟩) 1 1)).run Try.prog (w.alloc (.cells #[.int .u8 a0] 5)) =
      .ok (.string (strI [a0])) (w.alloc (.cells #[.int .u8 a0] 5)) :=
  conv_raw _ _ [a0] 5 (0, 0) 1 (heap_alloc_new _ _)
theorem conv8 (w : World) (t : TypeId) (a0 a1 a2 a3 a4 a5 a6 a7 : Int) :
    (convert 29 9 (.slice (some ⟨w.heap.size, 0, none⟩) 8 8)).run Try.prog (w.alloc (.cells #[.int .u8 a0, .int .u8 a1, .int .u8 a2, .int .u8 a3, .int .u8 a4, .int .u8 a5, .int .u8 a6, .int .u8 a7] t)) =
      .ok (.string (strI [a0, a1, a2, a3, a4, a5, a6, a7])) (w.alloc (.cells #[.int .u8 a0, .int .u8 a1, .int .u8 a2, .int .u8 a3, .int .u8 a4, .int .u8 a5, .int .u8 a6, .int .u8 a7] t)) :=
  conv_raw _ _ [a0, a1, a2, a3, a4, a5, a6, a7] t (0, 0) 8 (heap_alloc_new _ _)

theorem strI_four {a0 a1 a2 a3 : Int} (n : Nat) (h0 : a0 = ((n / 16777216 % 256 : Nat) : Int)) (h1 : a1 = ((n / 65536 % 256 : Nat) : Int)) (h2 : a2 = ((n / 256 % 256 : Nat) : Int)) (h3 : a3 = ((n % 256 : Nat) : Int)) :
    strI [a0, a1, a2, a3] = mk (four n) := by
  rw [strI_eq]
  have e (k : Nat) : UInt8.ofNat ((k % 256 : Nat) : Int).toNat = UInt8.ofNat k := by
    rw [Int.toNat_natCast]
    apply UInt8.toNat_inj.1
    simp
  simp only [List.map_cons, List.map_nil, h0, h1, h2, h3, e]
  rfl

theorem strI_size (ns : List Int) : (strI ns).size = ns.length := by
  rw [strI_eq]
  simp [mk, ByteArray.size]

theorem ret_str {a b : ByteArray} (h : a = b) : Ending.returned (.string a) = .returned (.string b) := by rw [h]

set_option maxRecDepth 100000 in
theorem len_calls (s : ByteArray) (w : World) (hlim : s.size ≤ 400) :
    Calls Try.prog 22 #[.string s] w fun e w' => e = .returned (.string (mk (lenb s.data.toList))) ∧ Below w.heap.size w w' := by
  have hc := conv4 w
  go_enter Try.func22, Try.ntmps22
  go_wp2
  go_ret
  exact ⟨ret_str (by
    have e : lenb s.data.toList = four s.size := rfl
    rw [e]
    refine strI_four s.size ?_ ?_ ?_ ?_ <;> omega), (Below.refl _ _).alloc (Nat.le_refl _) _⟩

set_option maxRecDepth 100000 in
theorem bytes4_calls (n : Nat) (w : World) (hlim : n < 2147483648) :
    Calls Try.prog 21 #[.int .i64 n] w fun e w' => e = .returned (.string (mk (four n))) ∧ Below w.heap.size w w' := by
  have hc := conv4 w
  go_enter Try.func21, Try.ntmps21
  go_wp2
  go_ret
  exact ⟨ret_str (by refine strI_four n ?_ ?_ ?_ ?_ <;> omega), (Below.refl _ _).alloc (Nat.le_refl _) _⟩

/-- What a digest is as a value. -/
def digV (l : List UInt8) : Value := .agg (l.map fun c => Value.int .u8 (c.toNat : Int)).toArray

set_option maxRecDepth 100000 in
theorem text_calls (a0 a1 a2 a3 a4 a5 a6 a7 : Int) (w : World) :
    Calls Try.prog 20 #[.agg #[.int .u8 a0, .int .u8 a1, .int .u8 a2, .int .u8 a3, .int .u8 a4, .int .u8 a5, .int .u8 a6, .int .u8 a7]] w fun e w' => e = .returned (.string (strI [a0, a1, a2, a3, a4, a5, a6, a7])) ∧ Below w.heap.size w w' := by
  have hc := conv8 w 36
  go_enter Try.func20, Try.ntmps20
  go_wp2_with (go_at_call 24; refine (sclone_calls _ _ ?_).mono ?_; (rw [strI_size]; simp only [List.length_cons, List.length_nil]; omega); rintro e w' ⟨rfl, hb⟩)
  go_ret
  exact ⟨rfl, Below.trans ((Below.refl _ _).alloc (Nat.le_refl _) _) (Below.mono ‹_› (by simp))⟩
end Go.Proofs.Ytljalgmfmlhcaaa
