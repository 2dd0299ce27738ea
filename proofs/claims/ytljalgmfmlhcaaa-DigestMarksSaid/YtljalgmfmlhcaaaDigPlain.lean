/- Plain facts on the digest of chapter 04: what the two running sums are, and that one changed byte changes them. No program in sight. -/
namespace Go.Proofs.Ytljalgmfmlhcaaa

def stepX (x : Nat) (c : UInt8) : Nat := (48271 * x + c.toNat + 1) % 2147483647
def stepY (y : Nat) (c : UInt8) : Nat := (40692 * y + c.toNat + 1) % 2147483629
def runX (x : Nat) (l : List UInt8) : Nat := l.foldl stepX x
def runY (y : Nat) (l : List UInt8) : Nat := l.foldl stepY y
def four (n : Nat) : List UInt8 := [UInt8.ofNat (n / 16777216), UInt8.ofNat (n / 65536), UInt8.ofNat (n / 256), UInt8.ofNat n]
/-- The digest of a string. -/
def dig (l : List UInt8) : List UInt8 := four (runX 20 l) ++ four (runY 26 l)
/-- The length of a string as four bytes. -/
def lenb (l : List UInt8) : List UInt8 := four l.length
def chainb (a b : List UInt8) : List UInt8 := dig (1 :: (lenb a ++ (a ++ b)))
def markb (k m : List UInt8) : List UInt8 := dig (2 :: (lenb k ++ (k ++ (m ++ k))))

theorem stepX_lt (x : Nat) (c : UInt8) : stepX x c < 2147483647 := Nat.mod_lt _ (by decide)
theorem stepY_lt (x : Nat) (c : UInt8) : stepY x c < 2147483629 := Nat.mod_lt _ (by decide)
theorem runX_lt : ∀ (l : List UInt8) (x : Nat), x < 2147483647 → runX x l < 2147483647
  | [], _, h => h
  | c :: l, x, _ => runX_lt l (stepX x c) (stepX_lt x c)
theorem runY_lt : ∀ (l : List UInt8) (x : Nat), x < 2147483629 → runY x l < 2147483629
  | [], _, h => h
  | c :: l, x, _ => runY_lt l (stepY x c) (stepY_lt x c)
theorem runX_append (x : Nat) (a b : List UInt8) : runX x (a ++ b) = runX (runX x a) b := by simp [runX]
theorem runY_append (x : Nat) (a b : List UInt8) : runY x (a ++ b) = runY (runY x a) b := by simp [runY]
theorem runX_cons (x : Nat) (c : UInt8) (l : List UInt8) : runX x (c :: l) = runX (stepX x c) l := rfl
theorem length_four (n : Nat) : (four n).length = 4 := rfl
theorem length_dig (l : List UInt8) : (dig l).length = 8 := rfl

/-- x ↦ 48271 x + k is one to one modulo the prime 2147483647. -/
theorem mulX_inj {x y : Nat} (hx : x < 2147483647) (hy : y < 2147483647) (k : Nat) (h : (48271 * x + k) % 2147483647 = (48271 * y + k) % 2147483647) : x = y := by
  have h1 : (1899818559 * (48271 * x + k)) % 2147483647 = (1899818559 * (48271 * y + k)) % 2147483647 := by
    rw [Nat.mul_mod, h, ← Nat.mul_mod]
  omega
theorem stepX_inj {x y : Nat} (hx : x < 2147483647) (hy : y < 2147483647) (c : UInt8) (h : stepX x c = stepX y c) : x = y := by
  unfold stepX at h
  exact mulX_inj hx hy (c.toNat + 1) (by simpa [Nat.add_assoc] using h)
theorem stepX_byte {x : Nat} {c d : UInt8} (h : stepX x c = stepX x d) : c = d := by
  unfold stepX at h
  have hc := c.toNat_lt
  have hd := d.toNat_lt
  apply UInt8.toNat_inj.1
  omega
theorem runX_inj : ∀ (l : List UInt8) {x y : Nat}, x < 2147483647 → y < 2147483647 → runX x l = runX y l → x = y
  | [], _, _, _, _, h => h
  | c :: l, _, _, hx, hy, h => stepX_inj hx hy c (runX_inj l (stepX_lt _ c) (stepX_lt _ c) h)
theorem four_inj {a b : Nat} (ha : a < 4294967296) (hb : b < 4294967296) (h : four a = four b) : a = b := by
  unfold four at h
  simp only [List.cons.injEq, and_true] at h
  obtain ⟨h1, h2, h3, h4⟩ := h
  have e (n : Nat) : (UInt8.ofNat n).toNat = n % 256 := by simp
  have g1 := congrArg UInt8.toNat h1
  have g2 := congrArg UInt8.toNat h2
  have g3 := congrArg UInt8.toNat h3
  have g4 := congrArg UInt8.toNat h4
  rw [e, e] at g1 g2 g3 g4
  omega
/-- A changed byte changes the digest. -/
theorem dig_change (p l : List UInt8) (c d : UInt8) (h : c ≠ d) : dig (p ++ c :: l) ≠ dig (p ++ d :: l) := by
  intro he
  have h1 : four (runX 20 (p ++ c :: l)) = four (runX 20 (p ++ d :: l)) := by
    have := congrArg (List.take 4) he
    simpa [dig, four] using this
  have hb (q : List UInt8) : runX 20 q < 4294967296 := Nat.lt_trans (runX_lt q 20 (by decide)) (by decide)
  have h2 := four_inj (hb _) (hb _) h1
  rw [runX_append, runX_append, runX_cons, runX_cons] at h2
  exact h (stepX_byte (runX_inj l (stepX_lt _ _) (stepX_lt _ _) h2))
end Go.Proofs.Ytljalgmfmlhcaaa
