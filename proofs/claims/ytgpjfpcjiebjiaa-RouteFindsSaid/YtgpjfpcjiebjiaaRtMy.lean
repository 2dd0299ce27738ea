/- Walks: the triple loop of Made as a theorem of its own. -/
import Derived.Test.YtgpjfpcjiebjiaaRtMx
import Derived.Deep.LoopGhost
namespace Go.Proofs.Ytgpjfpcjiebjiaa
open Go.RowKit
set_option linter.unusedVariables false
set_option linter.unusedSimpArgs false
attribute [local go_sem ↓] Go.wp_at_zero Go.wp_at_succ

def startsReg (n : Nat) : Code → Bool
  | .region id _ _ => decide (id = n)
  | .seq a _ => startsReg n a
  | .block _ c => startsReg n c
  | _ => false
/-- A loop of a code, by the number of the region that it begins with. -/
def findLoop (n : Nat) : Code → Option Code
  | .loop c => if startsReg n c = true then some (.loop c) else findLoop n c
  | .seq a b => match findLoop n a with
    | some c => some c
    | none => findLoop n b
  | .cond _ a b => match findLoop n a with
    | some c => some c
    | none => findLoop n b
  | .block _ c => findLoop n c
  | _ => none
noncomputable def code12 : Code := (Try.f46.body.bind (findLoop 29)).getD .skip

set_option maxHeartbeats 4000000 in
set_option maxRecDepth 1000000 in
theorem loop12_wp {w1 wr0 : World} {Q : Exit → Act → World → Prop} {B gm gd gF gT cF cT n t : Nat} {W H L : Int} {fs ts : List Value} {u0 u1 u2 u3 u7 u8 u9 u10 u11 u13 u14 u15 u16 u17 u18 u19 u20 u21 u22 u23 u24 u25 u26 u27 u28 u29 u30 u31 u32 u33 u34 u35 u36 u37 u38 u39 u40 u41 u42 u43 u44 u45 u46 u47 u48 u49 u50 u51 u52 u53 u54 u55 u56 u57 u58 u59 u60 u61 u62 u63 u64 u65 u66 u67 u68 u69 u70 u71 u72 u73 u74 u75 u76 u77 u78 u79 u80 u81 u82 u83 u84 u85 u86 u87 u88 u89 u90 u91 u92 u93 u94 u95 u96 u97 u98 u99 u100 u101 u102 u103 u104 u105 u106 u107 u108 u109 u110 u111 u112 u113 u114 u115 u116 u117 u118 u119 u120 u121 u122 u123 u124 u125 u126 u127 u128 u129 u130 u131 u132 u133 u134 u135 u136 u137 u138 u139 u140 u141 u142 u143 u144 u145 u146 u147 u148 u149 u150 u151 u152 u153 u154 u155 u156 u157 u158 u159 u160 u161 u162 u163 u164 u165 u166 u167 u168 u169 u170 u171 u172 u173 u174 u175 u176 u177 u178 u179 u180 u181 u182 u183 u184 u185 u186 u187 u188 u189 u190 u191 u192 u193 u194 u195 u196 u197 u198 u199 u200 u201 u202 u203 u204 u205 u206 u207 u208 u209 u210 u211 u212 u213 u214 u215 u216 u217 u218 u219 : Value}
    (HB : Hid (B = w1.heap.size)) (hgTB : B ≤ gT) (hgFB : B ≤ gF) (HcT : Hid (t ≤ cT)) (HcF : Hid (t ≤ cF)) (hn2 : 2 ≤ n ∧ n ≤ 16) (hm3 : 1 ≤ t ∧ t ≤ 3)
    (hA0 : Hid (MS B wr0 wr0.heap.size gm gd W H L n t t (.slice (some ⟨gF, 0, none⟩) t cF) (.slice none 0 0) (.slice (some ⟨gT, 0, none⟩) t cT) fs ts ∧ Ext w1 wr0))
    (hP : ∀ c (a a' : Act) w, a.defers = a'.defers → Q (.panic c) a w → Q (.panic c) a' w)
    (hexit : ∀ (w2 : World), Hid (MS B w2 w2.heap.size gm gd W H L n t t (.slice (some ⟨gF, 0, none⟩) t cF) (.slice none 0 0) (.slice (some ⟨gT, 0, none⟩) t cT) fs ts ∧ Ext w1 w2) → ∀ (x13 x14 x143 x144 x145 x146 x147 x148 x149 x150 x151 x152 x153 x154 x155 x156 x157 x158 x159 x160 x161 x162 x163 x164 x165 x166 x167 x168 x169 x170 x171 x172 x173 x174 x175 x176 x177 x178 x179 x180 x181 x182 x183 x184 x185 x186 x187 x188 x189 x190 x191 x192 x193 x194 x195 x196 x197 x198 x199 x200 x201 x202 x203 x204 x205 : Value), Q (.exit 4) ⟨(u0 :: u1 :: u2 :: u3 :: Value.pointer (some ⟨gm, 0, none⟩) :: Value.int .i64 (n : Nat) :: Value.int .i64 (t : Nat) :: u7 :: u8 :: u9 :: u10 :: u11 :: Value.int .i64 (t : Nat) :: x13 :: x14 :: u15 :: u16 :: u17 :: u18 :: u19 :: u20 :: u21 :: u22 :: u23 :: u24 :: u25 :: u26 :: u27 :: u28 :: u29 :: u30 :: u31 :: u32 :: u33 :: u34 :: u35 :: u36 :: u37 :: u38 :: u39 :: u40 :: u41 :: u42 :: u43 :: u44 :: u45 :: u46 :: u47 :: u48 :: u49 :: u50 :: u51 :: u52 :: u53 :: u54 :: u55 :: u56 :: u57 :: u58 :: u59 :: u60 :: u61 :: u62 :: u63 :: u64 :: u65 :: u66 :: u67 :: u68 :: u69 :: u70 :: u71 :: u72 :: u73 :: u74 :: u75 :: u76 :: u77 :: u78 :: u79 :: u80 :: u81 :: u82 :: u83 :: u84 :: u85 :: u86 :: u87 :: u88 :: u89 :: u90 :: u91 :: u92 :: u93 :: u94 :: u95 :: u96 :: u97 :: u98 :: u99 :: u100 :: u101 :: u102 :: u103 :: u104 :: u105 :: u106 :: u107 :: u108 :: u109 :: u110 :: u111 :: u112 :: u113 :: u114 :: u115 :: u116 :: u117 :: u118 :: u119 :: u120 :: u121 :: u122 :: u123 :: u124 :: u125 :: u126 :: u127 :: u128 :: u129 :: u130 :: u131 :: u132 :: u133 :: u134 :: u135 :: u136 :: u137 :: u138 :: u139 :: u140 :: u141 :: u142 :: x143 :: x144 :: x145 :: x146 :: x147 :: x148 :: x149 :: x150 :: x151 :: x152 :: x153 :: x154 :: x155 :: x156 :: x157 :: x158 :: x159 :: x160 :: x161 :: x162 :: x163 :: x164 :: x165 :: x166 :: x167 :: x168 :: x169 :: x170 :: x171 :: x172 :: x173 :: x174 :: x175 :: x176 :: x177 :: x178 :: x179 :: x180 :: x181 :: x182 :: x183 :: x184 :: x185 :: x186 :: x187 :: x188 :: x189 :: x190 :: x191 :: x192 :: x193 :: x194 :: x195 :: x196 :: x197 :: x198 :: x199 :: x200 :: x201 :: x202 :: x203 :: x204 :: x205 :: u206 :: u207 :: u208 :: u209 :: u210 :: u211 :: u212 :: u213 :: u214 :: u215 :: u216 :: u217 :: u218 :: u219 :: []).toArray, []⟩ w2) :
    code12.wp Try.prog Q ⟨(u0 :: u1 :: u2 :: u3 :: Value.pointer (some ⟨gm, 0, none⟩) :: Value.int .i64 (n : Nat) :: Value.int .i64 (t : Nat) :: u7 :: u8 :: u9 :: u10 :: u11 :: Value.int .i64 0 :: u13 :: u14 :: u15 :: u16 :: u17 :: u18 :: u19 :: u20 :: u21 :: u22 :: u23 :: u24 :: u25 :: u26 :: u27 :: u28 :: u29 :: u30 :: u31 :: u32 :: u33 :: u34 :: u35 :: u36 :: u37 :: u38 :: u39 :: u40 :: u41 :: u42 :: u43 :: u44 :: u45 :: u46 :: u47 :: u48 :: u49 :: u50 :: u51 :: u52 :: u53 :: u54 :: u55 :: u56 :: u57 :: u58 :: u59 :: u60 :: u61 :: u62 :: u63 :: u64 :: u65 :: u66 :: u67 :: u68 :: u69 :: u70 :: u71 :: u72 :: u73 :: u74 :: u75 :: u76 :: u77 :: u78 :: u79 :: u80 :: u81 :: u82 :: u83 :: u84 :: u85 :: u86 :: u87 :: u88 :: u89 :: u90 :: u91 :: u92 :: u93 :: u94 :: u95 :: u96 :: u97 :: u98 :: u99 :: u100 :: u101 :: u102 :: u103 :: u104 :: u105 :: u106 :: u107 :: u108 :: u109 :: u110 :: u111 :: u112 :: u113 :: u114 :: u115 :: u116 :: u117 :: u118 :: u119 :: u120 :: u121 :: u122 :: u123 :: u124 :: u125 :: u126 :: u127 :: u128 :: u129 :: u130 :: u131 :: u132 :: u133 :: u134 :: u135 :: u136 :: u137 :: u138 :: u139 :: u140 :: u141 :: u142 :: u143 :: u144 :: u145 :: u146 :: u147 :: u148 :: u149 :: u150 :: u151 :: u152 :: u153 :: u154 :: u155 :: u156 :: u157 :: u158 :: u159 :: u160 :: u161 :: u162 :: u163 :: u164 :: u165 :: u166 :: u167 :: u168 :: u169 :: u170 :: u171 :: u172 :: u173 :: u174 :: u175 :: u176 :: u177 :: u178 :: u179 :: u180 :: u181 :: u182 :: u183 :: u184 :: u185 :: u186 :: u187 :: u188 :: u189 :: u190 :: u191 :: u192 :: u193 :: u194 :: u195 :: u196 :: u197 :: u198 :: u199 :: u200 :: u201 :: u202 :: u203 :: u204 :: u205 :: u206 :: u207 :: u208 :: u209 :: u210 :: u211 :: u212 :: u213 :: u214 :: u215 :: u216 :: u217 :: u218 :: u219 :: []).toArray, []⟩ wr0 := by
  have hM3 := Lib.hid hA0.out.1
  have hX3 := Lib.hid hA0.out.2
  clear hA0
  have HEXIT := Lib.hid hexit
  clear hexit
  conv => arg 2; whnf
  go_loopg [12] t (fun gk v wr => ∃ (a : Nat), v = .int .i64 a ∧ a ≤ t ∧ gk = t - a ∧ Hid (MS B wr wr.heap.size gm gd W H L n t t (.slice (some ⟨gF, 0, none⟩) t cF) (.slice none 0 0) (.slice (some ⟨gT, 0, none⟩) t cT) fs ts ∧ Ext w1 wr))
  case atStart => exact ⟨0, rfl, Nat.zero_le _, rfl, hM3.out, hX3.out⟩
  clear hM3 hX3
  case round =>
    obtain ⟨a, rfl, ha, rfl, hA⟩ := hrel
    obtain ⟨wA, rfl⟩ : ∃ wA : World, wA = wr := ⟨_, rfl⟩
    rcases Nat.lt_or_ge a t with halt | hage
    · skip
      go_wp2_with fail
      go_loopg [13] t (fun gk v wr => ∃ (b : Nat), v = .int .i64 b ∧ b ≤ t ∧ gk = t - b ∧ Hid (MS B wr wr.heap.size gm gd W H L n t t (.slice (some ⟨gF, 0, none⟩) t cF) (.slice none 0 0) (.slice (some ⟨gT, 0, none⟩) t cT) fs ts ∧ Ext w1 wr))
      case atStart => exact ⟨0, rfl, Nat.zero_le _, rfl, hA.out⟩
      clear hA
      case round =>
        obtain ⟨b, rfl, hb, rfl, hA⟩ := hrel
        obtain ⟨wB, rfl⟩ : ∃ wB : World, wB = wr := ⟨_, rfl⟩
        rcases Nat.lt_or_ge b t with hblt | hbge
        · go_wp2_with fail
          go_loopg [14] n (fun gk v wr => ∃ (k : Nat), v = .int .i64 k ∧ k ≤ n ∧ gk = n - k ∧ Hid (MS B wr wr.heap.size gm gd W H L n t t (.slice (some ⟨gF, 0, none⟩) t cF) (.slice none 0 0) (.slice (some ⟨gT, 0, none⟩) t cT) fs ts ∧ Ext w1 wr))
          case atStart => exact ⟨0, rfl, Nat.zero_le _, rfl, hA.out⟩
          clear hA
          case round =>
            obtain ⟨k, rfl, hk, rfl, hA⟩ := hrel
            by_cases hgo : k < n ∧ b ≠ a
            · obtain ⟨hkn, hba⟩ := hgo
              have hk1 : decide (k < n) = true := decide_eq_true hkn
              have hk2 : decide ((k : Int) < (n : Int)) = true := decide_eq_true (by omega)
              have hb1 : ((b : Int) == (a : Int)) = false := by rw [beq_eq_false_iff_ne]; omega
              have hb2 : ((b : Int) != (a : Int)) = true := by rw [bne_iff_ne]; omega
              have hb3 : (b == a) = false := by rw [beq_eq_false_iff_ne]; exact hba
              have hb4 : (b != a) = true := by rw [bne_iff_ne]; exact hba
              have hb5 : decide (b = a) = false := decide_eq_false hba
              have hcT := HcT.out
              have hcF := HcF.out
              have hb0 : (0 : Int) ≤ (b : Int) ∧ (b : Int) < (t : Int) := by omega
              have ha0 : (0 : Int) ≤ (a : Int) ∧ (a : Int) < (t : Int) := by omega
              have hk0 : (0 : Int) ≤ (k : Int) ∧ (k : Int) < (n : Int) := by omega
              have hm := hA.out.1
              have m5 : wr.cell? ⟨gm, 5, none⟩ = some (.slice (some ⟨gT, 0, none⟩) t cT) := hm.mz.cell (k := 5) rfl
              have m3 : wr.cell? ⟨gm, 3, none⟩ = some (.slice (some ⟨gF, 0, none⟩) t cF) := hm.mz.cell (k := 3) rfl
              obtain ⟨sb, u1, u2, e0, e1, e2, l1, l2, o1, o2, -, ⟨k1, k2⟩, -, -⟩ := hm.td b hblt
              obtain ⟨sa, v1, v2, d0, d1, d2, p1, p2, q1, q2, -, ⟨j1, j2⟩, -, -⟩ := hm.td a halt
              obtain ⟨uf, hf0, lf, hf1, hf2, -⟩ := hm.fd a halt
              have hlp : 0 < lf.length := by omega
              obtain ⟨gb, cb, rfl, hgbB, -⟩ := World.ownsRow.form hf1 hlp
              have T1 : wr.cell? ⟨gT, b * 3 + 1, none⟩ = some u1 := (hm.T.cellAt (b * 3 + 1) (by omega)).trans e1
              have T2 : wr.cell? ⟨gT, b * 3 + 2, none⟩ = some u2 := (hm.T.cellAt (b * 3 + 2) (by omega)).trans e2
              have A1 : wr.cell? ⟨gT, a * 3 + 1, none⟩ = some v1 := (hm.T.cellAt (a * 3 + 1) (by omega)).trans d1
              have A2 : wr.cell? ⟨gT, a * 3 + 2, none⟩ = some v2 := (hm.T.cellAt (a * 3 + 2) (by omega)).trans d2
              have F1 : wr.cell? ⟨gF, a, none⟩ = some (.slice (some ⟨gb, 0, none⟩) lf.length cb) := (hm.F.cellAt a (by omega)).trans hf0
              have hcb := own_cap hf1
              have hfb : ∀ j, wr.frozen? ⟨gb, j, none⟩ = false := fun j => World.ownsRow.frozenAt hf1 j
              have hcc : ∃ bo, wr.cell? ⟨gb, k, none⟩ = some (.bool bo) := by
                have h1 := World.ownsRow.cellAt hf1 k (by omega)
                rw [List.getElem?_map, List.getElem?_eq_getElem (by omega)] at h1
                exact ⟨_, h1⟩
              obtain ⟨bo, hcc⟩ := hcc
              have HBk : Hid (∃ cs, Blk wr gb 4 cs) := own_blkB hf1
              have HF2 := Lib.hid hf2
              have hlf0 : (k : Int) < (lf.length : Int) := by omega
              obtain ⟨b1, B1⟩ := hasB (k : Int) o1 (by omega)
              obtain ⟨b2, B2⟩ := hasB (k : Int) o2 (by omega)
              obtain ⟨b3, B3⟩ := hasB (k : Int) q1 (by omega)
              obtain ⟨b4, B4⟩ := hasB (k : Int) q2 (by omega)
              have HB1 := Lib.hid B1
              have HB2 := Lib.hid B2
              have HB3 := Lib.hid B3
              have HB4 := Lib.hid B4
              clear B1 B2 B3 B4 e0 e1 e2 o1 o2 d0 d1 d2 q1 q2 hf0 hf1 hf2 hm hba
              go_upto_region 37 with fail
              go_cut [180] from 163 to 180 (fun s wx => (∃ bb, s = .bool bb) ∧ wr = wx)
              case first =>
                go_wp2_with fail
                refine (HB1.out wr (Ext.refl _)).mono ?_
                rintro e w' ⟨rfl, rfl⟩
                cases b1 with
                | true =>
                  go_wp2_with fail
                  go_meet
                  exact ⟨⟨_, rfl⟩, rfl⟩
                | false =>
                  go_wp2_with fail
                  refine (HB2.out wr (Ext.refl _)).mono ?_
                  rintro e w' ⟨rfl, rfl⟩
                  go_wp2_with fail
                  go_meet
                  exact ⟨⟨_, rfl⟩, rfl⟩
              case rest =>
                obtain ⟨⟨bb, rfl⟩, rfl⟩ := hcut
                cases bb with
                | true =>
                  clear hk1 hk2 hb1 hb2 hb3 hb4 hb5 T1 T2 hlp hcT
                  go_wp2_with fail
                  have HF8 : Hid (∀ x, MS B ((wr.drew).setCell ⟨gb, k, none⟩ (.bool x)) ((wr.drew).setCell ⟨gb, k, none⟩ (.bool x)).heap.size gm gd W H L n t t (.slice (some ⟨gF, 0, none⟩) t cF) (.slice none 0 0) (.slice (some ⟨gT, 0, none⟩) t cT) fs ts ∧ Ext w1 ((wr.drew).setCell ⟨gb, k, none⟩ (.bool x))) := fun x => hA.out.1.stored (k := k) hA.out.2 HB.out HBk.out hgbB x
                  obtain ⟨csT, hbT⟩ := own_blkB hA.out.1.T
                  obtain ⟨csF, hbF⟩ := own_blkB hA.out.1.F
                  obtain ⟨csB, hbB⟩ := HBk.out
                  have r5 := SB.rule hA.out.1.mz (by decide) m5
                  have r3 := SB.rule hA.out.1.mz (by decide) m3
                  have ra1 := SB.rule hbT (by decide) A1
                  have ra2 := SB.rule hbT (by decide) A2
                  have rf1 := SB.rule hbF (by decide) F1
                  have HSS : Hid (∀ W x, SB wr W → SB wr (W.setCell ⟨gb, k, none⟩ x)) := fun W x h => h.set hbB x
                  clear HB1 HB2 m5 m3 A1 A2 F1 hbT hbF hbB
                  refine r38_wp (n := n) ha0 hk0 hcF hcb hlf0 r5 r3 ra1 ra2 rf1 hcc hfb HB3 HB4 HSS (fun c a a' W he h => hP c a a' W he h) (fun b' x181 x182 x183 x184 x185 x186 x187 x188 x189 x190 x191 x192 x193 x194 x195 x196 x197 x198 x199 x200 x201 x202 x203 x204 x205 => ?_)
                  have HF9 := Lib.hid (HF8.out b')
                  clear hcc hfb HF8 r5 r3 ra1 ra2 rf1
                  go_wp2_with fail
                  go_roundg (n - (k + 1))
                  case measure => omega
                  case rel => exact ⟨k + 1, by go_num, hkn, rfl, HF9.out⟩
                | false =>
                  go_wp2_with fail
                  go_roundg (n - (k + 1))
                  case measure => omega
                  case rel => exact ⟨k + 1, by go_num, hkn, rfl, hA.out⟩
            · have hno : decide (k < n) = false ∨ (decide (k < n) = true ∧ b = a) := by
                by_cases h1 : k < n
                · exact .inr ⟨decide_eq_true h1, by by_cases h2 : b = a; exact h2; exact absurd ⟨h1, h2⟩ hgo⟩
                · exact .inl (decide_eq_false h1)
              clear hgo
              rcases hno with hk1 | ⟨hk1, hba⟩
              · have hk3 : ¬ k < n := of_decide_eq_false hk1
                go_wp2_with fail
                go_roundg (t - (b + 1))
                case measure => omega
                case rel => exact ⟨b + 1, by go_num, hblt, rfl, hA.out⟩
              · subst hba
                have hk3 : k < n := of_decide_eq_true hk1
                have hb1 : ((b : Int) == (b : Int)) = true := by simp
                have hb2 : ((b : Int) != (b : Int)) = false := by simp
                go_wp2_with fail
                go_roundg (t - (b + 1))
                case measure => omega
                case rel => exact ⟨b + 1, by go_num, hblt, rfl, hA.out⟩
        · have hbt : b = t := by omega
          subst hbt
          have hbd : decide (b < b) = false := decide_eq_false (by omega)
          clear hbge
          go_wp2_with fail
          go_roundg (b - (a + 1))
          case measure => omega
          case rel => exact ⟨a + 1, by go_num, halt, rfl, hA.out⟩
    · have hat : a = t := by omega
      subst hat
      have hbd : decide (a < a) = false := decide_eq_false (by omega)
      clear hage
      go_wp2_with fail
      exact HEXIT.out wA hA _ _ _ _ _ _ _ _ _ _ _ _ _ _ _ _ _ _ _ _ _ _ _ _ _ _ _ _ _ _ _ _ _ _ _ _ _ _ _ _ _ _ _ _ _ _ _ _ _ _ _ _ _ _ _ _ _ _ _ _ _ _ _ _ _
end Go.Proofs.Ytgpjfpcjiebjiaa
