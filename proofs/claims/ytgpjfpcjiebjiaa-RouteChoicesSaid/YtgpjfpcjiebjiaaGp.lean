/- Walks: the triple loop of Made as a theorem of its own. Walks: a router loaded. Walks: a new router; the state of choices; Candidates, Open. -/
import Derived.Test.YtgpjfpcjiebjiaaGo
import Derived.Deep.LoopGhost
import Derived.Test.YtgpjfpcjiebjiaaGm
import Derived.Deep.AppendLies
namespace Go.Proofs.Ytgpjfpcjiebjiaa
open Go.RowKit
set_option linter.unusedVariables false
set_option linter.unusedSimpArgs false
attribute [local go_sem ↓] Go.wp_at_zero Go.wp_at_succ

def startsReg (n : Nat) : Code → Bool
 | .region id _ _ => decide (id = n)
 | .seq a _ => startsReg n a
 | .block _ c => startsReg n c
 | _ => false
/-- A loop of a code, by the number of the region that it begins with. -/
def findLoop (n : Nat) : Code → Option Code
 | .loop c => if startsReg n c = true then some (.loop c) else findLoop n c
 | .seq a b => match findLoop n a with
  | some c => some c
  | none => findLoop n b
 | .cond _ a b => match findLoop n a with
  | some c => some c
  | none => findLoop n b
 | .block _ c => findLoop n c
 | _ => none
noncomputable def code12 : Code := (Try.f46.body.bind (findLoop 29)).getD .skip

set_option maxHeartbeats 4000000 in
set_option maxRecDepth 1000000 in
theorem loop12_wp {w1 wr0 : World} {Q : Exit → Act → World → Prop} {B gm gd gF gT cF cT n t : Nat} {W H L : Int} {fs ts : List Value} {u0 u1 u2 u3 u7 u8 u9 u10 u11 u13 u14 u15 u16 u17 u18 u19 u20 u21 u22 u23 u24 u25 u26 u27 u28 u29 u30 u31 u32 u33 u34 u35 u36 u37 u38 u39 u40 u41 u42 u43 u44 u45 u46 u47 u48 u49 u50 u51 u52 u53 u54 u55 u56 u57 u58 u59 u60 u61 u62 u63 u64 u65 u66 u67 u68 u69 u70 u71 u72 u73 u74 u75 u76 u77 u78 u79 u80 u81 u82 u83 u84 u85 u86 u87 u88 u89 u90 u91 u92 u93 u94 u95 u96 u97 u98 u99 u100 u101 u102 u103 u104 u105 u106 u107 u108 u109 u110 u111 u112 u113 u114 u115 u116 u117 u118 u119 u120 u121 u122 u123 u124 u125 u126 u127 u128 u129 u130 u131 u132 u133 u134 u135 u136 u137 u138 u139 u140 u141 u142 u143 u144 u145 u146 u147 u148 u149 u150 u151 u152 u153 u154 u155 u156 u157 u158 u159 u160 u161 u162 u163 u164 u165 u166 u167 u168 u169 u170 u171 u172 u173 u174 u175 u176 u177 u178 u179 u180 u181 u182 u183 u184 u185 u186 u187 u188 u189 u190 u191 u192 u193 u194 u195 u196 u197 u198 u199 u200 u201 u202 u203 u204 u205 u206 u207 u208 u209 u210 u211 u212 u213 u214 u215 u216 u217 u218 u219 : Value}
  (HB : Hid (B = w1.heap.size)) (hgTB : B ≤ gT) (hgFB : B ≤ gF) (HcT : Hid (t ≤ cT)) (HcF : Hid (t ≤ cF)) (hn2 : 2 ≤ n ∧ n ≤ 16) (hm3 : 1 ≤ t ∧ t ≤ 3)
  (hA0 : Hid (MS B wr0 wr0.heap.size gm gd W H L n t t (.slice (some ⟨gF, 0, none⟩) t cF) (.slice none 0 0) (.slice (some ⟨gT, 0, none⟩) t cT) fs ts ∧ Ext w1 wr0))
  (hP : ∀ c (a a' : Act) w, a.defers = a'.defers → Q (.panic c) a w → Q (.panic c) a' w)
  (hexit : ∀ (w2 : World), Hid (MS B w2 w2.heap.size gm gd W H L n t t (.slice (some ⟨gF, 0, none⟩) t cF) (.slice none 0 0) (.slice (some ⟨gT, 0, none⟩) t cT) fs ts ∧ Ext w1 w2) → ∀ (x13 x14 x143 x144 x145 x146 x147 x148 x149 x150 x151 x152 x153 x154 x155 x156 x157 x158 x159 x160 x161 x162 x163 x164 x165 x166 x167 x168 x169 x170 x171 x172 x173 x174 x175 x176 x177 x178 x179 x180 x181 x182 x183 x184 x185 x186 x187 x188 x189 x190 x191 x192 x193 x194 x195 x196 x197 x198 x199 x200 x201 x202 x203 x204 x205 : Value), Q (.exit 4) ⟨(u0 :: u1 :: u2 :: u3 :: Value.pointer (some ⟨gm, 0, none⟩) :: Value.int .i64 (n : Nat) :: Value.int .i64 (t : Nat) :: u7 :: u8 :: u9 :: u10 :: u11 :: Value.int .i64 (t : Nat) :: x13 :: x14 :: u15 :: u16 :: u17 :: u18 :: u19 :: u20 :: u21 :: u22 :: u23 :: u24 :: u25 :: u26 :: u27 :: u28 :: u29 :: u30 :: u31 :: u32 :: u33 :: u34 :: u35 :: u36 :: u37 :: u38 :: u39 :: u40 :: u41 :: u42 :: u43 :: u44 :: u45 :: u46 :: u47 :: u48 :: u49 :: u50 :: u51 :: u52 :: u53 :: u54 :: u55 :: u56 :: u57 :: u58 :: u59 :: u60 :: u61 :: u62 :: u63 :: u64 :: u65 :: u66 :: u67 :: u68 :: u69 :: u70 :: u71 :: u72 :: u73 :: u74 :: u75 :: u76 :: u77 :: u78 :: u79 :: u80 :: u81 :: u82 :: u83 :: u84 :: u85 :: u86 :: u87 :: u88 :: u89 :: u90 :: u91 :: u92 :: u93 :: u94 :: u95 :: u96 :: u97 :: u98 :: u99 :: u100 :: u101 :: u102 :: u103 :: u104 :: u105 :: u106 :: u107 :: u108 :: u109 :: u110 :: u111 :: u112 :: u113 :: u114 :: u115 :: u116 :: u117 :: u118 :: u119 :: u120 :: u121 :: u122 :: u123 :: u124 :: u125 :: u126 :: u127 :: u128 :: u129 :: u130 :: u131 :: u132 :: u133 :: u134 :: u135 :: u136 :: u137 :: u138 :: u139 :: u140 :: u141 :: u142 :: x143 :: x144 :: x145 :: x146 :: x147 :: x148 :: x149 :: x150 :: x151 :: x152 :: x153 :: x154 :: x155 :: x156 :: x157 :: x158 :: x159 :: x160 :: x161 :: x162 :: x163 :: x164 :: x165 :: x166 :: x167 :: x168 :: x169 :: x170 :: x171 :: x172 :: x173 :: x174 :: x175 :: x176 :: x177 :: x178 :: x179 :: x180 :: x181 :: x182 :: x183 :: x184 :: x185 :: x186 :: x187 :: x188 :: x189 :: x190 :: x191 :: x192 :: x193 :: x194 :: x195 :: x196 :: x197 :: x198 :: x199 :: x200 :: x201 :: x202 :: x203 :: x204 :: x205 :: u206 :: u207 :: u208 :: u209 :: u210 :: u211 :: u212 :: u213 :: u214 :: u215 :: u216 :: u217 :: u218 :: u219 :: []).toArray, []⟩ w2) :
  code12.wp Try.prog Q ⟨(u0 :: u1 :: u2 :: u3 :: Value.pointer (some ⟨gm, 0, none⟩) :: Value.int .i64 (n : Nat) :: Value.int .i64 (t : Nat) :: u7 :: u8 :: u9 :: u10 :: u11 :: Value.int .i64 0 :: u13 :: u14 :: u15 :: u16 :: u17 :: u18 :: u19 :: u20 :: u21 :: u22 :: u23 :: u24 :: u25 :: u26 :: u27 :: u28 :: u29 :: u30 :: u31 :: u32 :: u33 :: u34 :: u35 :: u36 :: u37 :: u38 :: u39 :: u40 :: u41 :: u42 :: u43 :: u44 :: u45 :: u46 :: u47 :: u48 :: u49 :: u50 :: u51 :: u52 :: u53 :: u54 :: u55 :: u56 :: u57 :: u58 :: u59 :: u60 :: u61 :: u62 :: u63 :: u64 :: u65 :: u66 :: u67 :: u68 :: u69 :: u70 :: u71 :: u72 :: u73 :: u74 :: u75 :: u76 :: u77 :: u78 :: u79 :: u80 :: u81 :: u82 :: u83 :: u84 :: u85 :: u86 :: u87 :: u88 :: u89 :: u90 :: u91 :: u92 :: u93 :: u94 :: u95 :: u96 :: u97 :: u98 :: u99 :: u100 :: u101 :: u102 :: u103 :: u104 :: u105 :: u106 :: u107 :: u108 :: u109 :: u110 :: u111 :: u112 :: u113 :: u114 :: u115 :: u116 :: u117 :: u118 :: u119 :: u120 :: u121 :: u122 :: u123 :: u124 :: u125 :: u126 :: u127 :: u128 :: u129 :: u130 :: u131 :: u132 :: u133 :: u134 :: u135 :: u136 :: u137 :: u138 :: u139 :: u140 :: u141 :: u142 :: u143 :: u144 :: u145 :: u146 :: u147 :: u148 :: u149 :: u150 :: u151 :: u152 :: u153 :: u154 :: u155 :: u156 :: u157 :: u158 :: u159 :: u160 :: u161 :: u162 :: u163 :: u164 :: u165 :: u166 :: u167 :: u168 :: u169 :: u170 :: u171 :: u172 :: u173 :: u174 :: u175 :: u176 :: u177 :: u178 :: u179 :: u180 :: u181 :: u182 :: u183 :: u184 :: u185 :: u186 :: u187 :: u188 :: u189 :: u190 :: u191 :: u192 :: u193 :: u194 :: u195 :: u196 :: u197 :: u198 :: u199 :: u200 :: u201 :: u202 :: u203 :: u204 :: u205 :: u206 :: u207 :: u208 :: u209 :: u210 :: u211 :: u212 :: u213 :: u214 :: u215 :: u216 :: u217 :: u218 :: u219 :: []).toArray, []⟩ wr0 := by
 have hM3 := Lib.hid hA0.out.1
 have hX3 := Lib.hid hA0.out.2
 clear hA0
 have HEXIT := Lib.hid hexit
 clear hexit
 conv => arg 2; whnf
 go_loopg [12] t (fun gk v wr => ∃ (a : Nat), v = .int .i64 a ∧ a ≤ t ∧ gk = t - a ∧ Hid (MS B wr wr.heap.size gm gd W H L n t t (.slice (some ⟨gF, 0, none⟩) t cF) (.slice none 0 0) (.slice (some ⟨gT, 0, none⟩) t cT) fs ts ∧ Ext w1 wr))
 case atStart => exact ⟨0, rfl, Nat.zero_le _, rfl, hM3.out, hX3.out⟩
 clear hM3 hX3
 case round =>
  obtain ⟨a, rfl, ha, rfl, hA⟩ := hrel
  obtain ⟨wA, rfl⟩ : ∃ wA : World, wA = wr := ⟨_, rfl⟩
  rcases Nat.lt_or_ge a t with halt | hage
  ·skip
   go_wp2_with fail
   go_loopg [13] t (fun gk v wr => ∃ (b : Nat), v = .int .i64 b ∧ b ≤ t ∧ gk = t - b ∧ Hid (MS B wr wr.heap.size gm gd W H L n t t (.slice (some ⟨gF, 0, none⟩) t cF) (.slice none 0 0) (.slice (some ⟨gT, 0, none⟩) t cT) fs ts ∧ Ext w1 wr))
   case atStart => exact ⟨0, rfl, Nat.zero_le _, rfl, hA.out⟩
   clear hA
   case round =>
    obtain ⟨b, rfl, hb, rfl, hA⟩ := hrel
    obtain ⟨wB, rfl⟩ : ∃ wB : World, wB = wr := ⟨_, rfl⟩
    rcases Nat.lt_or_ge b t with hblt | hbge
    ·go_wp2_with fail
     go_loopg [14] n (fun gk v wr => ∃ (k : Nat), v = .int .i64 k ∧ k ≤ n ∧ gk = n - k ∧ Hid (MS B wr wr.heap.size gm gd W H L n t t (.slice (some ⟨gF, 0, none⟩) t cF) (.slice none 0 0) (.slice (some ⟨gT, 0, none⟩) t cT) fs ts ∧ Ext w1 wr))
     case atStart => exact ⟨0, rfl, Nat.zero_le _, rfl, hA.out⟩
     clear hA
     case round =>
      obtain ⟨k, rfl, hk, rfl, hA⟩ := hrel
      by_cases hgo : k < n ∧ b ≠ a
      ·obtain ⟨hkn, hba⟩ := hgo
       have hk1 : decide (k < n) = true := decide_eq_true hkn
       have hk2 : decide ((k : Int) < (n : Int)) = true := decide_eq_true (by omega)
       have hb1 : ((b : Int) == (a : Int)) = false := by rw [beq_eq_false_iff_ne]; omega
       have hb2 : ((b : Int) != (a : Int)) = true := by rw [bne_iff_ne]; omega
       have hb3 : (b == a) = false := by rw [beq_eq_false_iff_ne]; exact hba
       have hb4 : (b != a) = true := by rw [bne_iff_ne]; exact hba
       have hb5 : decide (b = a) = false := decide_eq_false hba
       have hcT := HcT.out
       have hcF := HcF.out
       have hb0 : (0 : Int) ≤ (b : Int) ∧ (b : Int) < (t : Int) := by omega
       have ha0 : (0 : Int) ≤ (a : Int) ∧ (a : Int) < (t : Int) := by omega
       have hk0 : (0 : Int) ≤ (k : Int) ∧ (k : Int) < (n : Int) := by omega
       have hm := hA.out.1
       have m5 : wr.cell? ⟨gm, 5, none⟩ = some (.slice (some ⟨gT, 0, none⟩) t cT) := hm.mz.cell (k := 5) rfl
       have m3 : wr.cell? ⟨gm, 3, none⟩ = some (.slice (some ⟨gF, 0, none⟩) t cF) := hm.mz.cell (k := 3) rfl
       obtain ⟨sb, u1, u2, e0, e1, e2, l1, l2, o1, o2, -, ⟨k1, k2⟩, -, -⟩ := hm.td b hblt
       obtain ⟨sa, v1, v2, d0, d1, d2, p1, p2, q1, q2, -, ⟨j1, j2⟩, -, -⟩ := hm.td a halt
       obtain ⟨uf, hf0, lf, hf1, hf2, -⟩ := hm.fd a halt
       have hlp : 0 < lf.length := by omega
       obtain ⟨gb, cb, rfl, hgbB, -⟩ := World.ownsRow.form hf1 hlp
       have T1 : wr.cell? ⟨gT, b * 3 + 1, none⟩ = some u1 := (hm.T.cellAt (b * 3 + 1) (by omega)).trans e1
       have T2 : wr.cell? ⟨gT, b * 3 + 2, none⟩ = some u2 := (hm.T.cellAt (b * 3 + 2) (by omega)).trans e2
       have A1 : wr.cell? ⟨gT, a * 3 + 1, none⟩ = some v1 := (hm.T.cellAt (a * 3 + 1) (by omega)).trans d1
       have A2 : wr.cell? ⟨gT, a * 3 + 2, none⟩ = some v2 := (hm.T.cellAt (a * 3 + 2) (by omega)).trans d2
       have F1 : wr.cell? ⟨gF, a, none⟩ = some (.slice (some ⟨gb, 0, none⟩) lf.length cb) := (hm.F.cellAt a (by omega)).trans hf0
       have hcb := own_cap hf1
       have hfb : ∀ j, wr.frozen? ⟨gb, j, none⟩ = false := fun j => World.ownsRow.frozenAt hf1 j
       have hcc : ∃ bo, wr.cell? ⟨gb, k, none⟩ = some (.bool bo) := by
        have h1 := World.ownsRow.cellAt hf1 k (by omega)
        rw [List.getElem?_map, List.getElem?_eq_getElem (by omega)] at h1
        exact ⟨_, h1⟩
       obtain ⟨bo, hcc⟩ := hcc
       have HBk : Hid (∃ cs, Blk wr gb 4 cs) := own_blkB hf1
       have HF2 := Lib.hid hf2
       have hlf0 : (k : Int) < (lf.length : Int) := by omega
       obtain ⟨b1, B1⟩ := hasB (k : Int) o1 (by omega)
       obtain ⟨b2, B2⟩ := hasB (k : Int) o2 (by omega)
       obtain ⟨b3, B3⟩ := hasB (k : Int) q1 (by omega)
       obtain ⟨b4, B4⟩ := hasB (k : Int) q2 (by omega)
       have HB1 := Lib.hid B1
       have HB2 := Lib.hid B2
       have HB3 := Lib.hid B3
       have HB4 := Lib.hid B4
       clear B1 B2 B3 B4 e0 e1 e2 o1 o2 d0 d1 d2 q1 q2 hf0 hf1 hf2 hm hba
       go_upto_region 37 with fail
       go_cut [180] from 163 to 180 (fun s wx => (∃ bb, s = .bool bb) ∧ wr = wx)
       case first =>
        go_wp2_with fail
        refine (HB1.out wr (Ext.refl _)).mono ?_
        rintro e w' ⟨rfl, rfl⟩
        cases b1 with
        | true =>
         go_wp2_with fail
         go_meet
         exact ⟨⟨_, rfl⟩, rfl⟩
        | false =>
         go_wp2_with fail
         refine (HB2.out wr (Ext.refl _)).mono ?_
         rintro e w' ⟨rfl, rfl⟩
         go_wp2_with fail
         go_meet
         exact ⟨⟨_, rfl⟩, rfl⟩
       case rest =>
        obtain ⟨⟨bb, rfl⟩, rfl⟩ := hcut
        cases bb with
        | true =>
         clear hk1 hk2 hb1 hb2 hb3 hb4 hb5 T1 T2 hlp hcT
         go_wp2_with fail
         have HF8 : Hid (∀ x, MS B ((wr.drew).setCell ⟨gb, k, none⟩ (.bool x)) ((wr.drew).setCell ⟨gb, k, none⟩ (.bool x)).heap.size gm gd W H L n t t (.slice (some ⟨gF, 0, none⟩) t cF) (.slice none 0 0) (.slice (some ⟨gT, 0, none⟩) t cT) fs ts ∧ Ext w1 ((wr.drew).setCell ⟨gb, k, none⟩ (.bool x))) := fun x => hA.out.1.stored (k := k) hA.out.2 HB.out HBk.out hgbB x
         obtain ⟨csT, hbT⟩ := own_blkB hA.out.1.T
         obtain ⟨csF, hbF⟩ := own_blkB hA.out.1.F
         obtain ⟨csB, hbB⟩ := HBk.out
         have r5 := SB.rule hA.out.1.mz (by decide) m5
         have r3 := SB.rule hA.out.1.mz (by decide) m3
         have ra1 := SB.rule hbT (by decide) A1
         have ra2 := SB.rule hbT (by decide) A2
         have rf1 := SB.rule hbF (by decide) F1
         have HSS : Hid (∀ W x, SB wr W → SB wr (W.setCell ⟨gb, k, none⟩ x)) := fun W x h => h.set hbB x
         clear HB1 HB2 m5 m3 A1 A2 F1 hbT hbF hbB
         refine r38_wp (n := n) ha0 hk0 hcF hcb hlf0 r5 r3 ra1 ra2 rf1 hcc hfb HB3 HB4 HSS (fun c a a' W he h => hP c a a' W he h) (fun b' x181 x182 x183 x184 x185 x186 x187 x188 x189 x190 x191 x192 x193 x194 x195 x196 x197 x198 x199 x200 x201 x202 x203 x204 x205 => ?_)
         have HF9 := Lib.hid (HF8.out b')
         clear hcc hfb HF8 r5 r3 ra1 ra2 rf1
         go_wp2_with fail
         go_roundg (n - (k + 1))
         case measure => omega
         case rel => exact ⟨k + 1, by go_num, hkn, rfl, HF9.out⟩
        | false =>
         go_wp2_with fail
         go_roundg (n - (k + 1))
         case measure => omega
         case rel => exact ⟨k + 1, by go_num, hkn, rfl, hA.out⟩
      ·have hno : decide (k < n) = false ∨ (decide (k < n) = true ∧ b = a) := by
        by_cases h1 : k < n
        ·exact .inr ⟨decide_eq_true h1, by by_cases h2 : b = a; exact h2; exact absurd ⟨h1, h2⟩ hgo⟩
        ·exact .inl (decide_eq_false h1)
       clear hgo
       rcases hno with hk1 | ⟨hk1, hba⟩
       ·have hk3 : ¬ k < n := of_decide_eq_false hk1
        go_wp2_with fail
        go_roundg (t - (b + 1))
        case measure => omega
        case rel => exact ⟨b + 1, by go_num, hblt, rfl, hA.out⟩
       ·subst hba
        have hk3 : k < n := of_decide_eq_true hk1
        have hb1 : ((b : Int) == (b : Int)) = true := by simp
        have hb2 : ((b : Int) != (b : Int)) = false := by simp
        go_wp2_with fail
        go_roundg (t - (b + 1))
        case measure => omega
        case rel => exact ⟨b + 1, by go_num, hblt, rfl, hA.out⟩
    ·have hbt : b = t := by omega
     subst hbt
     have hbd : decide (b < b) = false := decide_eq_false (by omega)
     clear hbge
     go_wp2_with fail
     go_roundg (b - (a + 1))
     case measure => omega
     case rel => exact ⟨a + 1, by go_num, halt, rfl, hA.out⟩
  ·have hat : a = t := by omega
   subst hat
   have hbd : decide (a < a) = false := decide_eq_false (by omega)
   clear hage
   go_wp2_with fail
   exact HEXIT.out wA hA _ _ _ _ _ _ _ _ _ _ _ _ _ _ _ _ _ _ _ _ _ _ _ _ _ _ _ _ _ _ _ _ _ _ _ _ _ _ _ _ _ _ _ _ _ _ _ _ _ _ _ _ _ _ _ _ _ _ _ _ _ _ _ _ _
end Go.Proofs.Ytgpjfpcjiebjiaa

namespace Go.Proofs.Ytgpjfpcjiebjiaa
open Go.RowKit
set_option linter.unusedVariables false
set_option linter.unusedSimpArgs false
attribute [local go_sem ↓] Go.wp_at_zero Go.wp_at_succ

/-- Are these choices? -/
def isChB (m : MZ) (ch : List Int) : Bool := (List.range ch.length).all fun k => decide (ch.getD k 0 ∈ cand m (ch.take k))
theorem isCh_of {m : MZ} {ch : List Int} (h : ∀ k, k < ch.length → ch.getD k 0 ∈ cand m (ch.take k)) : ∀ k, k ≤ ch.length → IsCh m (ch.take k)
 | 0, _ => by simpa using IsCh.nil
 | k + 1, hk => by
  rw [List.take_succ_eq_append_getElem (by omega)]
  have h1 := h k (by omega)
  rw [List.getD_eq_getElem?_getD, List.getElem?_eq_getElem (by omega), Option.getD_some] at h1
  exact .snoc (isCh_of h k (by omega)) h1
theorem isChB_iff {m : MZ} {ch : List Int} : isChB m ch = true ↔ IsCh m ch := by
 unfold isChB
 rw [List.all_eq_true]
 constructor
 ·intro h
  have := isCh_of (m := m) (ch := ch) (fun k hk => of_decide_eq_true (h k (List.mem_range.2 hk))) ch.length (Nat.le_refl _)
  rwa [List.take_length] at this
 ·intro h k hk
  have hk := List.mem_range.1 hk
  rw [decide_eq_true_eq, List.getD_eq_getElem?_getD, List.getElem?_eq_getElem hk, Option.getD_some]
  exact h.at hk
/-- The error of Load. -/
noncomputable def loadE (m : MZ) (ch : List Int) (st : Int) : Int :=
 if chk m ≠ 0 then chk m else if st < 0 then 1 else if (isChB m ch && (decide (ch = []) || openC m ch)) = true then 0 else 51
/-- The router that is loaded. -/
def loadS (m : MZ) (ch : List Int) (st : Int) : RS := ⟨ch, cmpC m ch || (decide (ch = []) && decide (0 < st)), st⟩

theorem RtAt.new {wb : World} {X Y ok : Nat → Prop} {p : Nat} {m : MZ} {st : Int} (hst : StC wb ok p m []) (hok : ∀ b, ok b → b < wb.heap.size → X b ∨ Y b) (hX : ∀ b, wb.heap.size ≤ b → X b) (hY : ∀ b, Y b → b < wb.heap.size) :
  RtAt ((wb.alloc (.cells #[ptrV p] 88)).alloc (.cells #[.slice (some ⟨wb.heap.size, 0, none⟩) 1 1, .bool false, .int .i64 st] 87)) X Y (wb.heap.size + 1) wb.heap.size 1 m ⟨[], false, st⟩ [p] := by
 have hE : Ext wb ((wb.alloc (.cells #[ptrV p] 88)).alloc (.cells #[.slice (some ⟨wb.heap.size, 0, none⟩) 1 1, .bool false, .int .i64 st] 87)) := ((Ext.refl _).alloc _).alloc _
 refine ⟨Blk.new _ _ _ (by simp), hX _ (by omega), hX _ (by omega), by omega, fun h => by have := hY _ h; omega, fun h => by have := hY _ h; omega, ?_, rfl, ?_⟩
 ·exact ⟨rfl, .inr ⟨wb.heap.size, 1, #[ptrV p], rfl, Nat.zero_le _, (Blk.new wb _ _ rfl).alloc _, Nat.le_refl _, by unfold maxLen; omega, rfl, rfl⟩⟩
 ·intro k p' hp
  match k, hp with
  | 0, hp =>
   have : p = p' := by simpa using hp
   subst this
   refine (hst.bound.ext hE).weaken fun b hb => ?_
   rcases hok b hb.1 hb.2 with h | h
   ·exact .inl ⟨h, by omega, by omega⟩
   ·exact .inr h

def LoadPost (w : World) (Y : Nat → Prop) (m : MZ) (ch : List Int) (st : Int) (e : Ending) (w' : World) : Prop :=
 ∃ v, e = .returned (.tuple #[v, .int .i64 (loadE m ch st)]) ∧ Ext w w' ∧
  ((loadE m ch st ≠ 0 ∧ v = .pointer none) ∨ (loadE m ch st = 0 ∧ Good m ∧ IsCh m ch ∧ ∃ g gr cap pt, v = ptrV g ∧ RtAt w' (fun b => w.heap.size ≤ b) Y g gr cap m (loadS m ch st) pt))
/-- The router while it is loaded. -/
structure LR (w wr : World) (Y : Nat → Prop) (g gr cap : Nat) (m : MZ) (ch : List Int) (st : Int) (k : Nat) (pt : List Nat) : Prop where
 rt : RtAt wr (fun b => w.heap.size ≤ b) Y g gr cap m ⟨ch.take k, false, st⟩ pt
 ext : Ext w wr
 ch : IsCh m (ch.take k)

theorem load_fin {w w9 : World} {Y : Nat → Prop} {g gr cap : Nat} {m : MZ} {ch : List Int} {st : Int} {pt : List Nat} {d : Bool} {c : List Int} (h : RtAt w9 (fun b => w.heap.size ≤ b) Y g gr cap m ⟨c, false, st⟩ pt) (hE : Ext w w9) (hc : c = ch) (hic : IsCh m ch) (hg : Good m) (hle : loadE m ch st = 0) (hd : d = (loadS m ch st).done) :
  LoadPost w Y m ch st (.returned (.tuple #[.pointer (some ⟨g, 0, none⟩), .int .i64 0])) (w9.setCell ⟨g, 1, none⟩ (.bool d)) := by
 subst hc
 refine ⟨.pointer (some ⟨g, 0, none⟩), by rw [hle], hE.setCell (p := ⟨g, 1, none⟩) h.xg _, .inr ⟨hle, hg, hic, g, gr, cap, pt, rfl, ?_⟩⟩
 have := h.done d
 rw [hd] at this ⊢
 exact this

set_option maxHeartbeats 4000000 in
set_option maxRecDepth 100000 in
theorem load_calls {okc Y : Nat → Prop} {v vc : Value} {m : MZ} {ch : List Int} (st : Int) (w : World) (hm : MazeV w Y v m) (hl : Lens m) (hch : Ints w okc vc ch) (hlc : ch.length ≤ 20000000000000) (hYb : ∀ b, Y b → b < w.heap.size) :
  Calls Try.prog 32 #[v, vc, .int .i64 st] w (LoadPost w Y m ch st) := by
 have hmz := hm
 obtain ⟨vfr, vup, vts, rfl, _, _, hts⟩ := hm
 have HMZ := Lib.hid hmz; clear hmz hts
 have HCHS := Lib.hid hch
 obtain ⟨Ac, cc, rfl, hcc, hrc⟩ := hch
 have HRC := Lib.hid hrc; clear hrc
 have HL := Lib.hid hl; clear hl
 have HYB := Lib.hid hYb; clear hYb
 obtain ⟨MV, hMV⟩ : ∃ MV, MV = Value.agg #[.int .i64 m.w, .int .i64 m.h, .int .i64 m.l, vfr, vup, vts] := ⟨_, rfl⟩
 obtain ⟨ck, hck⟩ : ∃ ck, ck = chk m := ⟨_, rfl⟩
 have HCK := Lib.hid hck; clear hck
 obtain ⟨i0, hi, hz0, hz1, hz2⟩ := info_parts Try.infoPst
 have IF := Lib.hid hi
 have IZ0 := Lib.hid hz0
 have IZ1 := Lib.hid hz1
 have IZ2 := Lib.hid hz2
 clear hi hz0 hz1 hz2 hMV
 go_enter Try.func32, Try.ntmps32
 go_wp2_with fail
 generalize hw1 : w.alloc (.cells #[.int .i64 m.w, .int .i64 m.h, .int .i64 m.l, vfr, vup, vts] 31) = w1
 have hb1 : Ext w w1 := by rw [← hw1]; exact (Ext.refl w).alloc _
 have hgm : Blk w1 w.heap.size 31 #[.int .i64 m.w, .int .i64 m.h, .int .i64 m.l, vfr, vup, vts] := by rw [← hw1]; exact heap_alloc_new _ _
 clear hw1
 obtain ⟨m0, m1, m2, m3, m4, m5⟩ := cells6 hgm
 have c0 := Ext.rule m0
 have c1 := Ext.rule m1
 have c2 := Ext.rule m2
 have c3 := Ext.rule m3
 have c4 := Ext.rule m4
 have c5 := Ext.rule m5
 clear m0 m1 m2 m3 m4 m5 hgm
 refine (check_calls w1 (HMZ.out.below hb1) HL.out).mono ?_
 rintro e w2 ⟨rfl, hx2⟩
 have hx2 : Ext w1 w2 := hx2
 have hE2 : Ext w w2 := hb1.trans hx2
 rw [← HCK.out]
 by_cases h0 : ck = 0
 case neg =>
  have hq1 : (ck == 0) = false := by rw [beq_eq_false_iff_ne]; exact h0
  have hq2 : (ck != 0) = true := by rw [bne_iff_ne]; exact h0
  have hle : loadE m ch st = ck := by unfold loadE; rw [← HCK.out, if_pos h0]
  have hfin : LoadPost w Y m ch st (.returned (.tuple #[.pointer none, .int .i64 ck])) w2 := ⟨.pointer none, by rw [hle], hE2, .inl ⟨by rw [hle]; exact h0, rfl⟩⟩
  have HFIN := Lib.hid hfin
  clear hfin hle h0
  go_wp2_with fail
  go_ret2
  exact HFIN.out
 case pos =>
  subst h0
  have HG := Lib.hid (Good.of HCK.out.symm)
  by_cases hst : st < 0
  ·have hle : loadE m ch st = 1 := by unfold loadE; rw [← HCK.out, if_neg (by simp), if_pos hst]
   have hfin : LoadPost w Y m ch st (.returned (.tuple #[.pointer none, .int .i64 1])) w2 := ⟨.pointer none, by rw [hle], hE2, .inl ⟨by rw [hle]; decide, rfl⟩⟩
   have HFIN := Lib.hid hfin
   clear hfin hle
   go_wp2_with fail
   go_ret2
   exact HFIN.out
  ·have hst0 : 0 ≤ st := by omega
   have hsd : decide (st < 0) = false := decide_eq_false hst
   have HLE : Hid (loadE m ch st = if (isChB m ch && (decide (ch = []) || openC m ch)) = true then 0 else 51) := by
    show loadE m ch st = _
    unfold loadE
    rw [← HCK.out, if_neg (by simp), if_neg hst]
   clear hst
   go_wp2_with fail
   refine (begin_c w2 (HMZ.out.below hE2) (by have := HG.out.tk; omega)).mono ?_
   rintro e w3 ⟨p, rfl, hx3, hst3⟩
   have hE3 : Ext w w3 := hE2.trans hx3
   have H0 : Hid (LR w ((w3.alloc (.cells #[ptrV p] 88)).alloc (.cells #[.slice (some ⟨w3.heap.size, 0, none⟩) 1 1, .bool false, .int .i64 st] 87)) Y (w3.heap.size + 1) w3.heap.size 1 m ch st 0 [p]) := by
    have hz := hE3.size
    have hz2 := hE2.size
    refine ⟨?_, (hE3.alloc _).alloc _, by simpa using IsCh.nil⟩
    have := RtAt.new (X := fun b => w.heap.size ≤ b) (Y := Y) (st := st) hst3 (fun b hb _ => by
     rcases hb with hb | hb
     ·exact .inr hb
     ·exact .inl (by omega)) (fun b hb => by omega) (fun b hb => by have := HYB.out b hb; omega)
    simpa using this
   clear hst3
   go_wp2_with fail
   generalize hw4 : (w3.alloc (.cells #[.pointer (some ⟨p, 0, none⟩)] 88)).alloc (.cells #[.slice (some ⟨w3.heap.size, 0, none⟩) 1 1, .bool false, .int .i64 st] 87) = w4
   have H0 : Hid (LR w w4 Y (w3.heap.size + 1) w3.heap.size 1 m ch st 0 [p]) := by rw [← hw4]; exact H0
   clear hw4
   generalize w3.heap.size + 1 = g at *
   generalize w3.heap.size = gr0 at *
   clear c0 c1 c2 c3 c4 c5 hx3 hE3 hE2 hx2 hb1
   go_loopg [27] ch.length (fun gk v wr => ∃ (k gr cap : Nat) (pt : List Nat), v = .int .i64 k ∧ k ≤ ch.length ∧ gk = ch.length - k ∧ Hid (LR w wr Y g gr cap m ch st k pt))
   case atStart => exact ⟨0, gr0, 1, [p], rfl, Nat.zero_le _, rfl, H0⟩
   clear H0
   case round =>
    obtain ⟨k, gr, cap, pt, rfl, hk, rfl, hR⟩ := hrel
    have hxr := hR.out.ext
    have hrt := hR.out.rt
    obtain ⟨p2, hp2, hst2, _⟩ := hrt.row.last
    dsimp only at hp2 hst2
    have hkl : (ch.take k).length = k := by rw [List.length_take]; omega
    have hk300 := hR.out.ch.len300 HG.out
    rw [hkl] at hk300
    have HLX : Hid (∀ W, Ext wr W → Calls Try.prog 62 #[.pointer (some ⟨g, 0, none⟩)] W fun e w' => e = .returned (.pointer (some ⟨p2, 0, none⟩)) ∧ Drew W w') := fun W hE => last_c (w' := W) (hrt.ext hE) hp2 (by dsimp only; omega)
    have HST := Lib.hid hst2
    have rg0 : ∀ W, Ext wr W → W.cell? ⟨g, 0, none⟩ = some (.slice (some ⟨gr, 0, none⟩) pt.length cap) := Ext.rule (hrt.blk.cell (k := 0) rfl)
    have hcap := own_cap hrt.row.1
    have hptl : pt.length ≤ 400 := by have := hrt.row.2.1; dsimp only at this; omega
    clear hrt hp2 hst2
    rcases Nat.lt_or_ge k ch.length with hlt | hge
    ·obtain ⟨bc, oc, rfl, _, hcell⟩ := intsAt HRC.out hlt hlt
     obtain ⟨n, hn⟩ : ∃ n, n = ch[k] := ⟨_, rfl⟩
     rw [← hn] at hcell
     have q0 := Ext.rule hcell
     have HN := Lib.hid hn
     clear hcell hn
     go_wp2_with fail
     refine (HLX.out wr (Ext.refl _)).mono ?_
     rintro e w5 ⟨rfl, hd5⟩
     have hx5 : Ext wr w5 := hd5.below _
     clear hd5
     go_wp2_with fail
     refine (candidates_c w5 (HST.out.ext hx5) HG.out HL.out hR.out.ch).mono ?_
     rintro e w6 ⟨v6, rfl, hM⟩
     have hx6 : Ext wr w6 := hx5.trans hM.ext
     have HM := Lib.hid hM.ints
     clear hM hx5
     go_wp2_with fail
     refine (contains_calls n w6 HM.out (by have := cand_len HL.out (ch.take k); omega)).mono ?_
     rintro e w7 ⟨rfl, rfl⟩
     by_cases hnc : n ∈ cand m (ch.take k)
     ·rw [decide_eq_true hnc]
      have HNC := Lib.hid hnc
      clear hnc
      have hcs : Hid (ch.take k ++ [n] = ch.take (k + 1)) := by show _ = _; rw [List.take_succ_eq_append_getElem hlt, HN.out]
      go_wp2_with fail
      refine wp_region_held_drew (S := fun _ => True) mixedA trivial (fun hHeld => ?_)
      have hd0 : Ext wr w6.drew := hx6.drew
      refine wpAnyH_take (i := 0) (v := ?v1) rfl (by kernel_rfl) (by kernel_rfl) (by kernel_rfl) (fun _ _ _ h => h) (Or.inl ⟨?w1, ?y1⟩) hHeld ?r1
      case w1 => rfl
      case y1 => (intro w hSw; go_simp; try with_reducible rfl)
      simp only [rtPr, Act.put]
      refine wpAnyH_take (i := 1) (v := ?v2) rfl (by kernel_rfl) (by kernel_rfl) (by kernel_rfl) (fun _ _ _ h => h) (Or.inl ⟨?w2, ?y2⟩) hHeld ?r2
      case w2 => rfl
      case y2 => (intro w hSw; go_simp; try with_reducible rfl)
      simp only [rtPr, Act.put]
      refine wpAnyH_take (i := 2) (v := ?v3) rfl (by kernel_rfl) (by kernel_rfl) (by kernel_rfl) (fun _ _ _ h => h) (Or.inl ⟨?w3, ?y3⟩) hHeld ?r3
      case w3 => rfl
      case y3 => (intro w hSw; go_simp; try with_reducible rfl)
      simp only [rtPr, Act.put]
      refine wpAnyH_take (i := 3) (v := ?v4) rfl (by kernel_rfl) (by kernel_rfl) (by kernel_rfl) (fun _ _ _ h => h) (Or.inl ⟨?w4, ?y4⟩) hHeld ?r4
      case w4 => rfl
      case y4 => (intro w hSw; go_simp; try with_reducible rfl)
      simp only [rtPr, Act.put]
      refine wpAnyH_take (i := 5) (v := ?v5) rfl (by kernel_rfl) (by kernel_rfl) (by kernel_rfl) (fun _ _ _ h => h) (Or.inl ⟨?w5, ?y5⟩) hHeld ?r5
      case w5 => rfl
      case y5 => (intro w hSw; go_simp; try with_reducible rfl)
      simp only [rtPr, Act.put]
      refine wpAnyH_take (i := 7) (v := ?v6) rfl (by kernel_rfl) (by kernel_rfl) (by kernel_rfl) (fun _ _ _ h => h) (Or.inl ⟨?w6, ?y6⟩) hHeld ?r6
      case w6 => rfl
      case y6 => (intro w hSw; go_simp; try with_reducible rfl)
      simp only [rtPr, Act.put]
      refine wpAnyH_ready (rs := [4, 6]) (by kernel_rfl) (by simp) ?_
      refine AllReadyH.cons rfl (fun K hK => ?_) ?_
      ·skip
       have hx := hd0
       go_simp
       clear hx
       refine hK.out _ _ trivial (fun hHeld => ?_)
       clear hK K
       try simp only [rtPr, Act.put]
       refine wpAnyH_ready (rs := [6]) (by kernel_rfl) (by simp) ?_
       refine AllReadyH.cons rfl (fun K hK => ?_) ?_
       ·skip
        go_simp
        go_at_call 62
        refine (HLX.out _ hd0).mono ?_
        rintro e wa2 ⟨rfl, hd2⟩
        have ha2 : Ext wr wa2 := hd0.trans (hd2.below _)
        go_simp
        refine hK.out _ _ trivial (fun hHeld => ?_)
        clear hK K
        try simp only [rtPr, Act.put]
        refine wpAnyH_ready (rs := [8]) (by kernel_rfl) (by simp) ?_
        refine AllReadyH.cons rfl (fun K hK => ?_) ?_
        ·skip
         go_simp
         go_at_call 69
         refine (with_c _ (HST.out.ext ha2) HG.out HL.out hR.out.ch HNC.out).mono ?_
         rintro e wa3 ⟨q, rfl, hxw, hq⟩
         have HQ := Lib.hid (push_ok (g := g) (gr := gr) hq ha2 hR.out.rt (fun b hb => Nat.le_trans hxr.size hb))
         clear hq
         have ha3 : Ext wr wa3 := ha2.trans hxw
         clear hxw
         go_simp
         refine hK.out _ _ trivial (fun hHeld => ?_)
         clear hK K
         try simp only [rtPr, Act.put]
         refine wpAnyH_ready (rs := [9]) (by kernel_rfl) (by simp) ?_
         refine AllReadyH.cons rfl (fun K hK => ?_) ?_
         ·skip
          go_simp
          refine hK.out _ _ trivial (fun hHeld => ?_)
          clear hK K
          try simp only [rtPr, Act.put]
          refine wpAnyH_ready (rs := [10]) (by kernel_rfl) (by simp) ?_
          refine AllReadyH.cons rfl (fun K hK => ?_) ?_
          ·skip
           have hr4 := hR.out.rt.ext ha3
           have HR4 := Lib.hid hr4
           have hc4 : wa3.cell? ⟨g, 0, none⟩ = some (.slice (some ⟨gr, 0, none⟩) pt.length cap) := hr4.blk.cell (k := 0) rfl
           have hf4 : wa3.frozen? ⟨g, 0, none⟩ = false := hr4.blk.frozen 0
           clear hr4
           refine step_append_lies (P := Try.prog) _ (by rfl) _ _ 85 (by rfl) 0 88 i0 (.pointer none) 1 8 Try.underlying85 IF.out IZ0.out IZ1.out IZ2.out rfl (by decide) (.slice (some ⟨gr, 0, none⟩) pt.length cap) pt.length _ (by rfl) (HR4.out.row.1.alloc _) ⟨wa3.heap.size, 0, none⟩ 1 1 [ptrV q] (by rfl) rfl (cell_one_new _ _ _) (by simp [ptrV, Value.oneCell']) (by decide) (by unfold maxLen; omega) (by omega) (Nat.zero_le _) (wa3.heap.size + 1) (by simp) ?_
           intro g5 c5 w9 hown hg hv _
           obtain ⟨gr', cap', hvv, hrt9, hch9⟩ := HR4.out.push HQ.out (fun b hb => Nat.le_trans hxr.size (Nat.le_trans ha3.size hb)) (fun b hb => Nat.lt_of_lt_of_le (HYB.out b hb) (Nat.le_trans hxr.size ha3.size)) hown hg (by rcases hv with hv | hv; exact .inl hv.symm; exact .inr (congrArg some hv))
           have hblk9 : w9.heap[g]? = wa3.heap[g]? := (hg.block g (by have := lt_of_some HR4.out.blk; simp; omega) (fun e => HR4.out.ne (by injection e))).trans (Below.heap_alloc _ _ _ (lt_of_some HR4.out.blk))
           have hc9 : w9.cell? ⟨g, 0, none⟩ = some (.slice (some ⟨gr, 0, none⟩) pt.length cap) := (World.cell?_of_block hblk9).trans hc4
           have hf9 : w9.frozen? ⟨g, 0, none⟩ = false := (World.frozen?_of_block (a := ⟨g, 0, none⟩) hblk9).trans hf4
           have HE9 : Hid (Ext w (w9.setCell ⟨g, 0, none⟩ (.slice (some ⟨g5, 0, none⟩) (pt.length + 1) c5))) := Below.trans (hxr.trans ha3) (hch9.below (Nat.le_trans hxr.size ha3.size) (fun b hb => hb))
           have HRT9 := Lib.hid hrt9
           clear hown hg hv hrt9 hch9 hblk9 hc4 hf4
           refine hK.out _ _ trivial (fun hHeld => ?_)
           clear hK K
           try simp only [rtPr, Act.put]
           refine wpAnyH_ready (rs := [11]) (by kernel_rfl) (by simp) ?_
           refine AllReadyH.cons rfl (fun K hK => ?_) ?_
           ·skip
            go_simp
            refine hK.out _ _ trivial (fun hHeld => ?_)
            clear hK K
            try simp only [rtPr, Act.put]
            refine wpAnyH_ready (rs := [12]) (by kernel_rfl) (by simp) ?_
            refine AllReadyH.cons rfl (fun K hK => ?_) ?_
            ·skip
             go_simp
             refine hK.out _ _ trivial (fun hHeld => ?_)
             clear hK K
             try simp only [rtPr, Act.put]
             refine wpAnyH_ready (rs := [13]) (by kernel_rfl) (by simp) ?_
             refine AllReadyH.cons rfl (fun K hK => ?_) ?_
             ·skip
              go_simp
              refine hK.out _ _ trivial (fun hHeld => ?_)
              clear hK K
              try simp only [rtPr, Act.put]
              refine wpAnyH_done (by kernel_rfl) ?_ _
              go_wp2_with fail
              go_roundg (ch.length - (k + 1))
              case measure => omega
              case rel => exact ⟨k + 1, _, _, _, by go_num, hlt, rfl, ⟨by have := HRT9.out; rwa [hcs.out] at this, HE9.out, by rw [← hcs.out]; exact .snoc hR.out.ch HNC.out⟩⟩
             exact AllReadyH.nil
            exact AllReadyH.nil
           exact AllReadyH.nil
          exact AllReadyH.nil
         exact AllReadyH.nil
        exact AllReadyH.nil
       exact AllReadyH.nil
      refine AllReadyH.cons rfl (fun K hK => ?_) ?_
      ·skip
       go_simp
       go_at_call 62
       refine (HLX.out _ hd0).mono ?_
       rintro e wa9 ⟨rfl, hd9⟩
       have ha9 : Ext wr wa9 := hd0.trans (hd9.below _)
       go_simp
       refine hK.out _ _ trivial (fun hHeld => ?_)
       clear hK K
       try simp only [rtPr, Act.put]
       refine wpAnyH_ready (rs := [4, 8]) (by kernel_rfl) (by simp) ?_
       refine AllReadyH.cons rfl (fun K hK => ?_) ?_
       ·skip
        have hx := ha9
        go_simp
        clear hx
        refine hK.out _ _ trivial (fun hHeld => ?_)
        clear hK K
        try simp only [rtPr, Act.put]
        refine wpAnyH_ready (rs := [8]) (by kernel_rfl) (by simp) ?_
        refine AllReadyH.cons rfl (fun K hK => ?_) ?_
        ·skip
         go_simp
         go_at_call 69
         refine (with_c _ (HST.out.ext ha9) HG.out HL.out hR.out.ch HNC.out).mono ?_
         rintro e wa11 ⟨q, rfl, hxw, hq⟩
         have HQ := Lib.hid (push_ok (g := g) (gr := gr) hq ha9 hR.out.rt (fun b hb => Nat.le_trans hxr.size hb))
         clear hq
         have ha11 : Ext wr wa11 := ha9.trans hxw
         clear hxw
         go_simp
         refine hK.out _ _ trivial (fun hHeld => ?_)
         clear hK K
         try simp only [rtPr, Act.put]
         refine wpAnyH_ready (rs := [9]) (by kernel_rfl) (by simp) ?_
         refine AllReadyH.cons rfl (fun K hK => ?_) ?_
         ·skip
          go_simp
          refine hK.out _ _ trivial (fun hHeld => ?_)
          clear hK K
          try simp only [rtPr, Act.put]
          refine wpAnyH_ready (rs := [10]) (by kernel_rfl) (by simp) ?_
          refine AllReadyH.cons rfl (fun K hK => ?_) ?_
          ·skip
           have hr4 := hR.out.rt.ext ha11
           have HR4 := Lib.hid hr4
           have hc4 : wa11.cell? ⟨g, 0, none⟩ = some (.slice (some ⟨gr, 0, none⟩) pt.length cap) := hr4.blk.cell (k := 0) rfl
           have hf4 : wa11.frozen? ⟨g, 0, none⟩ = false := hr4.blk.frozen 0
           clear hr4
           refine step_append_lies (P := Try.prog) _ (by rfl) _ _ 85 (by rfl) 0 88 i0 (.pointer none) 1 8 Try.underlying85 IF.out IZ0.out IZ1.out IZ2.out rfl (by decide) (.slice (some ⟨gr, 0, none⟩) pt.length cap) pt.length _ (by rfl) (HR4.out.row.1.alloc _) ⟨wa11.heap.size, 0, none⟩ 1 1 [ptrV q] (by rfl) rfl (cell_one_new _ _ _) (by simp [ptrV, Value.oneCell']) (by decide) (by unfold maxLen; omega) (by omega) (Nat.zero_le _) (wa11.heap.size + 1) (by simp) ?_
           intro g5 c5 w9 hown hg hv _
           obtain ⟨gr', cap', hvv, hrt9, hch9⟩ := HR4.out.push HQ.out (fun b hb => Nat.le_trans hxr.size (Nat.le_trans ha11.size hb)) (fun b hb => Nat.lt_of_lt_of_le (HYB.out b hb) (Nat.le_trans hxr.size ha11.size)) hown hg (by rcases hv with hv | hv; exact .inl hv.symm; exact .inr (congrArg some hv))
           have hblk9 : w9.heap[g]? = wa11.heap[g]? := (hg.block g (by have := lt_of_some HR4.out.blk; simp; omega) (fun e => HR4.out.ne (by injection e))).trans (Below.heap_alloc _ _ _ (lt_of_some HR4.out.blk))
           have hc9 : w9.cell? ⟨g, 0, none⟩ = some (.slice (some ⟨gr, 0, none⟩) pt.length cap) := (World.cell?_of_block hblk9).trans hc4
           have hf9 : w9.frozen? ⟨g, 0, none⟩ = false := (World.frozen?_of_block (a := ⟨g, 0, none⟩) hblk9).trans hf4
           have HE9 : Hid (Ext w (w9.setCell ⟨g, 0, none⟩ (.slice (some ⟨g5, 0, none⟩) (pt.length + 1) c5))) := Below.trans (hxr.trans ha11) (hch9.below (Nat.le_trans hxr.size ha11.size) (fun b hb => hb))
           have HRT9 := Lib.hid hrt9
           clear hown hg hv hrt9 hch9 hblk9 hc4 hf4
           refine hK.out _ _ trivial (fun hHeld => ?_)
           clear hK K
           try simp only [rtPr, Act.put]
           refine wpAnyH_ready (rs := [11]) (by kernel_rfl) (by simp) ?_
           refine AllReadyH.cons rfl (fun K hK => ?_) ?_
           ·skip
            go_simp
            refine hK.out _ _ trivial (fun hHeld => ?_)
            clear hK K
            try simp only [rtPr, Act.put]
            refine wpAnyH_ready (rs := [12]) (by kernel_rfl) (by simp) ?_
            refine AllReadyH.cons rfl (fun K hK => ?_) ?_
            ·skip
             go_simp
             refine hK.out _ _ trivial (fun hHeld => ?_)
             clear hK K
             try simp only [rtPr, Act.put]
             refine wpAnyH_ready (rs := [13]) (by kernel_rfl) (by simp) ?_
             refine AllReadyH.cons rfl (fun K hK => ?_) ?_
             ·skip
              go_simp
              refine hK.out _ _ trivial (fun hHeld => ?_)
              clear hK K
              try simp only [rtPr, Act.put]
              refine wpAnyH_done (by kernel_rfl) ?_ _
              go_wp2_with fail
              go_roundg (ch.length - (k + 1))
              case measure => omega
              case rel => exact ⟨k + 1, _, _, _, by go_num, hlt, rfl, ⟨by have := HRT9.out; rwa [hcs.out] at this, HE9.out, by rw [← hcs.out]; exact .snoc hR.out.ch HNC.out⟩⟩
             exact AllReadyH.nil
            exact AllReadyH.nil
           exact AllReadyH.nil
          exact AllReadyH.nil
         exact AllReadyH.nil
        exact AllReadyH.nil
       refine AllReadyH.cons rfl (fun K hK => ?_) ?_
       ·skip
        go_simp
        go_at_call 69
        refine (with_c _ (HST.out.ext ha9) HG.out HL.out hR.out.ch HNC.out).mono ?_
        rintro e wa17 ⟨q, rfl, hxw, hq⟩
        have HQ := Lib.hid (push_ok (g := g) (gr := gr) hq ha9 hR.out.rt (fun b hb => Nat.le_trans hxr.size hb))
        clear hq
        have ha17 : Ext wr wa17 := ha9.trans hxw
        clear hxw
        go_simp
        refine hK.out _ _ trivial (fun hHeld => ?_)
        clear hK K
        try simp only [rtPr, Act.put]
        refine wpAnyH_ready (rs := [4, 9]) (by kernel_rfl) (by simp) ?_
        refine AllReadyH.cons rfl (fun K hK => ?_) ?_
        ·skip
         have hx := ha17
         go_simp
         clear hx
         refine hK.out _ _ trivial (fun hHeld => ?_)
         clear hK K
         try simp only [rtPr, Act.put]
         refine wpAnyH_ready (rs := [9]) (by kernel_rfl) (by simp) ?_
         refine AllReadyH.cons rfl (fun K hK => ?_) ?_
         ·skip
          go_simp
          refine hK.out _ _ trivial (fun hHeld => ?_)
          clear hK K
          try simp only [rtPr, Act.put]
          refine wpAnyH_ready (rs := [10]) (by kernel_rfl) (by simp) ?_
          refine AllReadyH.cons rfl (fun K hK => ?_) ?_
          ·skip
           have hr4 := hR.out.rt.ext ha17
           have HR4 := Lib.hid hr4
           have hc4 : wa17.cell? ⟨g, 0, none⟩ = some (.slice (some ⟨gr, 0, none⟩) pt.length cap) := hr4.blk.cell (k := 0) rfl
           have hf4 : wa17.frozen? ⟨g, 0, none⟩ = false := hr4.blk.frozen 0
           clear hr4
           refine step_append_lies (P := Try.prog) _ (by rfl) _ _ 85 (by rfl) 0 88 i0 (.pointer none) 1 8 Try.underlying85 IF.out IZ0.out IZ1.out IZ2.out rfl (by decide) (.slice (some ⟨gr, 0, none⟩) pt.length cap) pt.length _ (by rfl) (HR4.out.row.1.alloc _) ⟨wa17.heap.size, 0, none⟩ 1 1 [ptrV q] (by rfl) rfl (cell_one_new _ _ _) (by simp [ptrV, Value.oneCell']) (by decide) (by unfold maxLen; omega) (by omega) (Nat.zero_le _) (wa17.heap.size + 1) (by simp) ?_
           intro g5 c5 w9 hown hg hv _
           obtain ⟨gr', cap', hvv, hrt9, hch9⟩ := HR4.out.push HQ.out (fun b hb => Nat.le_trans hxr.size (Nat.le_trans ha17.size hb)) (fun b hb => Nat.lt_of_lt_of_le (HYB.out b hb) (Nat.le_trans hxr.size ha17.size)) hown hg (by rcases hv with hv | hv; exact .inl hv.symm; exact .inr (congrArg some hv))
           have hblk9 : w9.heap[g]? = wa17.heap[g]? := (hg.block g (by have := lt_of_some HR4.out.blk; simp; omega) (fun e => HR4.out.ne (by injection e))).trans (Below.heap_alloc _ _ _ (lt_of_some HR4.out.blk))
           have hc9 : w9.cell? ⟨g, 0, none⟩ = some (.slice (some ⟨gr, 0, none⟩) pt.length cap) := (World.cell?_of_block hblk9).trans hc4
           have hf9 : w9.frozen? ⟨g, 0, none⟩ = false := (World.frozen?_of_block (a := ⟨g, 0, none⟩) hblk9).trans hf4
           have HE9 : Hid (Ext w (w9.setCell ⟨g, 0, none⟩ (.slice (some ⟨g5, 0, none⟩) (pt.length + 1) c5))) := Below.trans (hxr.trans ha17) (hch9.below (Nat.le_trans hxr.size ha17.size) (fun b hb => hb))
           have HRT9 := Lib.hid hrt9
           clear hown hg hv hrt9 hch9 hblk9 hc4 hf4
           refine hK.out _ _ trivial (fun hHeld => ?_)
           clear hK K
           try simp only [rtPr, Act.put]
           refine wpAnyH_ready (rs := [11]) (by kernel_rfl) (by simp) ?_
           refine AllReadyH.cons rfl (fun K hK => ?_) ?_
           ·skip
            go_simp
            refine hK.out _ _ trivial (fun hHeld => ?_)
            clear hK K
            try simp only [rtPr, Act.put]
            refine wpAnyH_ready (rs := [12]) (by kernel_rfl) (by simp) ?_
            refine AllReadyH.cons rfl (fun K hK => ?_) ?_
            ·skip
             go_simp
             refine hK.out _ _ trivial (fun hHeld => ?_)
             clear hK K
             try simp only [rtPr, Act.put]
             refine wpAnyH_ready (rs := [13]) (by kernel_rfl) (by simp) ?_
             refine AllReadyH.cons rfl (fun K hK => ?_) ?_
             ·skip
              go_simp
              refine hK.out _ _ trivial (fun hHeld => ?_)
              clear hK K
              try simp only [rtPr, Act.put]
              refine wpAnyH_done (by kernel_rfl) ?_ _
              go_wp2_with fail
              go_roundg (ch.length - (k + 1))
              case measure => omega
              case rel => exact ⟨k + 1, _, _, _, by go_num, hlt, rfl, ⟨by have := HRT9.out; rwa [hcs.out] at this, HE9.out, by rw [← hcs.out]; exact .snoc hR.out.ch HNC.out⟩⟩
             exact AllReadyH.nil
            exact AllReadyH.nil
           exact AllReadyH.nil
          exact AllReadyH.nil
         exact AllReadyH.nil
        refine AllReadyH.cons rfl (fun K hK => ?_) ?_
        ·skip
         go_simp
         refine hK.out _ _ trivial (fun hHeld => ?_)
         clear hK K
         try simp only [rtPr, Act.put]
         refine wpAnyH_ready (rs := [4]) (by kernel_rfl) (by simp) ?_
         refine AllReadyH.cons rfl (fun K hK => ?_) ?_
         ·skip
          have hx := (ha17.alloc (.cells #[.pointer (some ⟨q, 0, none⟩)] 88))
          go_simp
          clear hx
          refine hK.out _ _ trivial (fun hHeld => ?_)
          clear hK K
          try simp only [rtPr, Act.put]
          refine wpAnyH_ready (rs := [10]) (by kernel_rfl) (by simp) ?_
          refine AllReadyH.cons rfl (fun K hK => ?_) ?_
          ·skip
           have hr4 := hR.out.rt.ext ha17
           have HR4 := Lib.hid hr4
           have hc4 : wa17.cell? ⟨g, 0, none⟩ = some (.slice (some ⟨gr, 0, none⟩) pt.length cap) := hr4.blk.cell (k := 0) rfl
           have hf4 : wa17.frozen? ⟨g, 0, none⟩ = false := hr4.blk.frozen 0
           clear hr4
           refine step_append_lies (P := Try.prog) _ (by rfl) _ _ 85 (by rfl) 0 88 i0 (.pointer none) 1 8 Try.underlying85 IF.out IZ0.out IZ1.out IZ2.out rfl (by decide) (.slice (some ⟨gr, 0, none⟩) pt.length cap) pt.length _ (by rfl) (HR4.out.row.1.alloc _) ⟨wa17.heap.size, 0, none⟩ 1 1 [ptrV q] (by rfl) rfl (cell_one_new _ _ _) (by simp [ptrV, Value.oneCell']) (by decide) (by unfold maxLen; omega) (by omega) (Nat.zero_le _) (wa17.heap.size + 1) (by simp) ?_
           intro g5 c5 w9 hown hg hv _
           obtain ⟨gr', cap', hvv, hrt9, hch9⟩ := HR4.out.push HQ.out (fun b hb => Nat.le_trans hxr.size (Nat.le_trans ha17.size hb)) (fun b hb => Nat.lt_of_lt_of_le (HYB.out b hb) (Nat.le_trans hxr.size ha17.size)) hown hg (by rcases hv with hv | hv; exact .inl hv.symm; exact .inr (congrArg some hv))
           have hblk9 : w9.heap[g]? = wa17.heap[g]? := (hg.block g (by have := lt_of_some HR4.out.blk; simp; omega) (fun e => HR4.out.ne (by injection e))).trans (Below.heap_alloc _ _ _ (lt_of_some HR4.out.blk))
           have hc9 : w9.cell? ⟨g, 0, none⟩ = some (.slice (some ⟨gr, 0, none⟩) pt.length cap) := (World.cell?_of_block hblk9).trans hc4
           have hf9 : w9.frozen? ⟨g, 0, none⟩ = false := (World.frozen?_of_block (a := ⟨g, 0, none⟩) hblk9).trans hf4
           have HE9 : Hid (Ext w (w9.setCell ⟨g, 0, none⟩ (.slice (some ⟨g5, 0, none⟩) (pt.length + 1) c5))) := Below.trans (hxr.trans ha17) (hch9.below (Nat.le_trans hxr.size ha17.size) (fun b hb => hb))
           have HRT9 := Lib.hid hrt9
           clear hown hg hv hrt9 hch9 hblk9 hc4 hf4
           refine hK.out _ _ trivial (fun hHeld => ?_)
           clear hK K
           try simp only [rtPr, Act.put]
           refine wpAnyH_ready (rs := [11]) (by kernel_rfl) (by simp) ?_
           refine AllReadyH.cons rfl (fun K hK => ?_) ?_
           ·skip
            go_simp
            refine hK.out _ _ trivial (fun hHeld => ?_)
            clear hK K
            try simp only [rtPr, Act.put]
            refine wpAnyH_ready (rs := [12]) (by kernel_rfl) (by simp) ?_
            refine AllReadyH.cons rfl (fun K hK => ?_) ?_
            ·skip
             go_simp
             refine hK.out _ _ trivial (fun hHeld => ?_)
             clear hK K
             try simp only [rtPr, Act.put]
             refine wpAnyH_ready (rs := [13]) (by kernel_rfl) (by simp) ?_
             refine AllReadyH.cons rfl (fun K hK => ?_) ?_
             ·skip
              go_simp
              refine hK.out _ _ trivial (fun hHeld => ?_)
              clear hK K
              try simp only [rtPr, Act.put]
              refine wpAnyH_done (by kernel_rfl) ?_ _
              go_wp2_with fail
              go_roundg (ch.length - (k + 1))
              case measure => omega
              case rel => exact ⟨k + 1, _, _, _, by go_num, hlt, rfl, ⟨by have := HRT9.out; rwa [hcs.out] at this, HE9.out, by rw [← hcs.out]; exact .snoc hR.out.ch HNC.out⟩⟩
             exact AllReadyH.nil
            exact AllReadyH.nil
           exact AllReadyH.nil
          exact AllReadyH.nil
         exact AllReadyH.nil
        exact AllReadyH.nil
       exact AllReadyH.nil
      exact AllReadyH.nil
     ·rw [decide_eq_false hnc]
      have hle : loadE m ch st = 51 := by
       rw [HLE.out]
       have : isChB m ch = false := by
        rw [Bool.eq_false_iff]
        intro h
        have h1 := (isChB_iff.1 h).at hlt
        rw [← HN.out] at h1
        exact hnc h1
       rw [this]
       rfl
      have hfin : LoadPost w Y m ch st (.returned (.tuple #[.pointer none, .int .i64 51])) w6 := ⟨.pointer none, by rw [hle], hxr.trans hx6, .inl ⟨by rw [hle]; decide, rfl⟩⟩
      have HFIN := Lib.hid hfin
      clear hfin hle hnc
      go_wp2_with fail
      go_ret2
      exact HFIN.out
    ·have hkk : k = ch.length := by omega
     subst hkk
     have HTK : Hid (ch.take ch.length = ch) := List.take_length
     have HIC : Hid (IsCh m ch) := by have := hR.out.ch; rwa [HTK.out] at this
     have hib : isChB m ch = true := isChB_iff.2 HIC.out
     rw [hib] at HLE
     have HIB := Lib.hid hib
     clear hib
     rw [HTK.out] at HST
     by_cases hnil : ch = []
     ·have hz1 : decide ((0 : Int) < (ch.length : Int)) = false := by rw [hnil]; rfl
      have hz2 : ((ch.length : Int) == 0) = true := by rw [hnil]; rfl
      have hz3 : decide (0 < ch.length) = false := by rw [hnil]; rfl
      have hz4 : decide (ch.length = 0) = true := by rw [hnil]; rfl
      have HNIL := Lib.hid hnil
      have HLE0 : Hid (loadE m ch st = 0) := by show _ = _; rw [HLE.out, decide_eq_true hnil]; rfl
      clear hnil
      go_wp2_with fail
      refine (HLX.out wr (Ext.refl _)).mono ?_
      rintro e w8 ⟨rfl, hd8⟩
      have hx8 : Ext wr w8 := Ext.trans (Ext.refl _) (hd8.below _)
      clear hd8
      go_wp2_with fail
      refine (complete_c w8 (HST.out.ext hx8) HG.out HL.out HIC.out).mono ?_
      rintro e w9 ⟨rfl, hd9⟩
      have hx9 : Ext wr w9 := hx8.trans (hd9.below _)
      clear hd9 hx8
      obtain ⟨cb, hcb⟩ : ∃ cb, cb = cmpC m ch := ⟨_, rfl⟩
      rw [← hcb]
      have HCB := Lib.hid hcb
      clear hcb
      have hrt9 := hR.out.rt.ext hx9
      have hc9 : w9.cell? ⟨g, 1, none⟩ = some (.bool false) := hrt9.blk.cell (k := 1) rfl
      have hf9 : w9.frozen? ⟨g, 1, none⟩ = false := hrt9.blk.frozen 1
      have HFIN : Hid (∀ d, d = (loadS m ch st).done → LoadPost w Y m ch st (.returned (.tuple #[.pointer (some ⟨g, 0, none⟩), .int .i64 0])) (w9.setCell ⟨g, 1, none⟩ (.bool d))) := fun d hd => load_fin hrt9 (hxr.trans hx9) HTK.out HIC.out HG.out HLE0.out hd
      clear hrt9
      cases cb with
      | true =>
       go_wp2_with fail
       go_ret2
       exact HFIN.out true (by unfold loadS; rw [← HCB.out]; rfl)
      | false =>
       by_cases hsp : 0 < st
       ·have hs1 : decide (0 < st) = true := decide_eq_true hsp
        go_wp2_with fail
        go_ret2
        exact HFIN.out true (by unfold loadS; rw [← HCB.out, HNIL.out]; simp [hsp])
       ·have hs1 : decide (0 < st) = false := decide_eq_false hsp
        go_wp2_with fail
        go_ret2
        exact HFIN.out false (by unfold loadS; rw [← HCB.out, HNIL.out]; simp [hsp])
     ·have hpos : 0 < ch.length := List.length_pos_iff.2 hnil
      have hz1 : decide ((0 : Int) < (ch.length : Int)) = true := decide_eq_true (by omega)
      have hz2 : ((ch.length : Int) == 0) = false := by rw [beq_eq_false_iff_ne]; omega
      have hz3 : decide (0 < ch.length) = true := decide_eq_true hpos
      have hz4 : decide (ch.length = 0) = false := decide_eq_false (by omega)
      have HNN := Lib.hid hnil
      clear hnil
      go_wp2_with fail
      refine (HLX.out wr (Ext.refl _)).mono ?_
      rintro e w5 ⟨rfl, hd5⟩
      have hx5 : Ext wr w5 := hd5.below _
      clear hd5
      go_wp2_with fail
      refine (open_c w5 (HST.out.ext hx5) HG.out HL.out HIC.out).mono ?_
      rintro e w6 ⟨rfl, hx6⟩
      have hx6 : Ext wr w6 := hx5.trans hx6
      clear hx5
      obtain ⟨ob, hob⟩ : ∃ ob, ob = openC m ch := ⟨_, rfl⟩
      rw [← hob]
      have HOB := Lib.hid hob; clear hob
      cases ob with
      | false =>
       have hle : loadE m ch st = 51 := by rw [HLE.out, decide_eq_false HNN.out, ← HOB.out]; rfl
       have hfin : LoadPost w Y m ch st (.returned (.tuple #[.pointer none, .int .i64 51])) w6 := ⟨.pointer none, by rw [hle], hxr.trans hx6, .inl ⟨by rw [hle]; decide, rfl⟩⟩
       have HFIN := Lib.hid hfin
       clear hfin hle
       go_wp2_with fail
       go_ret2
       exact HFIN.out
      | true =>
       have HLE0 : Hid (loadE m ch st = 0) := by show _ = _; rw [HLE.out, decide_eq_false HNN.out, ← HOB.out]; rfl
       go_wp2_with fail
       refine (HLX.out w6 hx6).mono ?_
       rintro e w8 ⟨rfl, hd8⟩
       have hx8 : Ext wr w8 := Ext.trans hx6 (hd8.below _)
       clear hd8
       go_wp2_with fail
       refine (complete_c w8 (HST.out.ext hx8) HG.out HL.out HIC.out).mono ?_
       rintro e w9 ⟨rfl, hd9⟩
       have hx9 : Ext wr w9 := hx8.trans (hd9.below _)
       clear hd9 hx8
       obtain ⟨cb, hcb⟩ : ∃ cb, cb = cmpC m ch := ⟨_, rfl⟩
       rw [← hcb]
       have HCB := Lib.hid hcb
       clear hcb
       have hrt9 := hR.out.rt.ext hx9
       have hc9 : w9.cell? ⟨g, 1, none⟩ = some (.bool false) := hrt9.blk.cell (k := 1) rfl
       have hf9 : w9.frozen? ⟨g, 1, none⟩ = false := hrt9.blk.frozen 1
       have HFIN : Hid (∀ d, d = (loadS m ch st).done → LoadPost w Y m ch st (.returned (.tuple #[.pointer (some ⟨g, 0, none⟩), .int .i64 0])) (w9.setCell ⟨g, 1, none⟩ (.bool d))) := fun d hd => load_fin hrt9 (hxr.trans hx9) HTK.out HIC.out HG.out HLE0.out hd
       clear hrt9
       cases cb with
       | true =>
        go_wp2_with fail
        go_ret2
        exact HFIN.out true (by unfold loadS; rw [← HCB.out]; rfl)
       | false =>
        go_wp2_with fail
        go_ret2
        exact HFIN.out false (by unfold loadS; rw [← HCB.out]; simp [HNN.out])
end Go.Proofs.Ytgpjfpcjiebjiaa

namespace Go.Proofs.Ytgpjfpcjiebjiaa
open Go.RowKit
set_option linter.unusedVariables false
set_option linter.unusedSimpArgs false
attribute [local go_sem ↓] Go.wp_at_zero Go.wp_at_succ

set_option maxHeartbeats 1000000 in
set_option maxRecDepth 100000 in
theorem new_calls {Y : Nat → Prop} {v : Value} {m : MZ} (w : World) (hm : MazeV w Y v m) (hl : Lens m) (hYb : ∀ b, Y b → b < w.heap.size) :
  Calls Try.prog 22 #[v] w (LoadPost w Y m [] 0) := by
 have hmz := hm
 obtain ⟨vfr, vup, vts, rfl, _, _, _⟩ := hm
 have HMZ := Lib.hid hmz; clear hmz
 have HL := Lib.hid hl; clear hl
 have HYB := Lib.hid hYb; clear hYb
 go_enter Try.func22, Try.ntmps22
 go_wp2_with fail
 generalize hw1 : w.alloc (.cells #[.int .i64 m.w, .int .i64 m.h, .int .i64 m.l, vfr, vup, vts] 31) = w1
 have hb1 : Ext w w1 := by rw [← hw1]; exact (Ext.refl w).alloc _
 clear hw1
 refine (load_calls (okc := fun _ => True) 0 w1 (HMZ.out.below hb1) HL.out (Ints.nil _ _) (by simp) (fun b hb => Nat.lt_of_lt_of_le (HYB.out b hb) hb1.size)).mono ?_
 rintro e w2 ⟨v2, rfl, hE, hp⟩
 have hfin : LoadPost w Y m [] 0 (.returned (.tuple #[v2, .int .i64 (loadE m [] 0)])) w2 := by
  refine ⟨v2, rfl, hb1.trans hE, ?_⟩
  rcases hp with hp | ⟨h1, h2, h3, g, gr, cap, pt, h4, h5⟩
  ·exact .inl hp
  ·exact .inr ⟨h1, h2, h3, g, gr, cap, pt, h4, h5.widen (fun b hb => Nat.le_trans hb1.size hb)⟩
 have HFIN := Lib.hid hfin
 clear hfin hp hE
 go_wp2_with fail
 go_ret2
 exact HFIN.out

/-- Are these choices of the maze? -/
def okC (m : MZ) (ch : List Int) : Bool := decide (chk m = 0) && isChB m ch
def SoPost (w : World) (Y : Nat → Prop) (m : MZ) (ch : List Int) (e : Ending) (w' : World) : Prop :=
 ∃ v, e = .returned (.tuple #[v, .bool (okC m ch)]) ∧ Ext w w' ∧ ((okC m ch = false ∧ v = .pointer none) ∨ (okC m ch = true ∧ ∃ p, v = .pointer (some ⟨p, 0, none⟩) ∧ StC w' (fun b => Y b ∨ w.heap.size ≤ b) p m ch))
theorem okC_true {m : MZ} {ch : List Int} (h : okC m ch = true) : Good m ∧ IsCh m ch := by
 unfold okC at h
 rw [Bool.and_eq_true, decide_eq_true_eq] at h
 exact ⟨Good.of h.1, isChB_iff.1 h.2⟩

set_option maxHeartbeats 4000000 in
set_option maxRecDepth 100000 in
theorem stateOf_calls {okc Y : Nat → Prop} {v vc : Value} {m : MZ} {ch : List Int} (w : World) (hm : MazeV w Y v m) (hl : Lens m) (hch : Ints w okc vc ch) (hlc : ch.length ≤ 20000000000000) :
  Calls Try.prog 72 #[v, vc] w (SoPost w Y m ch) := by
 have hmz := hm
 obtain ⟨vfr, vup, vts, rfl, _, _, _⟩ := hm
 have HMZ := Lib.hid hmz; clear hmz
 obtain ⟨Ac, cc, rfl, hcc, hrc⟩ := hch
 have HRC := Lib.hid hrc; clear hrc
 have HL := Lib.hid hl; clear hl
 obtain ⟨ck, hck⟩ : ∃ ck, ck = chk m := ⟨_, rfl⟩
 have HCK := Lib.hid hck; clear hck
 go_enter Try.func72, Try.ntmps72
 go_wp2_with fail
 generalize hw1 : w.alloc (.cells #[.int .i64 m.w, .int .i64 m.h, .int .i64 m.l, vfr, vup, vts] 31) = w1
 have hb1 : Ext w w1 := by rw [← hw1]; exact (Ext.refl w).alloc _
 have hgm : Blk w1 w.heap.size 31 #[.int .i64 m.w, .int .i64 m.h, .int .i64 m.l, vfr, vup, vts] := by rw [← hw1]; exact heap_alloc_new _ _
 clear hw1
 obtain ⟨m0, m1, m2, m3, m4, m5⟩ := cells6 hgm
 have c0 := Ext.rule m0
 have c1 := Ext.rule m1
 have c2 := Ext.rule m2
 have c3 := Ext.rule m3
 have c4 := Ext.rule m4
 have c5 := Ext.rule m5
 clear m0 m1 m2 m3 m4 m5 hgm
 refine (check_calls w1 (HMZ.out.below hb1) HL.out).mono ?_
 rintro e w2 ⟨rfl, hx2⟩
 have hx2 : Ext w1 w2 := hx2
 have hE2 : Ext w w2 := hb1.trans hx2
 rw [← HCK.out]
 by_cases h0 : ck = 0
 case neg =>
  have hq1 : (ck == 0) = false := by rw [beq_eq_false_iff_ne]; exact h0
  have hq2 : (ck != 0) = true := by rw [bne_iff_ne]; exact h0
  have hle : okC m ch = false := by unfold okC; rw [← HCK.out, decide_eq_false h0]; rfl
  have hfin : SoPost w Y m ch (.returned (.tuple #[.pointer none, .bool false])) w2 := ⟨.pointer none, by rw [hle], hE2, .inl ⟨hle, rfl⟩⟩
  have HFIN := Lib.hid hfin
  clear hfin hle h0
  go_wp2_with fail
  go_ret2
  exact HFIN.out
 case pos =>
  subst h0
  have HG := Lib.hid (Good.of HCK.out.symm)
  have hdim := HG.out.dim
  have hn1 := hdim.n1
  have hlay := hdim.layer
  have HD := Lib.hid hdim; clear hdim
  have HOK : Hid (okC m ch = isChB m ch) := by show _ = _; unfold okC; rw [← HCK.out]; rfl
  go_wp2_with fail
  refine (rnodes_calls m.w m.h m.l vfr vup vts w2 (by omega) (by omega)).mono ?_
  rintro e w3 ⟨rfl, hx3⟩
  have hx3 : Ext w2 w3 := hx3
  have hE3 : Ext w w3 := hE2.trans hx3
  have hE13 : Ext w1 w3 := Ext.trans ‹Ext w1 w2› hx3
  by_cases hlen : m.w * m.h * m.l < (ch.length : Int)
  ·have hgd : decide (m.w * m.h * m.l < (ch.length : Int)) = true := decide_eq_true hlen
   have hle : okC m ch = false := by
    rw [HOK.out, Bool.eq_false_iff]
    intro h
    have h1 := (isChB_iff.1 h).len HG.out
    have h2 : m.n = m.w * m.h * m.l := rfl
    omega
   have hfin : SoPost w Y m ch (.returned (.tuple #[.pointer none, .bool false])) w3 := ⟨.pointer none, by rw [hle], hE3, .inl ⟨hle, rfl⟩⟩
   have HFIN := Lib.hid hfin
   clear hfin hle
   go_wp2_with fail
   go_ret2
   exact HFIN.out
  ·have hgd : decide (m.w * m.h * m.l < (ch.length : Int)) = false := decide_eq_false hlen
   have hlen3 : ch.length ≤ 300 := by omega
   clear hlen hlay hn1
   go_wp2_with fail
   refine (begin_c w3 (HMZ.out.below hE3) (by have := HG.out.tk; omega)).mono ?_
   rintro e w4 ⟨p, rfl, hx4, hst4⟩
   have hE4 : Ext w w4 := hE3.trans hx4
   have H0 : Hid (StC w4 (fun b => Y b ∨ w.heap.size ≤ b) p m (ch.take 0)) := by
    have := hE3.size
    exact hst4.weaken fun b hb => by
     rcases hb with hb | hb
     ·exact .inl hb
     ·exact .inr (by omega)
   have hic0 : Hid (IsCh m (ch.take 0)) := by show IsCh m (ch.take 0); simpa using IsCh.nil
   clear hst4 hgd c0 c1 c2 c3 c4 c5
   go_wp2_with fail
   go_loopg [6, 23] ch.length (fun gk v6 v wr => ∃ (k p : Nat), v6 = .pointer (some ⟨p, 0, none⟩) ∧ v = .int .i64 k ∧ k ≤ ch.length ∧ gk = ch.length - k ∧ Hid (StC wr (fun b => Y b ∨ w.heap.size ≤ b) p m (ch.take k)) ∧ Hid (IsCh m (ch.take k)) ∧ Hid (Ext w wr))
   case atStart => exact ⟨0, p, rfl, rfl, Nat.zero_le _, rfl, H0, hic0, hE4⟩
   clear H0 hic0
   case round =>
    obtain ⟨k, p, rfl, rfl, hk, rfl, hS, hI, hX⟩ := hrel
    have hxr := hX.out
    rcases Nat.lt_or_ge k ch.length with hlt | hge
    ·obtain ⟨bc, oc, rfl, _, hcell⟩ := intsAt HRC.out hlt hlt
     obtain ⟨n, hn⟩ : ∃ n, n = ch[k] := ⟨_, rfl⟩
     rw [← hn] at hcell
     have q0 := Ext.rule hcell
     have HN := Lib.hid hn
     clear hcell hn
     go_wp2_with fail
     refine (candidates_c wr hS.out HG.out HL.out hI.out).mono ?_
     rintro e w6 ⟨v6, rfl, hM⟩
     have hx6 : Ext wr w6 := hM.ext
     have HM := Lib.hid hM.ints
     clear hM
     go_wp2_with fail
     refine (contains_calls n w6 HM.out (by have := cand_len HL.out (ch.take k); omega)).mono ?_
     rintro e w7 ⟨rfl, rfl⟩
     by_cases hnc : n ∈ cand m (ch.take k)
     ·rw [decide_eq_true hnc]
      have HNC := Lib.hid hnc
      clear hnc
      have hcs : Hid (ch.take k ++ [n] = ch.take (k + 1)) := by show _ = _; rw [List.take_succ_eq_append_getElem hlt, HN.out]
      go_wp2_with fail
      refine (with_c w6 (hS.out.ext hx6) HG.out HL.out hI.out HNC.out).mono ?_
      rintro e w8 ⟨q, rfl, hx8, hq⟩
      have HQ : Hid (StC w8 (fun b => Y b ∨ w.heap.size ≤ b) q m (ch.take (k + 1))) := by
       have := (hxr.trans hx6).size
       rw [← hcs.out]
       exact hq.weaken fun b hb => by
        rcases hb with hb | hb
        ·exact hb.1
        ·exact .inr (by omega)
      have hI2 : Hid (IsCh m (ch.take (k + 1))) := by rw [← hcs.out]; exact .snoc hI.out HNC.out
      have hX2 : Hid (Ext w w8) := hxr.trans (hx6.trans hx8)
      clear hq hx8 hx6 hxr
      go_wp2_with fail
      go_roundg (ch.length - (k + 1))
      case measure => omega
      case rel => exact ⟨k + 1, q, rfl, by go_num, hlt, rfl, HQ, hI2, hX2⟩
     ·rw [decide_eq_false hnc]
      have hle : okC m ch = false := by
       rw [HOK.out, Bool.eq_false_iff]
       intro h
       have h1 := (isChB_iff.1 h).at hlt
       rw [← HN.out] at h1
       exact hnc h1
      have hfin : SoPost w Y m ch (.returned (.tuple #[.pointer none, .bool false])) w6 := ⟨.pointer none, by rw [hle], hxr.trans hx6, .inl ⟨hle, rfl⟩⟩
      have HFIN := Lib.hid hfin
      clear hfin hle hnc
      go_wp2_with fail
      go_ret2
      exact HFIN.out
    ·have hkk : k = ch.length := by omega
     subst hkk
     have HTK : Hid (ch.take ch.length = ch) := List.take_length
     have hfin : SoPost w Y m ch (.returned (.tuple #[.pointer (some ⟨p, 0, none⟩), .bool true])) wr := by
      have h1 := hI.out
      have h2 := hS.out
      rw [HTK.out] at h1 h2
      have h3 : okC m ch = true := by rw [HOK.out]; exact isChB_iff.2 h1
      exact ⟨_, by rw [h3], hxr, .inr ⟨h3, p, rfl, h2⟩⟩
     have HFIN := Lib.hid hfin
     clear hfin
     go_wp2_with fail
     go_ret2
     exact HFIN.out

/-- What Candidates returns. -/
def candO (m : MZ) (ch : List Int) : List Int := if okC m ch = true then cand m ch else []
set_option maxHeartbeats 1000000 in
set_option maxRecDepth 100000 in
theorem rCandidates_calls {okc Y : Nat → Prop} {v vc : Value} {m : MZ} {ch : List Int} (w : World) (hm : MazeV w Y v m) (hl : Lens m) (hch : Ints w okc vc ch) (hlc : ch.length ≤ 20000000000000) :
  Calls Try.prog 41 #[v, vc] w fun e w' => ∃ v', e = .returned v' ∧ Mk w w' v' (candO m ch) := by
 have hmz := hm
 obtain ⟨vfr, vup, vts, rfl, _, _, _⟩ := hm
 have HMZ := Lib.hid hmz; clear hmz
 have HL := Lib.hid hl; clear hl
 have HCH := Lib.hid hch
 obtain ⟨Ac, cc, rfl, hcc, _⟩ := hch
 obtain ⟨ok, hok⟩ : ∃ ok, ok = okC m ch := ⟨_, rfl⟩
 have HOK := Lib.hid hok; clear hok
 go_enter Try.func41, Try.ntmps41
 go_wp2_with fail
 generalize hw1 : w.alloc (.cells #[.int .i64 m.w, .int .i64 m.h, .int .i64 m.l, vfr, vup, vts] 31) = w1
 have hb1 : Ext w w1 := by rw [← hw1]; exact (Ext.refl w).alloc _
 clear hw1
 refine (stateOf_calls w1 (HMZ.out.below hb1) HL.out (HCH.out.below hb1) hlc).mono ?_
 rintro e w2 ⟨v2, rfl, hE, hp⟩
 rw [← HOK.out]
 rw [← HOK.out] at hp
 have hE2 : Ext w w2 := hb1.trans hE
 rcases hp with ⟨h1, rfl⟩ | ⟨h1, p, rfl, h2⟩
 ·subst h1
  have HFIN : Hid (Mk w w2 (.slice none 0 0) (candO m ch)) := by
   show Mk _ _ _ _
   unfold candO
   rw [← HOK.out]
   exact Mk.nil' hE2
  go_wp2_with fail
  go_ret
  exact ⟨_, rfl, HFIN.out⟩
 ·subst h1
  have HS := Lib.hid h2; clear h2
  go_wp2_with fail
  refine (candidates_c w2 HS.out (okC_true HOK.out.symm).1 HL.out (okC_true HOK.out.symm).2).mono ?_
  rintro e w3 ⟨v3, rfl, hM⟩
  have HFIN : Hid (Mk w w3 v3 (candO m ch)) := by
   show Mk _ _ _ _
   unfold candO
   rw [← HOK.out, if_pos rfl]
   exact hE2.mono_mk hM
  clear hM
  go_wp2_with fail
  go_ret
  exact ⟨_, rfl, HFIN.out⟩

/-- What Open returns. -/
noncomputable def openO (m : MZ) (ch : List Int) : Bool := okC m ch && openC m ch
set_option maxHeartbeats 1000000 in
set_option maxRecDepth 100000 in
theorem rOpen_calls {okc Y : Nat → Prop} {v vc : Value} {m : MZ} {ch : List Int} (w : World) (hm : MazeV w Y v m) (hl : Lens m) (hch : Ints w okc vc ch) (hlc : ch.length ≤ 20000000000000) :
  Calls Try.prog 38 #[v, vc] w fun e w' => e = .returned (.bool (openO m ch)) ∧ Ext w w' := by
 have hmz := hm
 obtain ⟨vfr, vup, vts, rfl, _, _, _⟩ := hm
 have HMZ := Lib.hid hmz; clear hmz
 have HL := Lib.hid hl; clear hl
 have HCH := Lib.hid hch
 obtain ⟨Ac, cc, rfl, hcc, _⟩ := hch
 obtain ⟨ok, hok⟩ : ∃ ok, ok = okC m ch := ⟨_, rfl⟩
 have HOK := Lib.hid hok; clear hok
 go_enter Try.func38, Try.ntmps38
 go_wp2_with fail
 generalize hw1 : w.alloc (.cells #[.int .i64 m.w, .int .i64 m.h, .int .i64 m.l, vfr, vup, vts] 31) = w1
 have hb1 : Ext w w1 := by rw [← hw1]; exact (Ext.refl w).alloc _
 clear hw1
 refine (stateOf_calls w1 (HMZ.out.below hb1) HL.out (HCH.out.below hb1) hlc).mono ?_
 rintro e w2 ⟨v2, rfl, hE, hp⟩
 rw [← HOK.out]
 rw [← HOK.out] at hp
 have hE2 : Ext w w2 := hb1.trans hE
 rcases hp with ⟨h1, rfl⟩ | ⟨h1, p, rfl, h2⟩
 ·subst h1
  have HF : Hid (openO m ch = false) := by show _ = _; unfold openO; rw [← HOK.out]; rfl
  go_wp2_with fail
  go_ret
  exact ⟨ret_bool HF.out.symm, hE2⟩
 ·subst h1
  have HS := Lib.hid h2; clear h2
  go_wp2_with fail
  refine (open_c w2 HS.out (okC_true HOK.out.symm).1 HL.out (okC_true HOK.out.symm).2).mono ?_
  rintro e w3 ⟨rfl, hE3⟩
  have HF : Hid (openO m ch = openC m ch) := by show _ = _; unfold openO; rw [← HOK.out]; rfl
  rw [← HF.out]
  go_wp2_with fail
  go_ret
  exact ⟨rfl, hE2.trans hE3⟩
end Go.Proofs.Ytgpjfpcjiebjiaa
